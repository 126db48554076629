import Derived.Test.YtghpfnhmlpfgcaaGreatWb38
import Derived.Deep.CutBlock
set_option linter.all false
namespace Go.Proofs.YtghpfnhmlpfgcaaGreat
open Go.RowKit
theorem all_rows {N : Nat} {w : World} {Z : Lin} {rs : List Value} {s2 s3 : Value} (hrl : rs.length = Z.m) (hr : ∀ i (hi : i < rs.length), LsR N 0 w.heap.size w rs[i] (Z.L i) (Z.A i)) (h2 : LsR N 0 w.heap.size w s2 Z.nl Z.l) (h3 : LsR N 0 w.heap.size w s3 Z.np Z.p) :
  ∀ i (hi : i < (rs ++ [s2, s3]).length), LsR N 0 w.heap.size w (rs ++ [s2, s3])[i] (allLen Z i) (allRow Z i) := by
 intro i hi
 have hl : i < Z.m + 2 := by simpa [hrl] using hi
 have hi' : i < Z.m ∨ i = Z.m ∨ i = Z.m + 1 := by omega
 rcases hi' with e | e | e
 ·have h9 : allLen Z i = Z.L i ∧ allRow Z i = Z.A i := by unfold allLen allRow; rw [if_pos e, if_pos e]; exact ⟨rfl, rfl⟩
  rw [h9.1, h9.2, List.getElem_append_left (by omega)]
  exact hr i (by omega)
 ·have h9 : allLen Z i = Z.nl ∧ allRow Z i = Z.l := by unfold allLen allRow; rw [if_neg (by omega), if_pos e, if_neg (by omega), if_pos e]; exact ⟨rfl, rfl⟩
  rw [h9.1, h9.2, List.getElem_append_right (by omega)]
  have h8 : i - rs.length = 0 := by omega
  simp only [h8]
  exact h2
 ·have h9 : allLen Z i = Z.np ∧ allRow Z i = Z.p := by unfold allLen allRow; rw [if_neg (by omega), if_neg (by omega), if_neg (by omega), if_neg (by omega)]; exact ⟨rfl, rfl⟩
  rw [h9.1, h9.2, List.getElem_append_right (by omega)]
  have h8 : i - rs.length = 1 := by omega
  simp only [h8]
  exact h3
set_option maxRecDepth 100000 in
set_option maxHeartbeats 8000000 in
theorem l37_code {N lo hi : Nat} {w : World} {v : Value} {Z : Lin} (h : LinV N lo hi w v Z) (hs : LinSz Z) (hp : ∀ i, i < Z.np → RawS (Z.p i)) (hm6 : Z.m ≤ 6) :
  Calls Tryz.prog 14 #[v] w (RetV w (.int .i64 (codeOf Z))) := by
 obtain ⟨r, hr⟩ := hid_eq (codeOf Z)
 rw [← hr.out]
 have hN : N ≤ w.heap.size := by obtain ⟨s1, s2, s3, -, h1, -⟩ := h; exact h1.le
 obtain ⟨A1, c1, A2, c2, A3, c3, rfl, h1, h2, h3, hm, hnl, hnp⟩ := h.parts
 obtain ⟨rs, hrl, hrr, hra, hr1⟩ := h1.vals
 have HS := Lib.hid hs
 have HP := Lib.hid hp
 have hhi := h1.2.1
 obtain ⟨q, hq⟩ := hid_eq (Z.m + 2)
 clear h hs hp
 have HRL := Lib.hid hrl
 have HRR := Lib.hid hrr
 have HRA := Lib.hid hra
 have HR1 := Lib.hid hr1
 clear hrl hrr hra hr1
 go_enter Tryz.func14, Tryz.ntmps14
 go_upto_region 1 with (fail)
 refine boxes1 ?_
 intro W hE hsz B0
 obtain ⟨a0, a1, a2, -⟩ := cells3 B0
 go_cut [14, 15, 16] (fun pv pl pz wx => ∃ A c, pv = .slice A q c ∧ pl = .int .i64 ((q : Nat) : Int) ∧ pz = .int .i64 0 ∧ MtR N 0 wx.heap.size wx (.slice A q c) q (allLen Z) (allRow Z) ∧ Ext W wx)
 case first =>
  have eC := (Ext.refl W).drew
  refine region_late (fun w' => w'.cell? ⟨w.heap.size, 0, none⟩ = some (.slice A1 Z.m c1) ∧ w'.cell? ⟨w.heap.size, 1, none⟩ = some (.slice A2 Z.nl c2) ∧ w'.cell? ⟨w.heap.size, 2, none⟩ = some (.slice A3 Z.np c3)) [] (by kernel_rfl) (by exact ⟨eC.cell a0, eC.cell a1, eC.cell a2⟩) (fun hHeld => ?_)
  refine sP 1 (h := ?_)
  try simp only [nr]
  refine sT 2 (h := ?_)
  try simp only [nr]
  refine sP 4 (h := ?_)
  try simp only [nr]
  refine sT 5 (h := ?_)
  try simp only [nr]
  refine sP 6 (h := ?_)
  try simp only [nr]
  refine sT 7 (h := ?_)
  try simp only [nr]
  refine sP 11 (h := ?_)
  try simp only [nr]
  refine stepL_two (i := 0) (j := 8) rfl rfl (by kernel_rfl) (fun K hK => ?_) (fun K hK => ?_)
  ·go_simp
   first | refine boxes1 ?_ | refine boxesD1 ?_
   intro w4 e4 hsz4 BE
   have hle : W.heap.size ≤ _ := eC.size
   replace eC : Ext W w4 := by first | exact eC.trans e4 | exact e4
   have hlE := blk_lt BE
   have hG := GrowS.empty hle BE
   (try replace BP := e4.block BP)
   clear hHeld
   refine hK.out _ _ (by exact ⟨eC.cell a0, eC.cell a1, eC.cell a2⟩) fun hHeld => ?_
   clear hK K
   try simp only [nr]
   refine stepL_two (i := 3) (j := 8) rfl rfl (by kernel_rfl) (fun K hK => ?_) (fun K hK => ?_)
   ·refine step_append_rows (news := rs) (A := A1) (c := c1) rfl _ _ 22 23 24 Tryz.underlying22 Tryz.underlying23 rfl (by rfl) hG (by rw [HRL.out]; rfl) (fun h0 => by obtain ⟨b, off, hA, hc⟩ := HRA.out h0; exact ⟨b, off, hA, fun j hj => (hE.trans eC).cell (hc j hj)⟩) HR1.out (.inl ⟨_, rfl⟩) (by have := HRL.out; simp; omega) ?_
    rintro v3 w3 hG3 ⟨g3, hg3, how3, ch3⟩
    simp only [Value.ownBlock, Option.some.injEq] at how3
    (try (have hlP := blk_lt BP; replace BP := ch3.blk BP (by have hWd : W.drew.heap.size = W.heap.size := rfl; omega)))
    replace eC := ch3.ext eC hg3
    clear hHeld
    refine hK.out _ _ (by exact ⟨eC.cell a0, eC.cell a1, eC.cell a2⟩) fun hHeld => ?_
    clear hK K
    try simp only [nr]
    refine stepL_only (i := 8) rfl (by kernel_rfl) (fun K hK => ?_)
    go_simp
    first | refine boxes1 ?_ | refine boxesD1 ?_
    intro w6 e6 hsz6 BP
    replace eC : Ext W w6 := by first | exact eC.trans e6 | exact e6
    (try replace hG := hG.ext e6)
    (try replace hG3 := hG3.ext e6)
    clear hHeld
    refine hK.out _ _ (by exact ⟨eC.cell a0, eC.cell a1, eC.cell a2⟩) fun hHeld => ?_
    clear hK K
    try simp only [nr]
    refine stepL_only (i := 9) rfl (by kernel_rfl) (fun K hK => ?_)
    refine step_append_rows (news := [.slice A2 Z.nl c2, .slice A3 Z.np c3]) (c := 2) rfl _ _ 22 22 24 Tryz.underlying22 Tryz.underlying22 rfl (by rfl) hG3 (by rfl) (fun _ => ⟨_, 0, rfl, fun j hj => by
      have hj' : j = 0 ∨ j = 1 := by simp at hj; omega
      obtain ⟨y0, y1, -⟩ := cells2 BP
      rcases hj' with rfl | rfl
      ·exact y0
      ·exact y1⟩) (fun u hu => by
      simp at hu
      rcases hu with rfl | rfl <;> rfl) (.inr (by simp)) (by have := HRL.out; simp; omega) ?_
    rintro v9 w9 hG9 ⟨g9, hg9, -, ch9⟩
    replace eC := ch9.ext eC hg9
    obtain ⟨xs, hxs⟩ := hid_eq (([] ++ rs) ++ [.slice A2 Z.nl c2, .slice A3 Z.np c3] : List Value)
    rw [← hxs.out] at hG9
    have HLX : Hid (xs.length = q) := by rw [Hid, hxs.out, hq.out]; have := HRL.out; simp; omega
    obtain ⟨A9, c9, rfl⟩ := ownsRow_form hG9.2
    rw [HLX.out] at hG9 ⊢
    clear hHeld
    refine hK.out _ _ (by exact ⟨eC.cell a0, eC.cell a1, eC.cell a2⟩) fun hHeld => ?_
    clear hK K
    try simp only [nr]
    refine sP 10 (h := ?_)
    try simp only [nr]
    refine stepL_done (by kernel_rfl) ?_ _
    clear hHeld
    go_wp2_with fail
    go_meet
    refine ⟨A9, c9, rfl, rfl, rfl, ?_, eC⟩
    rw [← HLX.out] at hG9 ⊢
    have hEC := hE.trans eC
    refine hG9.mtr (Nat.le_trans hN hEC.size) (by rw [HLX.out, hq.out]; omega) ?_
    have h9 := all_rows (w := w9) (s2 := .slice A2 Z.nl c2) (s3 := .slice A3 Z.np c3) HRL.out (fun i hi => LsR.wide ((HRR.out i hi).ext hEC) (Nat.zero_le _) (Nat.le_trans hhi hEC.size) (Nat.le_refl _)) (LsR.wide (h2.ext hEC) (Nat.zero_le _) (Nat.le_trans hhi hEC.size) (Nat.le_refl _)) (LsR.wide (h3.ext hEC) (Nat.zero_le _) (Nat.le_trans hhi hEC.size) (Nat.le_refl _))
    have hx9 : xs = rs ++ [.slice A2 Z.nl c2, .slice A3 Z.np c3] := by rw [hxs.out, List.nil_append]
    subst hx9
    exact h9
   ·go_simp
    first | refine boxes1 ?_ | refine boxesD1 ?_
    intro w6 e6 hsz6 BP
    replace eC : Ext W w6 := by first | exact eC.trans e6 | exact e6
    (try replace hG := hG.ext e6)
    (try replace hG3 := hG3.ext e6)
    clear hHeld
    refine hK.out _ _ (by exact ⟨eC.cell a0, eC.cell a1, eC.cell a2⟩) fun hHeld => ?_
    clear hK K
    try simp only [nr]
    refine stepL_only (i := 3) rfl (by kernel_rfl) (fun K hK => ?_)
    refine step_append_rows (news := rs) (A := A1) (c := c1) rfl _ _ 22 23 24 Tryz.underlying22 Tryz.underlying23 rfl (by rfl) hG (by rw [HRL.out]; rfl) (fun h0 => by obtain ⟨b, off, hA, hc⟩ := HRA.out h0; exact ⟨b, off, hA, fun j hj => (hE.trans eC).cell (hc j hj)⟩) HR1.out (.inl ⟨_, rfl⟩) (by have := HRL.out; simp; omega) ?_
    rintro v3 w3 hG3 ⟨g3, hg3, how3, ch3⟩
    simp only [Value.ownBlock, Option.some.injEq] at how3
    (try (have hlP := blk_lt BP; replace BP := ch3.blk BP (by have hWd : W.drew.heap.size = W.heap.size := rfl; omega)))
    replace eC := ch3.ext eC hg3
    clear hHeld
    refine hK.out _ _ (by exact ⟨eC.cell a0, eC.cell a1, eC.cell a2⟩) fun hHeld => ?_
    clear hK K
    try simp only [nr]
    refine stepL_only (i := 9) rfl (by kernel_rfl) (fun K hK => ?_)
    refine step_append_rows (news := [.slice A2 Z.nl c2, .slice A3 Z.np c3]) (c := 2) rfl _ _ 22 22 24 Tryz.underlying22 Tryz.underlying22 rfl (by rfl) hG3 (by rfl) (fun _ => ⟨_, 0, rfl, fun j hj => by
      have hj' : j = 0 ∨ j = 1 := by simp at hj; omega
      obtain ⟨y0, y1, -⟩ := cells2 BP
      rcases hj' with rfl | rfl
      ·exact y0
      ·exact y1⟩) (fun u hu => by
      simp at hu
      rcases hu with rfl | rfl <;> rfl) (.inr (by simp)) (by have := HRL.out; simp; omega) ?_
    rintro v9 w9 hG9 ⟨g9, hg9, -, ch9⟩
    replace eC := ch9.ext eC hg9
    obtain ⟨xs, hxs⟩ := hid_eq (([] ++ rs) ++ [.slice A2 Z.nl c2, .slice A3 Z.np c3] : List Value)
    rw [← hxs.out] at hG9
    have HLX : Hid (xs.length = q) := by rw [Hid, hxs.out, hq.out]; have := HRL.out; simp; omega
    obtain ⟨A9, c9, rfl⟩ := ownsRow_form hG9.2
    rw [HLX.out] at hG9 ⊢
    clear hHeld
    refine hK.out _ _ (by exact ⟨eC.cell a0, eC.cell a1, eC.cell a2⟩) fun hHeld => ?_
    clear hK K
    try simp only [nr]
    refine sP 10 (h := ?_)
    try simp only [nr]
    refine stepL_done (by kernel_rfl) ?_ _
    clear hHeld
    go_wp2_with fail
    go_meet
    refine ⟨A9, c9, rfl, rfl, rfl, ?_, eC⟩
    rw [← HLX.out] at hG9 ⊢
    have hEC := hE.trans eC
    refine hG9.mtr (Nat.le_trans hN hEC.size) (by rw [HLX.out, hq.out]; omega) ?_
    have h9 := all_rows (w := w9) (s2 := .slice A2 Z.nl c2) (s3 := .slice A3 Z.np c3) HRL.out (fun i hi => LsR.wide ((HRR.out i hi).ext hEC) (Nat.zero_le _) (Nat.le_trans hhi hEC.size) (Nat.le_refl _)) (LsR.wide (h2.ext hEC) (Nat.zero_le _) (Nat.le_trans hhi hEC.size) (Nat.le_refl _)) (LsR.wide (h3.ext hEC) (Nat.zero_le _) (Nat.le_trans hhi hEC.size) (Nat.le_refl _))
    have hx9 : xs = rs ++ [.slice A2 Z.nl c2, .slice A3 Z.np c3] := by rw [hxs.out, List.nil_append]
    subst hx9
    exact h9
  ·go_simp
   first | refine boxes1 ?_ | refine boxesD1 ?_
   intro w6 e6 hsz6 BP
   replace eC : Ext W w6 := by first | exact eC.trans e6 | exact e6
   (try replace hG := hG.ext e6)
   (try replace hG3 := hG3.ext e6)
   clear hHeld
   refine hK.out _ _ (by exact ⟨eC.cell a0, eC.cell a1, eC.cell a2⟩) fun hHeld => ?_
   clear hK K
   try simp only [nr]
   refine stepL_only (i := 0) rfl (by kernel_rfl) (fun K hK => ?_)
   go_simp
   first | refine boxes1 ?_ | refine boxesD1 ?_
   intro w4 e4 hsz4 BE
   have hle : W.heap.size ≤ _ := eC.size
   replace eC : Ext W w4 := by first | exact eC.trans e4 | exact e4
   have hlE := blk_lt BE
   have hG := GrowS.empty hle BE
   (try replace BP := e4.block BP)
   clear hHeld
   refine hK.out _ _ (by exact ⟨eC.cell a0, eC.cell a1, eC.cell a2⟩) fun hHeld => ?_
   clear hK K
   try simp only [nr]
   refine stepL_only (i := 3) rfl (by kernel_rfl) (fun K hK => ?_)
   refine step_append_rows (news := rs) (A := A1) (c := c1) rfl _ _ 22 23 24 Tryz.underlying22 Tryz.underlying23 rfl (by rfl) hG (by rw [HRL.out]; rfl) (fun h0 => by obtain ⟨b, off, hA, hc⟩ := HRA.out h0; exact ⟨b, off, hA, fun j hj => (hE.trans eC).cell (hc j hj)⟩) HR1.out (.inl ⟨_, rfl⟩) (by have := HRL.out; simp; omega) ?_
   rintro v3 w3 hG3 ⟨g3, hg3, how3, ch3⟩
   simp only [Value.ownBlock, Option.some.injEq] at how3
   (try (have hlP := blk_lt BP; replace BP := ch3.blk BP (by have hWd : W.drew.heap.size = W.heap.size := rfl; omega)))
   replace eC := ch3.ext eC hg3
   clear hHeld
   refine hK.out _ _ (by exact ⟨eC.cell a0, eC.cell a1, eC.cell a2⟩) fun hHeld => ?_
   clear hK K
   try simp only [nr]
   refine stepL_only (i := 9) rfl (by kernel_rfl) (fun K hK => ?_)
   refine step_append_rows (news := [.slice A2 Z.nl c2, .slice A3 Z.np c3]) (c := 2) rfl _ _ 22 22 24 Tryz.underlying22 Tryz.underlying22 rfl (by rfl) hG3 (by rfl) (fun _ => ⟨_, 0, rfl, fun j hj => by
     have hj' : j = 0 ∨ j = 1 := by simp at hj; omega
     obtain ⟨y0, y1, -⟩ := cells2 BP
     rcases hj' with rfl | rfl
     ·exact y0
     ·exact y1⟩) (fun u hu => by
     simp at hu
     rcases hu with rfl | rfl <;> rfl) (.inr (by simp)) (by have := HRL.out; simp; omega) ?_
   rintro v9 w9 hG9 ⟨g9, hg9, -, ch9⟩
   replace eC := ch9.ext eC hg9
   obtain ⟨xs, hxs⟩ := hid_eq (([] ++ rs) ++ [.slice A2 Z.nl c2, .slice A3 Z.np c3] : List Value)
   rw [← hxs.out] at hG9
   have HLX : Hid (xs.length = q) := by rw [Hid, hxs.out, hq.out]; have := HRL.out; simp; omega
   obtain ⟨A9, c9, rfl⟩ := ownsRow_form hG9.2
   rw [HLX.out] at hG9 ⊢
   clear hHeld
   refine hK.out _ _ (by exact ⟨eC.cell a0, eC.cell a1, eC.cell a2⟩) fun hHeld => ?_
   clear hK K
   try simp only [nr]
   refine sP 10 (h := ?_)
   try simp only [nr]
   refine stepL_done (by kernel_rfl) ?_ _
   clear hHeld
   go_wp2_with fail
   go_meet
   refine ⟨A9, c9, rfl, rfl, rfl, ?_, eC⟩
   rw [← HLX.out] at hG9 ⊢
   have hEC := hE.trans eC
   refine hG9.mtr (Nat.le_trans hN hEC.size) (by rw [HLX.out, hq.out]; omega) ?_
   have h9 := all_rows (w := w9) (s2 := .slice A2 Z.nl c2) (s3 := .slice A3 Z.np c3) HRL.out (fun i hi => LsR.wide ((HRR.out i hi).ext hEC) (Nat.zero_le _) (Nat.le_trans hhi hEC.size) (Nat.le_refl _)) (LsR.wide (h2.ext hEC) (Nat.zero_le _) (Nat.le_trans hhi hEC.size) (Nat.le_refl _)) (LsR.wide (h3.ext hEC) (Nat.zero_le _) (Nat.le_trans hhi hEC.size) (Nat.le_refl _))
   have hx9 : xs = rs ++ [.slice A2 Z.nl c2, .slice A3 Z.np c3] := by rw [hxs.out, List.nil_append]
   subst hx9
   exact h9
 case rest =>
  obtain ⟨A9, c9, rfl, rfl, rfl, hM, eW⟩ := hcut
  have hEc := hE.trans eW
  replace B0 := eW.block B0
  clear a0 a1 a2 hE eW HRL HRR HRA HR1 hsz
  have HC := Lib.hid (all_canon Z)
  have HSA : Hid (∀ k, k < q → ∀ j, j < allLen Z k → RawSz (allRow Z k j)) := by
   intro k hk j hj
   have hk' : k < Z.m ∨ k = Z.m ∨ k = Z.m + 1 := by have := hq.out; omega
   rcases hk' with e | e | e
   ·unfold allLen at hj; unfold allRow; rw [if_pos e] at hj ⊢; exact HS.out.1 k e j hj
   ·unfold allLen at hj; unfold allRow; rw [if_neg (by omega), if_pos e] at hj ⊢; exact HS.out.2.1 j hj
   ·unfold allLen at hj; unfold allRow; rw [if_neg (by omega), if_neg (by omega)] at hj ⊢; exact HS.out.2.2 j hj
  have hqb : q ≤ 8 := by have := hq.out; omega
  have hq0 : 0 < q := by have := hq.out; omega
  obtain ⟨F, hF⟩ := hid_eq (allLen Z)
  obtain ⟨G, hG⟩ := hid_eq (allRow Z)
  rw [← hF.out, ← hG.out] at hM HSA
  have HC2 : Hid (canonB Z = allB q (fun i => allB (F i) (fun j => okR (G i j)))) := by rw [Hid, hF.out, hG.out, hq.out]; exact HC.out.symm
  clear HC
  obtain ⟨m, L, A, nl, l, np, p⟩ := Z
  dsimp only at h1 h2 h3 hm hnl hnp hm6 B0 HP HS ⊢
  have HR : Hid (r = if canonB ⟨m, L, A, nl, l, np, p⟩ = false then 1 else if sizeB ⟨m, L, A, nl, l, np, p⟩ = false then 3 else if fitB ⟨m, L, A, nl, l, np, p⟩ = false then 4 else if allB np (fun i => posB (p i)) = false then 2 else 0) := hr
  clear hr hF hG hq
  go_wp2
  go_loopw [16] (fun i wr => ∃ k : Nat, k ≤ q ∧ i = .int .i64 k ∧ Hid (∀ j, j < k → allB (F j) (fun t => okR (G j t)) = true) ∧ Ext wc wr) (fun i _ => q - (intOf i).toNat)
  case atStart => exact ⟨0, Nat.zero_le _, rfl, fun j hj => absurd hj (by omega), Ext.refl _⟩
  case round =>
   obtain ⟨k, hk, rfl, HA, eR⟩ := hrel
   by_cases hlt : k < q
   ·obtain ⟨b, off, rfl, -, -, hx⟩ := (hM.ext eR).addr (by omega)
    obtain ⟨Ak, ck, q0, hkc, hck, hv⟩ := hx k hlt
    clear hx
    obtain ⟨s, hs⟩ := hid_eq (allB (F k) (fun t => okR (G k t)))
    go_wp2_with (go_at_call 20; refine Hid.out ?_)
    refine (r2_validList hv (HSA.out k hlt)).mono ?_
    rintro e w1 ⟨rfl, e1⟩
    rw [← hs.out]
    replace eR := eR.trans e1
    clear q0 hv
    cases s with
    | false =>
     have HF : Hid (r = 1) := by rw [Hid, HR.out, HC2.out, allB_false hlt hs.out.symm]; rfl
     go_wp2
     go_ret
     exact ⟨ret_int HF.out.symm, hEc.trans eR⟩
    | true =>
     go_wp2
     go_roundw
     case rel => exact ⟨k + 1, by omega, by go_num, all_succ (p := fun j => allB (F j) (fun t => okR (G j t)) = true) HA.out hs.out.symm, eR⟩
     case measure => simp [intOf]; omega
   ·have HCT : Hid (canonB ⟨m, L, A, nl, l, np, p⟩ = true) := by rw [Hid, HC2.out]; exact allB_true.2 (fun j hj => HA.out j (by omega))
    have HR2 : Hid (r = if sizeB ⟨m, L, A, nl, l, np, p⟩ = false then 3 else if fitB ⟨m, L, A, nl, l, np, p⟩ = false then 4 else if allB np (fun i => posB (p i)) = false then 2 else 0) := by rw [Hid, HR.out, HCT.out]; rfl
    have HOKP : Hid (∀ i, i < np → okR (p i) = true) := by
     have := HCT.out; unfold canonB at this; rw [Bool.and_eq_true, Bool.and_eq_true] at this; exact allB_true.1 this.2.2
    clear HR HC2 HA hM
    have hE := hEc.trans eR
    replace B0 := eR.block B0
    obtain ⟨a0, a1, a2, -⟩ := cells3 B0
    clear hEc eR
    by_cases hm1 : 1 ≤ m
    ·have h1' := h1.ext hE
     obtain ⟨b, off, rfl, -, -, hx⟩ := h1'.addr (by omega)
     obtain ⟨AL, cL, p0, hLc, hcL, -⟩ := hx 0 (by omega)
     rw [Nat.add_zero] at p0
     obtain ⟨L0, hL0⟩ := hid_eq (L 0)
     rw [← hL0.out] at p0 hLc
     unfold maxLen at hcL
     by_cases hL1 : 1 ≤ L0
     ·by_cases hL2 : L0 ≤ 24
      ·have HR3 : Hid (r = if fitB ⟨m, L, A, nl, l, np, p⟩ = false then 4 else if allB np (fun i => posB (p i)) = false then 2 else 0) := by
        have : sizeB ⟨m, L, A, nl, l, np, p⟩ = true := by
         unfold sizeB; simp only [Bool.and_eq_true, decide_eq_true_eq]; have := hL0.out; omega
        rw [Hid, HR2.out, this]; rfl
       clear hx HR2
       obtain ⟨ev, hev⟩ := hid_eq (anyB m (fun i => !decide (L i = L 0)))
       have HEV : Hid (evenB ⟨m, L, A, nl, l, np, p⟩ = !ev) := by
        rw [Hid, hev.out, anyB_not]; rfl
       go_wp2_with (go_at_call 52; refine Hid.out ?_)
       refine (sl_code1 h1' _ (fun i => !decide (L i = L 0)) (fun i hi w' u e hu => l37_code1 (e.cell a0) (h1'.ext e) hu (by omega))).mono ?_
       rintro e w5 ⟨rfl, e5⟩
       rw [← hev.out]
       replace hE := hE.trans e5
       replace B0 := e5.block B0
       clear a0 a1 a2 p0 h1'
       obtain ⟨a0, a1, a2, -⟩ := cells3 B0
       cases ev with
       | true =>
        have HF : Hid (r = 4) := by
         have : fitB ⟨m, L, A, nl, l, np, p⟩ = false := by unfold fitB; rw [HEV.out]; rfl
         rw [Hid, HR3.out, this]; rfl
        go_wp2
        go_ret
        exact ⟨ret_int HF.out.symm, hE⟩
       | false =>
        by_cases hnlm : nl = m
        ·by_cases hnpm : np = m
         ·have HR4 : Hid (r = if allB np (fun i => posB (p i)) = false then 2 else 0) := by
           have : fitB ⟨m, L, A, nl, l, np, p⟩ = true := by unfold fitB; rw [HEV.out]; simp [hnlm, hnpm]
           rw [Hid, HR3.out, this]; rfl
          have t1 : ((nl : Int) != (m : Int)) = false := by rw [hnlm]; simp
          have t2 : ((np : Int) != (m : Int)) = false := by rw [hnpm]; simp
          clear HR3 hnlm hnpm HEV
          obtain ⟨po, hpo⟩ := hid_eq (anyB np (fun i => !posB (p i)))
          have HPO : Hid (allB np (fun i => posB (p i)) = !po) := by rw [Hid, hpo.out, anyB_not]
          go_wp2_with (go_at_call 54; refine Hid.out ?_)
          refine (sl_code2 (h3.ext hE) (fun i => !posB (p i)) (fun i hi w' u e hu => by
           obtain ⟨x, hx, hvx⟩ := rawV_rat hu (HOKP.out i hi)
           have hz : Sz x := by have := HP.out i hi; rw [hx] at this; exact this
           rw [hx, posB_raw]
           exact l37_code2 hvx hz)).mono ?_
          rintro e w6 ⟨rfl, e6⟩
          rw [← hpo.out]
          replace hE := hE.trans e6
          cases po with
          | true =>
           have HF : Hid (r = 2) := by rw [Hid, HR4.out, HPO.out]; rfl
           go_wp2
           go_ret
           exact ⟨ret_int HF.out.symm, hE⟩
          | false =>
           have HF : Hid (r = 0) := by rw [Hid, HR4.out, HPO.out]; rfl
           go_wp2
           go_ret
           exact ⟨ret_int HF.out.symm, hE⟩
         ·have HF : Hid (r = 4) := by
           have : fitB ⟨m, L, A, nl, l, np, p⟩ = false := by unfold fitB; simp [hnpm]
           rw [Hid, HR3.out, this]; rfl
          have t1 : ((nl : Int) != (m : Int)) = false := by rw [hnlm]; simp
          have t2 : ((np : Int) != (m : Int)) = true := by rw [bne_iff_ne]; omega
          clear hnlm hnpm
          go_wp2
          go_ret
          exact ⟨ret_int HF.out.symm, hE⟩
        ·have HF : Hid (r = 4) := by
          have : fitB ⟨m, L, A, nl, l, np, p⟩ = false := by unfold fitB; simp [hnlm]
          rw [Hid, HR3.out, this]; rfl
         have t1 : ((nl : Int) != (m : Int)) = true := by rw [bne_iff_ne]; omega
         clear hnlm
         go_wp2
         go_ret
         exact ⟨ret_int HF.out.symm, hE⟩
      ·have HF : Hid (r = 3) := by
        have : sizeB ⟨m, L, A, nl, l, np, p⟩ = false := by
         unfold sizeB; simp only [Bool.and_eq_false_iff, decide_eq_false_iff_not]; have := hL0.out; omega
        rw [Hid, HR2.out, this]; rfl
       go_wp2
       go_ret
       exact ⟨ret_int HF.out.symm, hE⟩
     ·have HF : Hid (r = 3) := by
       have : sizeB ⟨m, L, A, nl, l, np, p⟩ = false := by
        unfold sizeB; simp only [Bool.and_eq_false_iff, decide_eq_false_iff_not]; have := hL0.out; omega
       rw [Hid, HR2.out, this]; rfl
      go_wp2
      go_ret
      exact ⟨ret_int HF.out.symm, hE⟩
    ·have HF : Hid (r = 3) := by
      have : sizeB ⟨m, L, A, nl, l, np, p⟩ = false := by
       unfold sizeB; simp only [Bool.and_eq_false_iff, decide_eq_false_iff_not]; omega
      rw [Hid, HR2.out, this]; rfl
     go_wp2
     go_ret
     exact ⟨ret_int HF.out.symm, hE⟩
end Go.Proofs.YtghpfnhmlpfgcaaGreat
