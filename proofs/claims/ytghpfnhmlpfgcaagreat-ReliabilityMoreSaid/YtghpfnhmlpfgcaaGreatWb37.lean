import Derived.Test.YtghpfnhmlpfgcaaGreatWb36
set_option linter.all false
namespace Go.Proofs.YtghpfnhmlpfgcaaGreat
open Go.RowKit
theorem setAt {w : World} {g : Nat} {t : TypeId} {cs : Array Value} (h : w.heap[g]? = some (.cells cs t (0, 0))) (ht : NoU w g) (i : Nat) (v : Value) :
  ∃ w', w.setCell ⟨g, i, none⟩ v = w' ∧ w'.heap[g]? = some (.cells (cs.setIfInBounds i v) t (0, 0)) ∧ Chg g (g + 1) w w' ∧ w'.heap.size = w.heap.size := by
 have U : Upd g w (w.setCell ⟨g, i, none⟩ v) := (Upd.refl g w).set i v
 exact ⟨_, rfl, heap_set h i v, U.chg ht, U.size⟩
theorem BoxR.at4 {N : Nat} {w : World} {g : Nat} {q : Rat} (h : BoxR N w g q) : At4 N w g 0 (raw q) := by
 obtain ⟨b, A, n, c, A', n', c', B, hb, g1, g2⟩ := h
 obtain ⟨z0, z1, z2, z3, -⟩ := cells4 B
 refine ⟨_, _, ?_, z1, z2, z3, g1, g2⟩
 show w.cell? ⟨g, 0, none⟩ = some (.bool (decide (q.num < 0)))
 rw [← hb.out]; exact z0
theorem cells7 {w : World} {g : Nat} {t : TypeId} {x0 x1 x2 x3 x4 x5 x6 : Value} (h : w.heap[g]? = some (.cells #[x0, x1, x2, x3, x4, x5, x6] t (0, 0))) :
  w.cell? ⟨g, 0, none⟩ = some x0 ∧ w.cell? ⟨g, 1, none⟩ = some x1 ∧ w.cell? ⟨g, 2, none⟩ = some x2 ∧ w.cell? ⟨g, 3, none⟩ = some x3 ∧ w.cell? ⟨g, 4, none⟩ = some x4 ∧ w.cell? ⟨g, 5, none⟩ = some x5 ∧ w.cell? ⟨g, 6, none⟩ = some x6 := by
 refine ⟨?_, ?_, ?_, ?_, ?_, ?_, ?_⟩ <;> exact cell_blk h _
set_option maxRecDepth 100000 in
set_option maxHeartbeats 2000000 in
theorem rl_open_bad {N lo hi : Nat} {w : World} {v : Value} {Z : Lin} (h : LinV N lo hi w v Z) (hs : LinSz Z) (hp : ∀ i, i < Z.np → RawS (Z.p i)) (hc : codeOf Z ≠ 0) :
  Calls Tryz.prog 57 #[v] w (RetV w (.tuple #[.pointer none, .int .i64 (codeOf Z)])) := by
 obtain ⟨r, hr⟩ := hid_eq (codeOf Z)
 have hr0 : (r == 0) = false := by rw [hr.out]; simpa using hc
 have hr1 : (r != 0) = true := by simpa using hr0
 have HS := Lib.hid hs
 have HP := Lib.hid hp
 rw [← hr.out]
 have hI := h
 obtain ⟨A1, c1, A2, c2, A3, c3, rfl, h1, h2, h3, hm, hnl, hnp⟩ := h.parts
 clear h h1 h2 h3 hc hs hp
 go_enter Tryz.func57, Tryz.ntmps57
 go_wp2_with (go_at_call 104; refine Hid.out ?_)
 refine boxesC1 ?_
 intro W hE hsz B0
 refine (n_check (hI.ext hE) HS.out HP.out).mono ?_
 rintro e w1 ⟨rfl, e1⟩
 rw [← hr.out]
 go_wp2
 first | go_ret2 | skip
 exact ⟨rfl, hE.trans e1⟩
def fitsOf (m n : Nat) (X : Nat → Nat → Rat) (p : Nat → Rat) : Nat → Nat → Rat := fits (rref m X n).2.length (bas X (rref m X n).2) (invM (rref m X n).2.length (nmat (bas X (rref m X n).2) p m))
theorem nmat_nm (m : Nat) (B : Nat → Nat → Rat) (p : Nat → Rat) (i j : Nat) : nmat B p m i j = nm m B p i j := sum_congr fun t _ => by grind
theorem inv_full (m n : Nat) (X : Nat → Nat → Rat) {p : Nat → Rat} (hp : ∀ i, i < m → 0 < p i) :
  (rref (rref m X n).2.length (augI (rref m X n).2.length (nmat (bas X (rref m X n).2) p m)) (rref m X n).2.length).2.length = (rref m X n).2.length := by
 have h1 := bas_reg (rref_ok m X n) hp
 rw [augI_beside]
 exact inv_len (rref_ok _ _ _) (fun x hx => h1 x (fun i hi => by rw [← hx i hi]; exact sum_congr fun c _ => by rw [nmat_nm]))
def cellTo (F : Nat → Nat → Rat) (j i a b : Nat) : Rat := if b < j ∨ (b = j ∧ a < i) then F a b else 0
theorem cellTo_succ (F : Nat → Nat → Rat) (j i a b : Nat) : cellTo F j (i + 1) a b = updM (cellTo F j i) i (upd (cellTo F j i i) j (F i j)) a b := by
 unfold updM
 by_cases e : a = i
 ·subst e
  rw [if_pos rfl]
  unfold upd cellTo
  by_cases e2 : b = j
  ·subst e2; rw [if_pos (by omega), if_pos rfl]
  ·rw [if_neg e2]
   by_cases e3 : b < j
   ·rw [if_pos (.inl e3), if_pos (.inl e3)]
   ·rw [if_neg (by omega), if_neg (by omega)]
 ·rw [if_neg e]
  unfold cellTo
  by_cases e3 : b < j ∨ (b = j ∧ a < i)
  ·rw [if_pos e3, if_pos (by omega)]
  ·rw [if_neg e3, if_neg (by omega)]
theorem cellTo_next (F : Nat → Nat → Rat) {j m a : Nat} (ha : a < m) (b : Nat) : cellTo F j m a b = cellTo F (j + 1) 0 a b := by
 unfold cellTo
 by_cases e3 : b < j ∨ (b = j ∧ a < m)
 ·rw [if_pos e3, if_pos (by omega)]
 ·rw [if_neg e3, if_neg (by omega)]
def MdlV (N : Nat) (w : World) (gm m n : Nat) (X : Nat → Nat → Rat) (y p : Nat → Rat) (pv : List Nat) (F : Nat → Nat → Rat) : Prop :=
 ∃ A1 c1 A2 c2 A3 c3 A4 c4 s5 s6 A7 c7, w.heap[gm]? = some (.cells #[.slice A1 m c1, .slice A2 m c2, .slice A3 m c3, .slice A4 pv.length c4, s5, s6, .slice A7 m c7] 88 (0, 0)) ∧
  MtV N 0 w.heap.size w (.slice A1 m c1) m n X ∧ LsV N 0 w.heap.size w (.slice A2 m c2) m y ∧ LsV N 0 w.heap.size w (.slice A3 m c3) m p ∧ IsV 0 w.heap.size w (.slice A4 pv.length c4) pv ∧ MtV N 0 w.heap.size w (.slice A7 m c7) m m F
def MdlB (N : Nat) (w : World) (gm m r : Nat) (B Z : Nat → Nat → Rat) : Prop :=
 0 < r → ∃ x0 x1 x2 x3 A5 c5 A6 c6 x6, w.heap[gm]? = some (.cells #[x0, x1, x2, x3, .slice A5 m c5, .slice A6 r c6, x6] 88 (0, 0)) ∧ MtV N 0 w.heap.size w (.slice A5 m c5) m r B ∧ MtV N 0 w.heap.size w (.slice A6 r c6) r r Z
def RetOpenB (N : Nat) (w : World) (m n : Nat) (X : Nat → Nat → Rat) (y p : Nat → Rat) (pv : List Nat) (F : Nat → Nat → Rat) (Z : Nat → Nat → Rat) (e : Ending) (w' : World) : Prop :=
 ∃ gm, e = .returned (.tuple #[.pointer (some ⟨gm, 0, none⟩), .int .i64 0]) ∧ MdlV N w' gm m n X y p pv F ∧ Ext w w' ∧ MdlB N w' gm m pv.length (bas X pv) Z
def RetOpen (N : Nat) (w : World) (m n : Nat) (X : Nat → Nat → Rat) (y p : Nat → Rat) (pv : List Nat) (F : Nat → Nat → Rat) (e : Ending) (w' : World) : Prop :=
 ∃ gm, e = .returned (.tuple #[.pointer (some ⟨gm, 0, none⟩), .int .i64 0]) ∧ MdlV N w' gm m n X y p pv F ∧ Ext w w'
set_option maxRecDepth 100000 in
set_option maxHeartbeats 16000000 in
theorem rl_openB {N lo hi : Nat} {w : World} {v1 v2 v3 : Value} {m n : Nat} {X : Nat → Nat → Rat} {y p : Nat → Rat} (h1 : MtV N lo hi w v1 m n X) (h2 : LsV N lo hi w v2 m y) (h3 : LsV N lo hi w v3 m p) (hm0 : 0 < m) (hm : m ≤ 64) (hn0 : 0 < n) (hn : n ≤ 24) (hp : ∀ i, i < m → 0 < p i)
  {k P k2 k3 : Nat} (hP : n ≤ P) (hkx : HtM m n k X) (hky : HtL m k y) (hkp : HtL m k p) (hK0 : 5 * (5 ^ P * k) ≤ 29000000000) (hK1 : m * (3 * k + 1) + 3 * k + 2 ≤ 29000000000) (hk2 : k2 = 5 ^ P * (m * (3 * k + 1) + 2)) (hK2 : 5 * k2 ≤ 29000000000) (hk3 : k3 = P * (k2 + k + 1) + 1) (hK4 : P * (k + k3 + 1) + 1 ≤ 29000000000) :
  Calls Tryz.prog 57 #[.agg #[v1, v2, v3]] w (RetOpenB N w m n X y p (rref m X n).2 (fitsOf m n X p) (invM (rref m X n).2.length (nmat (bas X (rref m X n).2) p m))) := by
 have HX := Lib.hid hkx
 have HY := Lib.hid hky
 have HP := Lib.hid hkp
 have HK0 := Lib.hid hK0
 have HK1 := Lib.hid hK1
 have HK2 := Lib.hid hK2
 have HK4 := Lib.hid hK4
 have Hk2 := Lib.hid hk2
 have Hk3 := Lib.hid hk3
 have HPP := Lib.hid hP
 have HPOS := Lib.hid hp
 have HC : Hid (codeOf (linOf m n X y p) = 0) := codeOf_lin hm0 hm hn0 hn hp
 have HLEN : Hid ((rref m X n).2.length ≤ n) := by
  rcases Nat.lt_or_ge n (rref m X n).2.length with h9 | h9
  ·have h8 := inc_ge (rref_ok m X n).inc n h9
   have h7 := (rref_ok m X n).low n h9
   omega
  ·exact h9
 have HLOW : Hid (∀ s, s < (rref m X n).2.length → (rref m X n).2[s]?.getD 0 < n) := fun s hs => (rref_ok m X n).low s hs
 obtain ⟨pv, hpv⟩ := hid_eq (rref m X n).2
 obtain ⟨F, hF⟩ := hid_eq (fitsOf m n X p)
 rw [← hpv.out] at HLEN HLOW
 have HF0 : Hid (F = fits pv.length (bas X pv) (invM pv.length (nmat (bas X pv) p m))) := by rw [Hid, hF.out, hpv.out]; rfl
 obtain ⟨Rf, hRf⟩ := hid_eq (RetOpenB N w m n X y p pv F (invM pv.length (nmat (bas X pv) p m)))
 rw [← hpv.out, ← hF.out, ← hRf.out]
 have hN := h1.le
 obtain ⟨A1, c1, rfl, hmc, hcm⟩ := h1.form
 obtain ⟨A2, c2, rfl, hmc2, hcm2⟩ := h2.form
 obtain ⟨A3, c3, rfl, hmc3, hcm3⟩ := h3.form
 have hI1 := h1
 have hI2 := h2
 have hI3 := h3
 have hhi := h1.2.1
 unfold maxLen at hcm hcm2 hcm3
 clear h1 h2 h3 hkx hky hkp hK0 hK1 hK2 hK4 hp hk2 hk3 hP
 go_enter Tryz.func57, Tryz.ntmps57
 go_upto_region 1 with (fail)
 refine boxes1 ?_
 intro W hE hsz B0
 obtain ⟨a0, a1, a2, -⟩ := cells3 B0
 go_wp2_with (go_at_call 104; refine Hid.out ?_)
 refine (n_check (linV_of (hI1.ext hE) (hI2.ext hE) (hI3.ext hE)) (linSz_of HX.out HY.out HP.out (by have := HK1.out; omega)) (fun i hi => (HP.out i hi).sz (by have := HK1.out; omega))).mono ?_
 rintro e w1 ⟨rfl, e1⟩
 rw [HC.out]
 replace hE := hE.trans e1
 replace B0 := e1.block B0
 have hs1 := e1.size
 clear a0 a1 a2 e1
 obtain ⟨a0, a1, a2, -⟩ := cells3 B0
 go_upto_region 5 with (fail)
 refine boxes1 ?_
 intro w2 e2 hsz2 BM
 replace hE := hE.trans e2
 replace B0 := e2.block B0
 clear a0 a1 a2 e2
 obtain ⟨a0, a1, a2, -⟩ := cells3 B0
 obtain ⟨gm, hgm⟩ : ∃ gm, gm = w1.heap.size := ⟨_, rfl⟩
 have hwg : w.heap.size + 1 ≤ gm := by omega
 rw [← hgm] at hsz2 BM ⊢
 clear hgm hs1
 go_wp2_with (go_at_call 105; refine Hid.out ?_)
 refine (m_echelon (hI1.ext hE) hm0 hm hn0 (by omega) HX.out (P := P) (.inr HPP.out) HK0.out).mono ?_
 rintro e w3 ⟨h4, cap4, β4, κ4, A4, c4, rfl, -, -, hi4, e4⟩
 rw [← hpv.out] at hi4 ⊢
 replace hE := hE.trans e4
 replace B0 := e4.block B0
 replace BM := e4.block BM
 have hs3 : gm + 1 ≤ w3.heap.size := Nat.le_trans hsz2 e4.size
 clear a0 a1 a2
 obtain ⟨a0, a1, a2, -⟩ := cells3 B0
 obtain ⟨r0, r1, r2, r3, r4, r5, r6⟩ := cells7 BM
 have f3 := frozen_blk BM 3
 go_upto_region 6 with (fail)
 clear r0 r1 r2 r3 r4 r5 r6 f3 a0 a1 a2
 obtain ⟨w4, E4, BM4, C4, hs4⟩ := setAt BM (NoU.mk BM (by decide)) 3 (.slice A4 pv.length c4)
 rw [E4]
 replace BM : w4.heap[gm]? = some (.cells #[.slice A1 m c1, .slice A2 m c2, .slice A3 m c3, .slice A4 pv.length c4, .slice none 0 0, .slice none 0 0, .slice none 0 0] 88 (0, 0)) := BM4
 have hE4 : Ext w w4 := C4.ext hE (by omega)
 replace B0 := C4.blk B0 (.inl (by omega))
 replace hi4 := hi4.chg C4 (.inr (by omega))
 have hs5 : gm + 1 ≤ w4.heap.size := by omega
 obtain ⟨a0, a1, a2, -⟩ := cells3 B0
 clear BM4 E4 C4 hE e4
 go_wp2_with (at_make; refine Hid.out ?_)
 refine wpList_make_rows rfl _ _ rfl .i64 .i64 _ _ m rfl rfl rfl rfl (by omega) ?_
 intro w5 cs B5 hcs e5
 clear a0 a1 a2
 replace B0 := e5.block B0
 replace BM := e5.block BM
 replace hi4 := hi4.ext e5
 replace hE4 := hE4.trans e5
 obtain ⟨hd, hhd⟩ : ∃ hd, hd = w4.heap.size := ⟨_, rfl⟩
 have hs6 : hd < w5.heap.size := by have := blk_lt B5; omega
 rw [← hhd] at B5 ⊢
 have hgd : gm < hd := by omega
 have hwh : w.heap.size < hd := by omega
 have hwi : w3.heap.size ≤ hd := by omega
 have ho : OwnM N hd w5.heap.size w5 hd m 0 m (fun _ => 0) (fun _ => 0) (fun _ _ => 0) := OwnM.start (by omega) (Nat.le_refl _) B5 hcs _ hs6 (Nat.le_refl _)
 clear B5 hcs cs hhd e5 hs4 hs5
 obtain ⟨r0, r1, r2, r3, r4, r5, r6⟩ := cells7 BM
 have f6 := frozen_blk BM 6
 go_upto_region 8 with (fail)
 clear r0 r1 r2 r3 r4 r5 r6 f6
 obtain ⟨w6, E6, BM6, C6, hs7⟩ := setAt BM (NoU.mk BM (by decide)) 6 (.slice (some ⟨hd, 0, none⟩) m m)
 rw [E6]
 replace BM : w6.heap[gm]? = some (.cells #[.slice A1 m c1, .slice A2 m c2, .slice A3 m c3, .slice A4 pv.length c4, .slice none 0 0, .slice none 0 0, .slice (some ⟨hd, 0, none⟩) m m] 88 (0, 0)) := BM6
 replace hE4 : Ext w w6 := C6.ext hE4 (by omega)
 replace B0 := C6.blk B0 (.inl (by omega))
 replace hi4 := hi4.chg C6 (.inr (by omega))
 replace ho := (ho.chg C6 (by omega) (.inr (by omega))).wide (lo' := hd) (hi' := w6.heap.size) (Nat.le_refl _) (by omega) (by omega) (Nat.le_refl _)
 have hs8 : hd < w6.heap.size := by omega
 clear BM6 E6 C6 hs6 hs7
 obtain ⟨r0, r1, r2, r3, r4, r5, r6⟩ := cells7 BM
 go_wp2
 clear r0 r1 r2 r3 r4 r5 r6
 go_loopw [52] (fun i wr => ∃ a : Nat, a ≤ m ∧ i = .int .i64 a ∧ Chg hd w6.heap.size w6 wr ∧ ∃ β κ, OwnM N hd wr.heap.size wr hd m a m β κ (fun _ _ => 0)) (fun i _ => m - (intOf i).toNat)
 case atStart => exact ⟨0, Nat.zero_le _, rfl, Chg.refl _ _ _, _, _, ho⟩
 case round =>
  clear ho
  obtain ⟨a, ha, rfl, hC, β, κ, ho⟩ := hrel
  have hsC := hC.size
  have hhd := ho.hhi
  have BMr := hC.blk BM (.inl (by omega))
  by_cases hlt : a < m
  ·obtain ⟨r0, r1, r2, r3, r4, r5, r6⟩ := cells7 BMr
   go_upto_region 11 with (fail)
   have eC := (Ext.refl wr).drew
   refine region_late (fun w' => w'.cell? ⟨gm, 6, none⟩ = some (.slice (some ⟨hd, 0, none⟩) m m)) [10] (by kernel_rfl) (by exact eC.cell r6) (fun hHeld => ?_)
   refine sP 0 (h := ?_)
   try simp only [nr]
   refine sP 1 (h := ?_)
   try simp only [nr]
   refine sP 2 (h := ?_)
   try simp only [nr]
   refine sT 3 (h := ?_)
   try simp only [nr]
   refine sP 4 (h := ?_)
   try simp only [nr]
   refine sP 7 (h := ?_)
   try simp only [nr]
   refine stepL_only (i := 5) rfl (by kernel_rfl) (fun K hK => ?_)
   go_simp
   refine (rl_whole (N := N) (by have h8 := eC.size; have h9 : N ≤ wr.heap.size := (by omega); omega) 0 (by omega) (by omega)).mono ?_
   intro e w7 hh
   obtain ⟨b9, A9, k9, c9, A10, k10, c10, rfl, hb9, g9, g10, e7⟩ := hh.form
   replace eC := eC.trans e7
   go_wp2_with fail
   clear hHeld
   refine hK.out _ _ (by exact eC.cell r6) fun hHeld => ?_
   clear hK K
   try simp only [nr]
   refine stepL_only (i := 6) rfl (by kernel_rfl) (fun K hK => ?_)
   go_simp
   first | refine boxes1 ?_ | refine boxesD1 ?_
   intro w8 e8 hsz8 BX
   replace eC := eC.trans e8
   have hbx : At4 N w8 w7.heap.size 0 (raw ((0 : Int) : Rat)) := (BoxR.mk BX hb9 (g9.ext e8) (g10.ext e8)).at4
   clear hHeld
   refine hK.out _ _ (by exact eC.cell r6) fun hHeld => ?_
   clear hK K
   try simp only [nr]
   refine stepL_only (i := 8) rfl (by kernel_rfl) (fun K hK => ?_)
   go_simp
   refine (sl_repeat (N := N) (by have h8 := eC.size; have h9 : N ≤ wr.heap.size := (by omega); omega) hbx m rfl hm0 (by omega)).mono ?_
   rintro e w9 ⟨g7, rfl, hg7, hgs7, hrow, e9⟩
   have hg8 : wr.heap.size ≤ g7 := Nat.le_trans eC.size hg7
   replace eC := eC.trans e9
   have ho9 := ho.ext eC
   obtain ⟨x0, v0⟩ := ho9.hthere hlt
   have f0 := ho9.hfrozen a
   go_wp2_with fail
   clear hHeld
   refine hK.out _ _ (by exact eC.cell r6) fun hHeld => ?_
   clear hK K
   try simp only [nr]
   refine sP 9 (h := ?_)
   try simp only [nr]
   refine stepL_late (i := 10) rfl (by kernel_rfl) (by kernel_rfl) (fun K hK => ?_)
   go_simp
   refine hK.out _ _ ?_
   clear hK K
   try simp only [nr]
   refine stepL_done (by kernel_rfl) ?_ _
   clear hHeld
   obtain ⟨w10, E10, C10, hs10, y0, ho10⟩ := ho9.setHead (Nat.le_refl a) hlt (.slice (some ⟨g7, 0, none⟩) m m)
   rw [E10]
   have hC10 : Chg hd w6.heap.size w6 w10 := (hC.trans (eC.chg _ _)).trans (C10.wide (Nat.le_refl _) (by omega))
   have hrow10 := (hrow.chg C10 (by omega) (.inr (by omega))).congr (y := fun _ => 0) (fun _ _ => by rfl)
   have ho11 := (ho10.more hlt y0 hrow10 (by omega) (by unfold maxLen; omega)).congr (B := fun _ _ => 0) (fun i _ c _ => by unfold updM; split <;> rfl)
   clear r0 r1 r2 r3 r4 r5 r6 f0 v0 ho ho9 ho10 hrow hrow10 E10 C10 hs10 y0 BX hbx hb9 g9 g10
   go_wp2
   go_roundw
   case rel => exact ⟨a + 1, by omega, by go_num, hC10, _, _, ho11⟩
   case measure => simp [intOf]; omega
  ·obtain rfl : m = a := by omega
   replace B0 := hC.blk B0 (.inl (by omega))
   replace hi4 := hi4.chg hC (.inl (by omega))
   replace hE4 := hC.ext hE4 (by omega)
   clear BM hC hlt ha
   obtain ⟨r0, r1, r2, r3, r4, r5, r6⟩ := cells7 BMr
   by_cases hr0 : pv.length = 0
   ·have HFZ : Hid (∀ i j, F i j = 0) := fun i j => by rw [HF0.out, hr0]; rfl
    have hMt := (ho.mtv (c := m) (Nat.le_refl _) (by unfold maxLen; omega)).congr (Y := F) (fun i _ j _ => (HFZ.out i j).symm)
    have hl1 := hI1.ext hE4
    have hl2 := hI2.ext hE4
    have hl3 := hI3.ext hE4
    have hb0 : ((pv.length : Int) == 0) = true := by rw [hr0]; rfl
    go_wp2
    rw [hRf.out]
    exact ⟨gm, rfl, ⟨_, _, _, _, _, _, _, _, _, _, _, _, BMr, MtR.wide hl1 (Nat.zero_le _) hl1.2.1 (Nat.le_refl _), LsR.wide hl2 (Nat.zero_le _) hl2.2.1 (Nat.le_refl _), LsR.wide hl3 (Nat.zero_le _) hl3.2.1 (Nat.le_refl _), hi4.wide (Nat.zero_le _) (by omega) (Nat.le_refl _), MtR.wide hMt (Nat.zero_le _) (Nat.le_refl _) (Nat.le_refl _)⟩, hE4, fun h9 => absurd h9 (by omega)⟩
   ·have hb0 : ((pv.length : Int) == 0) = false := beq_eq_false_iff_ne.2 (by omega)
    obtain ⟨a0, a1, a2, -⟩ := cells3 B0
    obtain ⟨wq, hwq⟩ : ∃ wq, wq = wr := ⟨wr, rfl⟩
    subst hwq
    go_wp2
    clear r0 r1 r2 r3 r4 r5 r6 a0 a1 a2
    have hG0 : GrowM N wq.heap.size wq.heap.size wq (.slice none 0 0) 0 pv.length (bas X pv) := GrowM.nil (by omega) (Nat.le_refl _) (Nat.le_refl _) _
    have hsd := ho.hhi
    go_loopw [76] (fun i wr => ∃ a : Nat, a ≤ m ∧ i = .int .i64 a ∧ Chg gm (gm + 1) wq wr ∧ ∃ A c, wr.heap[gm]? = some (.cells #[.slice A1 m c1, .slice A2 m c2, .slice A3 m c3, .slice A4 pv.length c4, .slice A a c, .slice none 0 0, .slice (some ⟨hd, 0, none⟩) m m] 88 (0, 0)) ∧ GrowM N wq.heap.size wr.heap.size wr (.slice A a c) a pv.length (bas X pv)) (fun i _ => m - (intOf i).toNat)
    case atStart => exact ⟨0, Nat.zero_le _, rfl, Chg.refl _ _ _, _, _, BMr, hG0⟩
    case round =>
     clear hG0 BMr
     obtain ⟨a, ha, rfl, hC, A, c, BM, hG⟩ := hrel
     have hsC := hC.size
     by_cases hlt : a < m
     ·have hl1 := (hI1.ext hE4).chg hC (by omega) (.inl (by omega))
      have hi5 := hi4.chg hC (.inr (by omega))
      obtain ⟨b, off, rfl, -, -, hx⟩ := hl1.addr (by omega)
      obtain ⟨A5, c5, o0, -, hc5, hrow⟩ := hx a hlt
      unfold maxLen at hc5
      clear hx hl1
      obtain ⟨r0, r1, r2, r3, r4, r5, r6⟩ := cells7 BM
      obtain ⟨wp, hwp⟩ : ∃ wp, wp = wr := ⟨wr, rfl⟩
      subst hwp
      go_wp2
      clear r0 r1 r2 r3 r4 r5 r6 o0
      go_loopw [10, 85] (fun v i wr => ∃ s : Nat, s ≤ pv.length ∧ i = .int .i64 s ∧ Ext wp wr ∧ ∃ A' c', v = .slice A' s c' ∧ Grow N wp.heap.size wr (.slice A' s c') s (bas X pv a)) (fun _ i _ => pv.length - (intOf i).toNat)
      case atStart => exact ⟨0, Nat.zero_le _, rfl, Ext.refl _, _, _, rfl, Grow.nil (by omega) (Nat.le_refl _) _⟩
      case round =>
       obtain ⟨s, hs, rfl, hEs, A', c', rfl, hR⟩ := hrel
       have hsE := hEs.size
       by_cases hlts : s < pv.length
       ·obtain ⟨bi, oi, z, rfl, z0, hz⟩ := (hi5.ext hEs).at_ hlts
        obtain ⟨b6, off6, rfl, -, -, hx6⟩ := ((hrow.ext hEs)).addr (by omega)
        have hzn : z < n := by rw [hz.out]; exact HLOW.out s hlts
        obtain ⟨n1, A6, k6, c6, A7, k7, c7, p0, p1, p2, p3, hb1, g1, g2⟩ := (hx6 z hzn).open
        have HZ : Hid (X a z = bas X pv a s) := by rw [Hid, hz.out]; rfl
        rw [HZ.out] at hb1 g1 g2
        have hpl : pv.length ≤ 24 := by have := HLEN.out; omega
        clear hx6
        go_wp2_with (at_builtin; refine Hid.out ?_)
        refine boxes1 ?_
        intro w8 e8 hsz8 BX
        replace hEs := hEs.trans e8
        replace hR := hR.ext e8
        refine wpList_append_rat rfl _ _ 24 Tryz.underlying24 rfl rfl hR rfl BX hb1 (g1.ext e8) (g2.ext e8) (by omega) ?_
        rintro g cap' w9 hR3 ⟨g', hg', c9, -⟩ -
        replace hEs := c9.ext hEs (by omega)
        replace hR3 := hR3.congr (y := bas X pv a) (fun j _ => by unfold upd; split <;> simp_all)
        clear hR c9 BX e8 g1 g2 hb1 p0 p1 p2 p3 z0
        go_wp2
        go_roundw
        case rel => exact ⟨s + 1, by omega, by go_num, hEs, _, _, rfl, hR3⟩
        case measure => simp [intOf]; omega
       ·obtain rfl : s = pv.length := by omega
        obtain ⟨g8, cap8, hv8, hg8, hgs8, hcm8, hnc8, hrw⟩ := hR.some (by omega)
        injection hv8 with e1 e2 e3
        subst e1 e3
        have BMs := hEs.block BM
        have hGs := hG.ext hEs
        obtain ⟨r0, r1, r2, r3, r4, r5, r6⟩ := cells7 BMs
        clear hR
        go_wp2_with (at_builtin; refine Hid.out ?_)
        refine boxes1 ?_
        intro w8 e8 hsz8 BX
        replace hGs := hGs.ext e8
        replace hrw := hrw.ext e8
        replace BMs := e8.block BMs
        refine wpList_append_row rfl _ _ 23 Tryz.underlying23 rfl rfl hGs rfl hrw hg8 hcm8 BX (by omega) ?_
        rintro h' cap' w9 hG3 ⟨g', hg', c9, -⟩
        replace BMs := c9.blk BMs (.inl (by omega))
        have hC9 : Chg gm (gm + 1) wq w9 := by
         have hC8 := hC.trans ((hEs.trans e8).chg _ _)
         have e5 := hC8.size
         exact ⟨c9.os.trans hC8.os, c9.tape.trans hC8.tape, c9.output.trans hC8.output, Nat.le_trans hC8.size c9.size, fun k hk hc => by
          have h8 := hC8.block k hk hc
          exact (c9.block k (Nat.lt_of_lt_of_le hk e5) (.inl (by omega))).trans h8⟩
        replace hG3 := hG3.congr (B := bas X pv) (fun i _ j _ => by unfold updM; split; (rename_i e; rw [e]); rfl)
        clear r0 r1 r2 r3 r4 r5 r6 hrw hGs BX e8 hEs
        obtain ⟨r0, r1, r2, r3, r4, r5, r6⟩ := cells7 BMs
        have f4 := frozen_blk BMs 4
        go_upto_region 25 with (fail)
        clear r0 r1 r2 r3 r4 r5 r6 f4
        obtain ⟨w10, E10, BM10, C10, hs10⟩ := setAt BMs (NoU.mk BMs (by decide)) 4 (.slice (some ⟨h', 0, none⟩) (a + 1) cap')
        rw [E10]
        replace BM10 : w10.heap[gm]? = some (.cells #[.slice (some ⟨b, off, none⟩) m c1, .slice A2 m c2, .slice A3 m c3, .slice A4 pv.length c4, .slice (some ⟨h', 0, none⟩) (a + 1) cap', .slice none 0 0, .slice (some ⟨hd, 0, none⟩) m m] 88 (0, 0)) := BM10
        have hC10 := hC9.trans C10
        have hG10 := (hG3.chg C10 (by omega) (.inr (by omega))).wide (hi' := w10.heap.size) (by omega) (Nat.le_refl _)
        clear BMs E10 C10 hs10 hG3 hC9 hG
        go_wp2
        go_roundw
        case rel => exact ⟨a + 1, by omega, by go_num, hC10, _, _, BM10, hG10⟩
        case measure => simp [intOf]; omega
     ·obtain rfl : m = a := by omega
      obtain ⟨hb, capb, βb, κb, hvb, hcapb, hob⟩ := hG.own (by omega)
      injection hvb with e1 e2 e3
      subst e1 e3
      have hMb := hob.mtv hob.mle hcapb
      replace ho := ho.chg hC (by omega) (.inr (by omega))
      replace hi4 := hi4.chg hC (.inr (by omega))
      replace B0 := hC.blk B0 (.inl (by omega))
      have hE6 := hC.ext hE4 (by omega)
      have hl1 := hI1.ext hE6
      have hl2 := hI2.ext hE6
      have hl3 := hI3.ext hE6
      obtain ⟨r0, r1, r2, r3, r4, r5, r6⟩ := cells7 BM
      obtain ⟨a0, a1, a2, -⟩ := cells3 B0
      have HXB : Hid (HtM m pv.length k (bas X pv)) := fun i hi s hs => HX.out i hi _ (HLOW.out s hs)
      have hpl : pv.length ≤ 24 := by have := HLEN.out; omega
      go_upto_region 26 with (fail)
      have eC := (Ext.refl wr).drew
      refine region_late (fun w' => w'.cell? ⟨gm, 4, none⟩ = some (.slice (some ⟨hb, 0, none⟩) m c) ∧ w'.cell? ⟨w.heap.size, 1, none⟩ = some (.slice A2 m c2) ∧ w'.cell? ⟨w.heap.size, 2, none⟩ = some (.slice A3 m c3)) [] (by kernel_rfl) (by exact ⟨eC.cell r4, eC.cell a1, eC.cell a2⟩) (fun hHeld => ?_)
      refine sP 0 (h := ?_)
      try simp only [nr]
      refine sP 1 (h := ?_)
      try simp only [nr]
      refine sP 2 (h := ?_)
      try simp only [nr]
      refine sT 3 (h := ?_)
      try simp only [nr]
      refine sP 4 (h := ?_)
      try simp only [nr]
      refine sT 5 (h := ?_)
      try simp only [nr]
      refine sP 6 (h := ?_)
      try simp only [nr]
      refine sT 7 (h := ?_)
      try simp only [nr]
      refine sP 8 (h := ?_)
      try simp only [nr]
      refine stepL_only (i := 9) rfl (by kernel_rfl) (fun K hK => ?_)
      go_simp
      refine (n_normal (hMb.ext eC) (hl2.ext eC) (hl3.ext eC) hm0 hm (by omega) (by omega) HPOS.out HXB.out HY.out HP.out HK1.out).mono ?_
      rintro e w7 ⟨A8, c8, A9, c9, rfl, hKn, -, e7⟩
      have hs7 := eC.size
      replace eC := eC.trans e7
      go_wp2_with fail
      clear hHeld
      refine hK.out _ _ (by exact ⟨eC.cell r4, eC.cell a1, eC.cell a2⟩) fun hHeld => ?_
      clear hK K
      try simp only [nr]
      refine sP 10 (h := ?_)
      try simp only [nr]
      refine sP 11 (h := ?_)
      try simp only [nr]
      refine sP 12 (h := ?_)
      try simp only [nr]
      refine sP 13 (h := ?_)
      try simp only [nr]
      refine sP 14 (h := ?_)
      try simp only [nr]
      refine sP 15 (h := ?_)
      try simp only [nr]
      refine sP 16 (h := ?_)
      try simp only [nr]
      refine stepL_done (by kernel_rfl) ?_ _
      clear hHeld
      obtain ⟨wn, hwn⟩ : ∃ wn, wn = w7 := ⟨_, rfl⟩
      replace BM := eC.block BM
      replace B0 := eC.block B0
      replace ho := ho.ext eC
      replace hi4 := hi4.ext eC
      replace hMb := hMb.ext eC
      replace hl1 := hl1.ext eC
      replace hl2 := hl2.ext eC
      replace hl3 := hl3.ext eC
      have hE7 := hE6.trans eC
      have HINV : Hid ((rref pv.length (augI pv.length (nmat (bas X pv) p m)) pv.length).2.length = pv.length) := by rw [hpv.out]; exact inv_full m n X HPOS.out
      have HPW : Hid (5 ^ pv.length ≤ 5 ^ P) := Nat.pow_le_pow_right (by omega) (by have := HLEN.out; have := HPP.out; omega)
      have HKB : Hid (HtM pv.length pv.length (m * (3 * k + 1) + 1) (nmat (bas X pv) p m)) := nmat_ht HXB.out HP.out (Nat.le_refl _) (Nat.le_refl _)
      have HIB : Hid (5 ^ pv.length * (m * (3 * k + 1) + 1 + 1) ≤ k2) := by rw [Hid, Hk2.out]; exact Nat.mul_le_mul HPW.out (Nat.le_refl _)
      clear r0 r1 r2 r3 r4 r5 r6 a0 a1 a2 hwn hG hob
      go_wp2_with (go_at_call 107; refine Hid.out ?_)
      refine (m_inverse hKn (by omega) (by omega) HKB.out (by have := HIB.out; have := HK2.out; omega)).mono ?_
      rintro e w8 ⟨e8, hcase⟩
      rcases hcase with ⟨hbad, -⟩ | ⟨-, hv, capv, βv, κv, rfl, hcapv, hov⟩
      ·exact absurd hbad (by rw [HINV.out]; omega)
      have hs8 := e8.size
      have hs7' : wr.heap.size ≤ w7.heap.size := eC.size
      replace BM := e8.block BM
      replace B0 := e8.block B0
      replace ho := ho.ext e8
      replace hi4 := hi4.ext e8
      replace hMb := hMb.ext e8
      have hE8 := hE7.trans e8
      obtain ⟨r0, r1, r2, r3, r4, r5, r6⟩ := cells7 BM
      have f5 := frozen_blk BM 5
      clear hl1 hl2 hl3 hKn e8
      go_upto_region 28 with (fail)
      clear r0 r1 r2 r3 r4 r5 r6 f5
      obtain ⟨w9, E9, BM9, C9, hs9⟩ := setAt BM (NoU.mk BM (by decide)) 5 (.slice (some ⟨hv, 0, none⟩) pv.length capv)
      rw [E9]
      replace BM9 : w9.heap[gm]? = some (.cells #[.slice A1 m c1, .slice A2 m c2, .slice A3 m c3, .slice A4 pv.length c4, .slice (some ⟨hb, 0, none⟩) m c, .slice (some ⟨hv, 0, none⟩) pv.length capv, .slice (some ⟨hd, 0, none⟩) m m] 88 (0, 0)) := BM9
      replace hE8 := C9.ext hE8 (by omega)
      replace ho := ho.chg C9 (by omega) (.inr (by omega))
      replace hi4 := hi4.chg C9 (.inr (by omega))
      replace hMb := hMb.chg C9 (by omega) (.inr (by omega))
      have hMv := (hov.mtv hov.mle hcapv).chg C9 (by omega) (.inr (by omega))
      replace hMv : MtV N w7.heap.size w8.heap.size w9 (.slice (some ⟨hv, 0, none⟩) pv.length capv) pv.length pv.length (invM pv.length (nmat (bas X pv) p m)) := hMv
      obtain ⟨IV, hIV⟩ := hid_eq (invM pv.length (nmat (bas X pv) p m))
      have HIV : Hid (HtM pv.length pv.length k2 IV) := by rw [hIV.out]; exact fun i hi j hj => ((rref_ht' (htM_augI HKB.out) (by omega) (by omega)) i hi (pv.length + j) (by omega)).mono HIB.out
      rw [← hIV.out] at hMv HF0
      have ho2 := ho.congr (B := cellTo F 0 0) (fun i _ j _ => by unfold cellTo; rw [if_neg (by omega)])
      have hs10 : w8.heap.size ≤ w9.heap.size := by omega
      clear BM E9 C9 hs9 ho hov B0 hE7 hE6 eC HKB HIB HINV HPW
      obtain ⟨r0, r1, r2, r3, r4, r5, r6⟩ := cells7 BM9
      go_wp2
      clear r0 r1 r2 r3 r4 r5 r6
      go_loopw [135] (fun i wr => ∃ j : Nat, j ≤ m ∧ i = .int .i64 j ∧ Chg hd wq.heap.size w9 wr ∧ OwnM N hd wq.heap.size wr hd m m m β κ (cellTo F j 0)) (fun i _ => m - (intOf i).toNat)
      case atStart => exact ⟨0, Nat.zero_le _, rfl, Chg.refl _ _ _, ho2⟩
      case round =>
       clear ho2
       obtain ⟨j, hj, rfl, hCz, hoz⟩ := hrel
       have hszz := hCz.size
       have BMz := hCz.blk BM9 (.inl (by omega))
       by_cases hltj : j < m
       ·have hMbz := hMb.chg hCz (by omega) (.inr (Nat.le_refl _))
        have hMvz := hMv.chg hCz (by omega) (.inr (by omega))
        obtain ⟨b0, off0, hA0, -, -, hxb⟩ := hMbz.addr (by omega)
        obtain ⟨A10, c10, q0, -, hc10, hrowj⟩ := hxb j hltj
        injection hA0 with hA0
        injection hA0 with e1 e2
        subst e1 e2
        rw [Nat.zero_add] at q0
        obtain ⟨r0, r1, r2, r3, r4, r5, r6⟩ := cells7 BMz
        have hPn : pv.length ≤ P := by have := HLEN.out; have := HPP.out; omega
        have HKA : Hid (pv.length * (k2 + k + 1) + 1 ≤ k3) := by rw [Hid, Hk3.out]; have := Nat.mul_le_mul_right (k2 + k + 1) hPn; omega
        have HKF : Hid (pv.length * (k + k3 + 1) + 1 ≤ 29000000000) := by have h8 := HK4.out; have := Nat.mul_le_mul_right (k + k3 + 1) hPn; rw [Hid]; omega
        have HK3 : Hid (k3 ≤ 29000000000) := by have h8 := HKF.out; have := Nat.le_mul_of_pos_left (k + k3 + 1) (show 0 < pv.length by omega); rw [Hid]; omega
        clear hxb
        go_wp2_with (go_at_call 97; refine Hid.out ?_)
        refine (m_apply hMvz hrowj (by omega) (by omega) (by omega) (by omega) HIV.out (HXB.out j hltj) (by have := HKA.out; have := HK3.out; omega)).mono ?_
        rintro e w10 ⟨A11, c11, rfl, hxs, e10⟩
        obtain ⟨xs, hxsv⟩ := hid_eq (fun i => sum pv.length (fun c => IV i c * bas X pv j c))
        rw [← hxsv.out] at hxs
        have HXS : Hid (HtL pv.length k3 xs) := by rw [hxsv.out]; exact fun i hi => sum_ht (n := pv.length) (k := k2 + k) (fun c hc => (HIV.out i hi c hc).mul (HXB.out j hltj c hc)) (Nat.le_refl _) HKA.out
        replace BMz := e10.block BMz
        replace hoz := hoz.ext e10
        replace hMbz := hMbz.ext e10
        have hCw := hCz.trans (e10.chg _ _)
        have hs11 := e10.size
        clear r0 r1 r2 r3 r4 r5 r6 q0 hrowj hMvz e10
        go_wp2
        go_loopw [150] (fun i wr => ∃ a : Nat, a ≤ m ∧ i = .int .i64 a ∧ Chg hd wq.heap.size w10 wr ∧ OwnM N hd wq.heap.size wr hd m m m β κ (cellTo F j a)) (fun i _ => m - (intOf i).toNat)
        case atStart => exact ⟨0, Nat.zero_le _, rfl, Chg.refl _ _ _, hoz⟩
        case round =>
         clear hoz
         obtain ⟨a, ha, rfl, hCa, hoa⟩ := hrel
         by_cases hlta : a < m
         ·have BMa := hCa.blk BMz (.inl (by omega))
          have hMba := hMbz.chg hCa (by omega) (.inr (Nat.le_refl _))
          have hxa := hxs.chg hCa (by omega) (.inr (by omega))
          obtain ⟨b0, off0, hA0, -, -, hxb⟩ := hMba.addr (by omega)
          obtain ⟨A12, c12, q0, -, hc12, hrowa⟩ := hxb a hlta
          injection hA0 with hA0
          injection hA0 with e1 e2
          subst e1 e2
          rw [Nat.zero_add] at q0
          obtain ⟨r0, r1, r2, r3, r4, r5, r6⟩ := cells7 BMa
          have o0 := hoa.hcell hlta
          obtain ⟨zb, zA, zn, zc, zA2, zn2, zc2, t0, t1, t2, t3, t4, t5, t6, t7, -⟩ := (hoa.row a hlta).at_ hltj
          have HFV : Hid (sum pv.length (fun c => bas X pv a c * xs c) = F a j) := by rw [Hid, HF0.out, hxsv.out]; rfl
          clear hxb
          go_upto_region 35 with (fail)
          have eC := (Ext.refl wr).drew
          refine region_late (fun w' => w'.cell? ⟨gm, 6, none⟩ = some (.slice (some ⟨hd, 0, none⟩) m m) ∧ w'.cell? ⟨gm, 4, none⟩ = some (.slice (some ⟨hb, 0, none⟩) m c) ∧ w'.cell? ⟨hd, a, none⟩ = some (.slice (some ⟨β a, 0, none⟩) m (κ a)) ∧ w'.cell? ⟨hb, a, none⟩ = some (.slice A12 pv.length c12)) [18] (by kernel_rfl) (by exact ⟨eC.cell r6, eC.cell r4, eC.cell o0, eC.cell q0⟩) (fun hHeld => ?_)
          refine sP 0 (h := ?_)
          try simp only [nr]
          refine sP 1 (h := ?_)
          try simp only [nr]
          refine sP 2 (h := ?_)
          try simp only [nr]
          refine sT 3 (h := ?_)
          try simp only [nr]
          refine sP 4 (h := ?_)
          try simp only [nr]
          refine sP 5 (h := ?_)
          try simp only [nr]
          refine sT 6 (h := ?_)
          try simp only [nr]
          refine sP 7 (h := ?_)
          try simp only [nr]
          refine sP 8 (h := ?_)
          try simp only [nr]
          refine sP 9 (h := ?_)
          try simp only [nr]
          refine sP 10 (h := ?_)
          try simp only [nr]
          refine sT 11 (h := ?_)
          try simp only [nr]
          refine sP 12 (h := ?_)
          try simp only [nr]
          refine sP 13 (h := ?_)
          try simp only [nr]
          refine sT 14 (h := ?_)
          try simp only [nr]
          refine sP 15 (h := ?_)
          try simp only [nr]
          refine stepL_only (i := 16) rfl (by kernel_rfl) (fun K hK => ?_)
          go_simp
          refine (rl_dot (hrowa.ext eC) (hxa.ext eC) (HXB.out a hlta) HXS.out HKF.out).mono ?_
          rw [HFV.out]
          intro e w11 hh
          obtain ⟨b9, A9', k9, c9', A10', k10, c10', rfl, hb9, g9, g10, e11⟩ := hh.form
          replace eC := eC.trans e11
          have hoc := hoa.ext eC
          obtain ⟨zb, zA, zn, zc, zA2, zn2, zc2, u0, u1, u2, u3, u4, u5, u6, u7, -⟩ := (hoc.row a hlta).at_ hltj
          go_wp2_with fail
          clear hHeld
          refine hK.out _ _ (by exact ⟨eC.cell r6, eC.cell r4, eC.cell o0, eC.cell q0⟩) fun hHeld => ?_
          clear hK K
          try simp only [nr]
          refine sP 17 (h := ?_)
          try simp only [nr]
          refine stepL_late (i := 18) rfl (by kernel_rfl) (by kernel_rfl) (fun K hK => ?_)
          go_simp
          refine hK.out _ _ ?_
          clear hK K
          try simp only [nr]
          refine stepL_done (by kernel_rfl) ?_ _
          clear hHeld
          obtain ⟨w12, E12, C12, hs12, hr12⟩ := (hoc.row a hlta).set (i := j) (q := F a j) (by have := (hoc.row a hlta).2.1; omega) (by omega) hb9 g9 g10
          rw [E12]
          have hlo12 := hoc.lo_ a hlta
          have hhi12 := hoc.hi_ a hlta
          have ho12 := (hoc.setRow hlta C12 (hr12.less (n' := m) (by omega))).congr (B := cellTo F j (a + 1)) (fun i _ c _ => (cellTo_succ F j a i c).symm)
          have hC12 := (hCa.trans (eC.chg _ _)).trans (C12.wide hlo12 (by omega))
          clear E12 C12 hs12 hr12 hoc hoa u0 u1 u2 u3 u4 u5 u6 u7 t0 t1 t2 t3 t4 t5 t6 t7 r0 r1 r2 r3 r4 r5 r6 o0 q0 hrowa g9 g10 hb9
          go_wp2
          go_roundw
          case rel => exact ⟨a + 1, by omega, by go_num, hC12, ho12⟩
          case measure => simp [intOf]; omega
         ·obtain rfl : m = a := by omega
          go_wp2
          go_roundw
          case rel => exact ⟨j + 1, by omega, by go_num, hCw.trans hCa, hoa.congr (fun i hi' c _ => cellTo_next F hi' c)⟩
          case measure => simp [intOf]; omega
       ·obtain rfl : m = j := by omega
        have hE9 : Ext w _ := hCz.ext hE8 (by omega)
        have hl1 := hI1.ext hE9
        have hl2 := hI2.ext hE9
        have hl3 := hI3.ext hE9
        have hi9 := hi4.chg hCz (.inl (by omega))
        have hMbz := hMb.chg hCz (by omega) (.inr (Nat.le_refl _))
        have hMvz := hMv.chg hCz (by omega) (.inr (by omega))
        rw [hIV.out] at hMvz
        have hMF := (hoz.mtv (c := m) hoz.mle (by unfold maxLen; omega)).congr (Y := F) (fun i _ c hc => by unfold cellTo; rw [if_pos (.inl hc)])
        go_wp2
        rw [hRf.out]
        exact ⟨gm, rfl, ⟨_, _, _, _, _, _, _, _, _, _, _, _, BMz, MtR.wide hl1 (Nat.zero_le _) hl1.2.1 (Nat.le_refl _), LsR.wide hl2 (Nat.zero_le _) hl2.2.1 (Nat.le_refl _), LsR.wide hl3 (Nat.zero_le _) hl3.2.1 (Nat.le_refl _), hi9.wide (Nat.zero_le _) (by omega) (Nat.le_refl _), MtR.wide hMF (Nat.zero_le _) (by omega) (Nat.le_refl _)⟩, hE9, fun _ => ⟨_, _, _, _, _, _, _, _, _, BMz, MtR.wide hMbz (Nat.zero_le _) hMbz.2.1 (Nat.le_refl _), MtR.wide hMvz (Nat.zero_le _) hMvz.2.1 (Nat.le_refl _)⟩⟩
theorem rl_open {N lo hi : Nat} {w : World} {v1 v2 v3 : Value} {m n : Nat} {X : Nat → Nat → Rat} {y p : Nat → Rat} (h1 : MtV N lo hi w v1 m n X) (h2 : LsV N lo hi w v2 m y) (h3 : LsV N lo hi w v3 m p) (hm0 : 0 < m) (hm : m ≤ 64) (hn0 : 0 < n) (hn : n ≤ 24) (hp : ∀ i, i < m → 0 < p i)
  {k P k2 k3 : Nat} (hP : n ≤ P) (hkx : HtM m n k X) (hky : HtL m k y) (hkp : HtL m k p) (hK0 : 5 * (5 ^ P * k) ≤ 29000000000) (hK1 : m * (3 * k + 1) + 3 * k + 2 ≤ 29000000000) (hk2 : k2 = 5 ^ P * (m * (3 * k + 1) + 2)) (hK2 : 5 * k2 ≤ 29000000000) (hk3 : k3 = P * (k2 + k + 1) + 1) (hK4 : P * (k + k3 + 1) + 1 ≤ 29000000000) :
  Calls Tryz.prog 57 #[.agg #[v1, v2, v3]] w (RetOpen N w m n X y p (rref m X n).2 (fitsOf m n X p)) :=
 (rl_openB h1 h2 h3 hm0 hm hn0 hn hp hP hkx hky hkp hK0 hK1 hk2 hK2 hk3 hK4).mono fun _ _ ⟨gm, h1, h2, h3, _⟩ => ⟨gm, h1, h2, h3⟩
end Go.Proofs.YtghpfnhmlpfgcaaGreat
