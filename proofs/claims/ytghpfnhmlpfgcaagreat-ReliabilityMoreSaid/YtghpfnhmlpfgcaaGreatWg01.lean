import Derived.Test.YtghpfnhmlpfgcaaGreatWb01
import Derived.Test.YtghpfnhmlpfgcaaGreatWb02
import Derived.Test.YtghpfnhmlpfgcaaGreatWb03
import Derived.Test.YtghpfnhmlpfgcaaGreatWb04
import Derived.Test.YtghpfnhmlpfgcaaGreatWb05
import Derived.Test.YtghpfnhmlpfgcaaGreatWb06
import Derived.Test.YtghpfnhmlpfgcaaGreatWb07
import Derived.Test.YtghpfnhmlpfgcaaGreatWb08
import Derived.Test.YtghpfnhmlpfgcaaGreatWb09
import Derived.Test.YtghpfnhmlpfgcaaGreatWb10
import Derived.Test.YtghpfnhmlpfgcaaGreatWb11
import Derived.Test.YtghpfnhmlpfgcaaGreatWb12
import Derived.Test.YtghpfnhmlpfgcaaGreatWb13
import Derived.Test.YtghpfnhmlpfgcaaGreatWb14
import Derived.Test.YtghpfnhmlpfgcaaGreatWb15
import Derived.Test.YtghpfnhmlpfgcaaGreatWb16
import Derived.Test.YtghpfnhmlpfgcaaGreatWb17
import Derived.Test.YtghpfnhmlpfgcaaGreatWb18
import Derived.Test.YtghpfnhmlpfgcaaGreatWb19
import Derived.Test.YtghpfnhmlpfgcaaGreatWb21
import Derived.Test.YtghpfnhmlpfgcaaGreatWb22
import Derived.Test.YtghpfnhmlpfgcaaGreatWb23
import Derived.Test.YtghpfnhmlpfgcaaGreatWb24
import Derived.Test.YtghpfnhmlpfgcaaGreatWb25
import Derived.Test.YtghpfnhmlpfgcaaGreatWb26
import Derived.Test.YtghpfnhmlpfgcaaGreatWb28
import Derived.Test.YtghpfnhmlpfgcaaGreatWb29
import Derived.Test.YtghpfnhmlpfgcaaGreatWb30
import Derived.Test.YtghpfnhmlpfgcaaGreatWb31
import Derived.Test.YtghpfnhmlpfgcaaGreatWb32
import Derived.Test.YtghpfnhmlpfgcaaGreatWb33
import Derived.Test.YtghpfnhmlpfgcaaGreatWb34
import Derived.Test.YtghpfnhmlpfgcaaGreatWb35
import Derived.Test.YtghpfnhmlpfgcaaGreatWb36
import Derived.Test.YtghpfnhmlpfgcaaGreatWb37
import Derived.Test.YtghpfnhmlpfgcaaGreatWb38
import Derived.Test.YtghpfnhmlpfgcaaGreatWb39
import Derived.Test.YtghpfnhmlpfgcaaGreatWb40
import Derived.Test.YtghpfnhmlpfgcaaGreatWb41
import Derived.Test.YtghpfnhmlpfgcaaGreatWb42
import Derived.Deep.AppendLies
import Derived.WalkKit
import Derived.WalkSpells
import Derived.WalkLawsBesides
import Derived.Lib.Hide
import Derived.Deep.RegionHeld3
import Derived.Deep.QuietTactic
import Derived.BigQuiet
import Derived.Maps.AppendAt
import Derived.Deep.DeepCutAuto
import Derived.Deep.RegionWith
import Derived.Deep.DeepMust
import Derived.Deep.CutBlock
import Derived.OrdersIn
import Derived.RegionTactic
import Derived.RangeFuncNested
import Derived.RangeFuncBound
import Derived.RangeFuncCalls
import Derived.RangeFuncLeaves
import Derived.RangeFuncBox
import Derived.Shelf.Abstract
import Derived.OwnWalkIn
import Derived.TacticsInMore
import Derived.LoopNIn
import Derived.LoopIn
import Derived.Laws.IdiomCopy
import Derived.Shelf.Bits.Mul64
import Derived.Deep.RegionLaw
import Derived.Lib.SliceRun
set_option linter.all false
namespace Go.Proofs.YtghpfnhmlpfgcaaGreat
open Go.RowKit
set_option maxHeartbeats 4000000 in
theorem m_made_turned {N : Nat} {w : World} (hN : N ≤ w.heap.size) (m n : Nat) {M' N' : Int} (hM' : M' = (m : Int)) (hN' : N' = (n : Int)) (hm : m < 1000000) (hn : n < 1000000) (X : Nat → Nat → Rat) {gb : Nat}
  (hf : ∀ i, i < m → ∀ j, j < n → ∀ w', Ext w w' → Calls Tryz.prog 176 #[.int .i64 (i : Int), .int .i64 (j : Int), .pointer (some ⟨gb, 0, none⟩)] w' (RetR N w' (X i j))) :
  Calls Tryz.prog 154 #[.int .i64 M', .int .i64 N', .func (.func 176) #[] #[.pointer (some ⟨gb, 0, none⟩)]] w (RetOwn N w m n X) := by
 subst hM' hN'
 have HF := Lib.hid hf
 clear hf
 go_enter Tryz.func154, Tryz.ntmps154
 go_wp2_with (at_make; refine Hid.out ?_)
 refine wpList_make_rows rfl _ _ rfl .i64 .i64 _ _ m rfl rfl rfl rfl hm ?_
 intro w1 cs B0 hcs e1
 have ho : OwnM N w.heap.size w1.heap.size w1 w.heap.size m 0 n (fun _ => 0) (fun _ => 0) X := OwnM.start hN (Nat.le_refl _) B0 hcs X (blk_lt B0) (Nat.le_refl _)
 have hs1 : w.heap.size < w1.heap.size := blk_lt B0
 clear B0
 have HCS := Lib.hid hcs
 clear hcs
 go_wp2
 go_loopw [14] (fun i wr => ∃ k : Nat, k ≤ m ∧ i = .int .i64 k ∧ Ext w wr ∧ ∃ β κ, OwnM N w.heap.size wr.heap.size wr w.heap.size m k n β κ X) (fun i _ => m - (intOf i).toNat)
 case atStart => exact ⟨0, Nat.zero_le _, rfl, e1, _, _, ho⟩
 case round =>
  clear ho e1
  obtain ⟨k, hk, rfl, hE, β, κ, ho⟩ := hrel
  have hsr : w.heap.size < wr.heap.size := by have := ho.hhi; omega
  by_cases hlt : k < m
  ·go_wp2_with (at_make; refine Hid.out ?_)
   refine wpList_make_rats rfl _ _ rfl .i64 .i64 _ _ n rfl rfl rfl rfl hn ?_
   intro w2 cs2 B2 hcs2 e2
   have ho2 := ho.ext e2
   have hR : RowB N w2 wr.heap.size n 0 (X k) := ⟨by omega, Nat.zero_le _, ⟨cs2, B2, hcs2⟩, fun j hj => by omega⟩
   obtain ⟨u0, z0⟩ := ho2.hthere hlt
   have z1 := ho2.hfrozen k
   have hs2 : wr.heap.size < w2.heap.size := blk_lt B2
   have HCS2 := Lib.hid hcs2
   clear B2 hcs2 ho
   go_upto_region 6 with (fail)
   obtain ⟨w3, E3, C3, hs3, y0, ho3⟩ := ho2.setHead (Nat.le_refl k) hlt (.slice (some ⟨wr.heap.size, 0, none⟩) n n)
   rw [E3]
   replace hE := C3.ext (hE.trans e2) (Nat.le_refl _)
   replace hR := hR.chg C3 (by omega) (by omega)
   have hs4 : wr.heap.size < w3.heap.size := by omega
   generalize hgr : wr.heap.size = gr at *
   clear hgr E3 C3 hs3 ho2 z0 z1 e2 hs2
   have Y0 := y0
   go_wp2
   go_loopw [27] (fun i ws => ∃ j : Nat, j ≤ n ∧ i = .int .i64 j ∧ Ext w ws ∧ gr < ws.heap.size ∧ ws.cell? ⟨w.heap.size, k, none⟩ = some (.slice (some ⟨gr, 0, none⟩) n n) ∧ OwnM N w.heap.size gr ws w.heap.size m k n β κ X ∧ RowB N ws gr n j (X k)) (fun i _ => n - (intOf i).toNat)
   case atStart => exact ⟨0, Nat.zero_le _, rfl, hE, hs4, y0, ho3, hR⟩
   case round =>
    clear hE y0 ho3 hR hs4 Y0
    obtain ⟨j, hj, rfl, hE, hs4, y0, ho3, hR⟩ := hrel
    by_cases hlt' : j < n
    ·go_upto_region 9 with (fail)
     have eC := (Ext.refl wr).drew
     refine region_late (fun w' => w'.cell? ⟨w.heap.size, k, none⟩ = some (.slice (some ⟨gr, 0, none⟩) n n)) [10] (by kernel_rfl) (by exact eC.cell y0) (fun hHeld => ?_)
     refine sP 0 (h := ?_)
     try simp only [nr]
     refine sP 1 (h := ?_)
     try simp only [nr]
     refine sP 2 (h := ?_)
     try simp only [nr]
     refine sT 3 (h := ?_)
     try simp only [nr]
     refine sP 4 (h := ?_)
     try simp only [nr]
     refine sP 5 (h := ?_)
     try simp only [nr]
     refine sP 6 (h := ?_)
     try simp only [nr]
     refine sP 7 (h := ?_)
     try simp only [nr]
     refine stepL_only (i := 8) rfl (by kernel_rfl) (fun K hK => ?_)
     go_simp
     refine (HF.out k hlt j hlt' _ (hE.trans eC)).mono ?_
     intro e w5 hh
     obtain ⟨b9, A9, k9, c9, A10, k10, c10, rfl, hb9, g9, g10, e5⟩ := hh.form
     replace eC := eC.trans e5
     have hR5 := hR.ext eC
     obtain ⟨x0, v0⟩ := hR5.there (o := j * 4) (by omega)
     obtain ⟨x1, v1⟩ := hR5.there (o := j * 4 + 1) (by omega)
     obtain ⟨x2, v2⟩ := hR5.there (o := j * 4 + 2) (by omega)
     obtain ⟨x3, v3⟩ := hR5.there (o := j * 4 + 3) (by omega)
     have f0 := hR5.frozen (j * 4)
     have f1 := hR5.frozen (j * 4 + 1)
     have f2 := hR5.frozen (j * 4 + 2)
     have f3 := hR5.frozen (j * 4 + 3)
     go_wp2_with fail
     clear hHeld
     refine hK.out _ _ (by exact eC.cell y0) fun hHeld => ?_
     clear hK K
     try simp only [nr]
     refine sP 9 (h := ?_)
     try simp only [nr]
     refine stepL_late (i := 10) rfl (by kernel_rfl) (by kernel_rfl) (fun K hK => ?_)
     go_simp
     refine hK.out _ _ ?_
     clear hK K
     try simp only [nr]
     refine stepL_done (by kernel_rfl) ?_ _
     clear hHeld
     obtain ⟨w6, E6, C6, hs6, hr6⟩ := hR5.set (i := j) (q := X k j) hlt' (Nat.le_refl _) hb9 g9 g10
     rw [E6]
     replace hE := C6.ext (hE.trans eC) (by omega)
     replace ho3 := (ho3.ext eC).chg C6 (by omega) (.inl (Nat.le_refl _))
     replace y0 := C6.cell (p := ⟨w.heap.size, k, none⟩) (eC.cell y0) (.inl (by simp only; omega))
     have hr7 := (hr6.less (n' := j + 1) (by omega)).congr (y := X k) (fun c hc => by unfold upd; split; (rename_i e; rw [e]); rfl)
     have hs7 : gr < w6.heap.size := by have := eC.size; omega
     clear E6 C6 hs6 hr6 hR hR5 v0 v1 v2 v3 f0 f1 f2 f3
     go_wp2
     go_roundw
     case rel => exact ⟨j + 1, by omega, by go_num, hE, hs7, y0, ho3, hr7⟩
     case measure => simp [intOf]; omega
    ·obtain rfl : j = n := by omega
     have ho4 := (ho3.more hlt y0 hR (Nat.le_refl _) (by unfold maxLen; omega)).congr (B := X) (fun i _ c _ => by unfold updM; split; (rename_i e; rw [e]); rfl)
     go_wp2
     go_roundw
     case rel => exact ⟨k + 1, by omega, by go_num, hE, _, _, ho4⟩
     case measure => simp [intOf]; omega
  ·obtain rfl : k = m := by omega
   go_wp2
   go_ret
   exact ⟨_, _, β, κ, rfl, by unfold maxLen; omega, ho, hE⟩
set_option maxHeartbeats 4000000 in
theorem m_made_column {N : Nat} {w : World} (hN : N ≤ w.heap.size) (m n : Nat) {M' N' : Int} (hM' : M' = (m : Int)) (hN' : N' = (n : Int)) (hm : m < 1000000) (hn : n < 1000000) (X : Nat → Nat → Rat) {gb : Nat}
  (hf : ∀ i, i < m → ∀ j, j < n → ∀ w', Ext w w' → Calls Tryz.prog 178 #[.int .i64 (i : Int), .int .i64 (j : Int), .pointer (some ⟨gb, 0, none⟩)] w' (RetR N w' (X i j))) :
  Calls Tryz.prog 154 #[.int .i64 M', .int .i64 N', .func (.func 178) #[] #[.pointer (some ⟨gb, 0, none⟩)]] w (RetOwn N w m n X) := by
 subst hM' hN'
 have HF := Lib.hid hf
 clear hf
 go_enter Tryz.func154, Tryz.ntmps154
 go_wp2_with (at_make; refine Hid.out ?_)
 refine wpList_make_rows rfl _ _ rfl .i64 .i64 _ _ m rfl rfl rfl rfl hm ?_
 intro w1 cs B0 hcs e1
 have ho : OwnM N w.heap.size w1.heap.size w1 w.heap.size m 0 n (fun _ => 0) (fun _ => 0) X := OwnM.start hN (Nat.le_refl _) B0 hcs X (blk_lt B0) (Nat.le_refl _)
 have hs1 : w.heap.size < w1.heap.size := blk_lt B0
 clear B0
 have HCS := Lib.hid hcs
 clear hcs
 go_wp2
 go_loopw [14] (fun i wr => ∃ k : Nat, k ≤ m ∧ i = .int .i64 k ∧ Ext w wr ∧ ∃ β κ, OwnM N w.heap.size wr.heap.size wr w.heap.size m k n β κ X) (fun i _ => m - (intOf i).toNat)
 case atStart => exact ⟨0, Nat.zero_le _, rfl, e1, _, _, ho⟩
 case round =>
  clear ho e1
  obtain ⟨k, hk, rfl, hE, β, κ, ho⟩ := hrel
  have hsr : w.heap.size < wr.heap.size := by have := ho.hhi; omega
  by_cases hlt : k < m
  ·go_wp2_with (at_make; refine Hid.out ?_)
   refine wpList_make_rats rfl _ _ rfl .i64 .i64 _ _ n rfl rfl rfl rfl hn ?_
   intro w2 cs2 B2 hcs2 e2
   have ho2 := ho.ext e2
   have hR : RowB N w2 wr.heap.size n 0 (X k) := ⟨by omega, Nat.zero_le _, ⟨cs2, B2, hcs2⟩, fun j hj => by omega⟩
   obtain ⟨u0, z0⟩ := ho2.hthere hlt
   have z1 := ho2.hfrozen k
   have hs2 : wr.heap.size < w2.heap.size := blk_lt B2
   have HCS2 := Lib.hid hcs2
   clear B2 hcs2 ho
   go_upto_region 6 with (fail)
   obtain ⟨w3, E3, C3, hs3, y0, ho3⟩ := ho2.setHead (Nat.le_refl k) hlt (.slice (some ⟨wr.heap.size, 0, none⟩) n n)
   rw [E3]
   replace hE := C3.ext (hE.trans e2) (Nat.le_refl _)
   replace hR := hR.chg C3 (by omega) (by omega)
   have hs4 : wr.heap.size < w3.heap.size := by omega
   generalize hgr : wr.heap.size = gr at *
   clear hgr E3 C3 hs3 ho2 z0 z1 e2 hs2
   have Y0 := y0
   go_wp2
   go_loopw [27] (fun i ws => ∃ j : Nat, j ≤ n ∧ i = .int .i64 j ∧ Ext w ws ∧ gr < ws.heap.size ∧ ws.cell? ⟨w.heap.size, k, none⟩ = some (.slice (some ⟨gr, 0, none⟩) n n) ∧ OwnM N w.heap.size gr ws w.heap.size m k n β κ X ∧ RowB N ws gr n j (X k)) (fun i _ => n - (intOf i).toNat)
   case atStart => exact ⟨0, Nat.zero_le _, rfl, hE, hs4, y0, ho3, hR⟩
   case round =>
    clear hE y0 ho3 hR hs4 Y0
    obtain ⟨j, hj, rfl, hE, hs4, y0, ho3, hR⟩ := hrel
    by_cases hlt' : j < n
    ·go_upto_region 9 with (fail)
     have eC := (Ext.refl wr).drew
     refine region_late (fun w' => w'.cell? ⟨w.heap.size, k, none⟩ = some (.slice (some ⟨gr, 0, none⟩) n n)) [10] (by kernel_rfl) (by exact eC.cell y0) (fun hHeld => ?_)
     refine sP 0 (h := ?_)
     try simp only [nr]
     refine sP 1 (h := ?_)
     try simp only [nr]
     refine sP 2 (h := ?_)
     try simp only [nr]
     refine sT 3 (h := ?_)
     try simp only [nr]
     refine sP 4 (h := ?_)
     try simp only [nr]
     refine sP 5 (h := ?_)
     try simp only [nr]
     refine sP 6 (h := ?_)
     try simp only [nr]
     refine sP 7 (h := ?_)
     try simp only [nr]
     refine stepL_only (i := 8) rfl (by kernel_rfl) (fun K hK => ?_)
     go_simp
     refine (HF.out k hlt j hlt' _ (hE.trans eC)).mono ?_
     intro e w5 hh
     obtain ⟨b9, A9, k9, c9, A10, k10, c10, rfl, hb9, g9, g10, e5⟩ := hh.form
     replace eC := eC.trans e5
     have hR5 := hR.ext eC
     obtain ⟨x0, v0⟩ := hR5.there (o := j * 4) (by omega)
     obtain ⟨x1, v1⟩ := hR5.there (o := j * 4 + 1) (by omega)
     obtain ⟨x2, v2⟩ := hR5.there (o := j * 4 + 2) (by omega)
     obtain ⟨x3, v3⟩ := hR5.there (o := j * 4 + 3) (by omega)
     have f0 := hR5.frozen (j * 4)
     have f1 := hR5.frozen (j * 4 + 1)
     have f2 := hR5.frozen (j * 4 + 2)
     have f3 := hR5.frozen (j * 4 + 3)
     go_wp2_with fail
     clear hHeld
     refine hK.out _ _ (by exact eC.cell y0) fun hHeld => ?_
     clear hK K
     try simp only [nr]
     refine sP 9 (h := ?_)
     try simp only [nr]
     refine stepL_late (i := 10) rfl (by kernel_rfl) (by kernel_rfl) (fun K hK => ?_)
     go_simp
     refine hK.out _ _ ?_
     clear hK K
     try simp only [nr]
     refine stepL_done (by kernel_rfl) ?_ _
     clear hHeld
     obtain ⟨w6, E6, C6, hs6, hr6⟩ := hR5.set (i := j) (q := X k j) hlt' (Nat.le_refl _) hb9 g9 g10
     rw [E6]
     replace hE := C6.ext (hE.trans eC) (by omega)
     replace ho3 := (ho3.ext eC).chg C6 (by omega) (.inl (Nat.le_refl _))
     replace y0 := C6.cell (p := ⟨w.heap.size, k, none⟩) (eC.cell y0) (.inl (by simp only; omega))
     have hr7 := (hr6.less (n' := j + 1) (by omega)).congr (y := X k) (fun c hc => by unfold upd; split; (rename_i e; rw [e]); rfl)
     have hs7 : gr < w6.heap.size := by have := eC.size; omega
     clear E6 C6 hs6 hr6 hR hR5 v0 v1 v2 v3 f0 f1 f2 f3
     go_wp2
     go_roundw
     case rel => exact ⟨j + 1, by omega, by go_num, hE, hs7, y0, ho3, hr7⟩
     case measure => simp [intOf]; omega
    ·obtain rfl : j = n := by omega
     have ho4 := (ho3.more hlt y0 hR (Nat.le_refl _) (by unfold maxLen; omega)).congr (B := X) (fun i _ c _ => by unfold updM; split; (rename_i e; rw [e]); rfl)
     go_wp2
     go_roundw
     case rel => exact ⟨k + 1, by omega, by go_num, hE, _, _, ho4⟩
     case measure => simp [intOf]; omega
  ·obtain rfl : k = m := by omega
   go_wp2
   go_ret
   exact ⟨_, _, β, κ, rfl, by unfold maxLen; omega, ho, hE⟩
set_option maxHeartbeats 2000000 in
theorem m_turned1 {N lo hi : Nat} {w : World} {gb : Nat} {A : Option Addr} {m n c : Nat} {X : Nat → Nat → Rat} (hb : w.cell? ⟨gb, 0, none⟩ = some (.slice A m c)) (h : MtV N lo hi w (.slice A m c) m n X) {i j : Nat} (hi' : i < n) (hj : j < m) (hm : m < 1000000) (hn : n < 1000000) :
  Calls Tryz.prog 176 #[.int .i64 (i : Int), .int .i64 (j : Int), .pointer (some ⟨gb, 0, none⟩)] w (RetR N w (X j i)) := by
 have hN := h.le
 obtain ⟨b, off, rfl, -, -, hx⟩ := h.addr (by omega)
 obtain ⟨A1, c1, p0, -, -, hl⟩ := hx j hj
 obtain ⟨b2, off2, rfl, -, -, hx⟩ := hl.addr (by omega)
 obtain ⟨n1, A3, k3, c3, A4, k4, c4, q0, q1, q2, q3, hb1, g1, g2⟩ := (hx i hi').open
 have l0 := cell_lt hb
 have l1 := cell_lt p0
 have l2 := cell_lt q0
 simp only at l0 l1 l2
 obtain ⟨q, hq⟩ := hid_eq (X j i)
 rw [← hq.out] at hb1 g1 g2 ⊢
 clear hx hl h
 go_enter Tryz.func176, Tryz.ntmps176
 go_wp2
 have eA := (Ext.refl w).alloc (Obj.cells #[Value.bool n1, Value.slice A3 k3 c3, Value.bool false, Value.slice A4 k4 c4] 37)
 exact fin_ratB rfl rfl rfl eA (BoxR.mk (heap_alloc_new w _) hb1 (g1.ext eA) (g2.ext eA))
set_option maxHeartbeats 2000000 in
theorem m_turned {N lo hi : Nat} {w : World} {v : Value} {m n : Nat} {X : Nat → Nat → Rat} (h : MtV N lo hi w v m n X) (hm0 : 0 < m) (hm : m < 1000000) (hn : n < 1000000) :
  Calls Tryz.prog 137 #[v] w (RetOwn N w n m (fun i j => X j i)) := by
 have hN := h.le
 obtain ⟨A, c, rfl, hmc, hcm⟩ := h.form
 have hI := h
 obtain ⟨Z, hZ⟩ := hid_eq (fun i j => X j i)
 have HZ : Hid (∀ i j, X j i = Z i j) := fun i j => by rw [hZ.out]
 rw [← hZ.out]
 obtain ⟨b, off, rfl, -, -, hx⟩ := h.addr hm0
 obtain ⟨A1, c1, p0, hnc, hcm1, -⟩ := hx 0 hm0
 rw [Nat.add_zero] at p0
 have l0 := cell_lt p0
 simp only at l0
 clear h hx
 go_enter Tryz.func137, Tryz.ntmps137
 go_upto_region 1 with (fail)
 refine boxes1 ?_
 intro W hE hsz B0
 obtain ⟨a0, -⟩ := cells1 B0
 replace p0 := hE.cell p0
 have eC := (Ext.refl W).drew
 refine region_late (fun w' => w'.cell? ⟨w.heap.size, 0, none⟩ = some (.slice (some ⟨b, off, none⟩) m c) ∧ w'.cell? ⟨b, off, none⟩ = some (.slice A1 n c1)) [] (by kernel_rfl) (by exact ⟨eC.cell a0, eC.cell p0⟩) (fun hHeld => ?_)
 refine sT 0 (h := ?_)
 try simp only [nr]
 refine sP 1 (h := ?_)
 try simp only [nr]
 refine sT 2 (h := ?_)
 try simp only [nr]
 refine sP 3 (h := ?_)
 try simp only [nr]
 refine sT 4 (h := ?_)
 try simp only [nr]
 refine sP 5 (h := ?_)
 try simp only [nr]
 refine sP 6 (h := ?_)
 try simp only [nr]
 refine stepL_only (i := 7) rfl (by kernel_rfl) (fun K hK => ?_)
 go_simp
 refine (m_made_turned (N := N) (by have := hE.size; show N ≤ W.heap.size; omega) n m rfl rfl hn hm Z (fun i hi' j hj w' e => by rw [← HZ.out i j]; exact m_turned1 ((eC.trans e).cell a0) (hI.ext (hE.trans (eC.trans e))) hi' hj hm hn)).mono ?_
 rintro e w2 ⟨h2, cap2, β2, κ2, rfl, hcap2, ho2, e2⟩
 replace eC := eC.trans e2
 go_wp2_with fail
 clear hHeld
 refine hK.out _ _ (by exact ⟨eC.cell a0, eC.cell p0⟩) fun hHeld => ?_
 clear hK K
 try simp only [nr]
 refine sP 8 (h := ?_)
 try simp only [nr]
 refine stepL_done (by kernel_rfl) ?_ _
 clear hHeld
 go_wp2
 go_ret
 exact ⟨h2, cap2, β2, κ2, rfl, hcap2, ho2.wide (by have := hE.size; show w.heap.size ≤ W.heap.size; omega) hN (Nat.le_refl _) (Nat.le_refl _), hE.trans eC⟩
def RetOwn2 (N : Nat) (w : World) (m n : Nat) (A : Nat → Nat → Rat) (e : Ending) (w' : World) : Prop := ∃ h cap β κ, e = .returned (.tuple #[.slice (some ⟨h, 0, none⟩) m cap, .int .i64 0]) ∧ cap ≤ maxLen ∧ OwnM N w.heap.size w'.heap.size w' h cap m n β κ A ∧ Ext w w'
set_option maxHeartbeats 2000000 in
theorem m_transpose {N lo hi : Nat} {w : World} {v : Value} {m n : Nat} {X : Nat → Nat → Rat} (h : MtV N lo hi w v m n X) (hm0 : 0 < m) (hm : m ≤ 64) (hn0 : 0 < n) (hn : n ≤ 64) (hs : ∀ i, i < m → ∀ j, j < n → Sz (X i j)) :
  Calls Tryz.prog 94 #[v] w (RetOwn2 N w n m (fun i j => X j i)) := by
 obtain ⟨A, c, rfl, hmc, hcm⟩ := h.form
 have hI := h
 have HS := Lib.hid hs
 obtain ⟨Z, hZ⟩ := hid_eq (fun i j => X j i)
 rw [← hZ.out]
 clear h hs hcm
 go_enter Tryz.func94, Tryz.ntmps94
 go_wp2_with (go_at_call 136; refine Hid.out ?_)
 refine (m_check hI hm0 hm hn0 hn HS.out).mono ?_
 rintro e w1 ⟨rfl, hE⟩
 go_wp2_with (go_at_call 137; refine Hid.out ?_)
 refine (m_turned (hI.ext hE) hm0 (by omega) (by omega)).mono ?_
 rw [← hZ.out]
 rintro e w2 ⟨h2, cap2, β2, κ2, rfl, hcap2, ho2, e2⟩
 have hs1 := hE.size
 have hN := hI.le
 go_wp2
 go_ret2
 exact ⟨h2, cap2, β2, κ2, rfl, hcap2, ho2.wide hs1 hN (Nat.le_refl _) (Nat.le_refl _), hE.trans e2⟩
set_option maxHeartbeats 2000000 in
theorem m_column1 {N lo hi : Nat} {w : World} {gb : Nat} {A : Option Addr} {n c : Nat} {x : Nat → Rat} (hb : w.cell? ⟨gb, 0, none⟩ = some (.slice A n c)) (h : LsV N lo hi w (.slice A n c) n x) {i j : Nat} (hi' : i < n) (hj : j < 1000000) (hn : n < 1000000) :
  Calls Tryz.prog 178 #[.int .i64 (i : Int), .int .i64 (j : Int), .pointer (some ⟨gb, 0, none⟩)] w (RetR N w (x i)) := by
 have hN := h.le
 obtain ⟨b2, off2, rfl, -, -, hx⟩ := h.addr (by omega)
 obtain ⟨n1, A3, k3, c3, A4, k4, c4, q0, q1, q2, q3, hb1, g1, g2⟩ := (hx i hi').open
 have l0 := cell_lt hb
 have l2 := cell_lt q0
 simp only at l0 l2
 obtain ⟨q, hq⟩ := hid_eq (x i)
 rw [← hq.out] at hb1 g1 g2 ⊢
 clear hx h
 go_enter Tryz.func178, Tryz.ntmps178
 go_wp2
 have eA := (Ext.refl w).alloc (Obj.cells #[Value.bool n1, Value.slice A3 k3 c3, Value.bool false, Value.slice A4 k4 c4] 37)
 exact fin_ratB rfl rfl rfl eA (BoxR.mk (heap_alloc_new w _) hb1 (g1.ext eA) (g2.ext eA))
set_option maxHeartbeats 2000000 in
theorem m_column {N lo hi : Nat} {w : World} {v : Value} {n : Nat} {x : Nat → Rat} (h : LsV N lo hi w v n x) (hn : n < 1000000) :
  Calls Tryz.prog 141 #[v] w (RetOwn N w n 1 (fun i _ => x i)) := by
 have hN := h.le
 obtain ⟨A, c, rfl, hmc, hcm⟩ := h.form
 have hI := h
 clear h
 go_enter Tryz.func141, Tryz.ntmps141
 go_wp2_with (go_at_call 154; refine Hid.out ?_)
 refine boxesC1 ?_
 intro W hE hsz B0
 obtain ⟨a0, -⟩ := cells1 B0
 refine (m_made_column (N := N) (by have := hE.size; omega) n 1 rfl rfl hn (by omega) (fun i _ => x i) (fun i hi' j hj w' e => m_column1 (e.cell a0) (hI.ext (hE.trans e)) hi' (by omega) hn)).mono ?_
 rintro e w2 ⟨h2, cap2, β2, κ2, rfl, hcap2, ho2, e2⟩
 have hs1 := hE.size
 go_wp2
 go_ret
 exact ⟨h2, cap2, β2, κ2, rfl, hcap2, ho2.wide hs1 hN (Nat.le_refl _) (Nat.le_refl _), hE.trans e2⟩
set_option maxHeartbeats 1000000 in
theorem m_solve1 {w : World} {gb : Nat} {A : Option Addr} {m c : Nat} (hb : w.cell? ⟨gb, 0, none⟩ = some (.slice A m c)) (hc : c ≤ maxLen) (hm : m ≤ c) :
  Calls Tryz.prog 139 #[.pointer (some ⟨gb, 0, none⟩)] w (RetV w (.int .i64 (m : Int))) := by
 unfold maxLen at hc
 go_enter Tryz.func139, Tryz.ntmps139
 go_wp2
 go_ret
 exact ⟨rfl, Ext.refl w⟩
set_option maxHeartbeats 1000000 in
theorem m_list2 {N lo hi lo' hi' : Nat} {w : World} {u : Value} {gb : Nat} {A : Option Addr} {m n c : Nat} {X : Nat → Nat → Rat} {x : Nat → Rat} (hb : w.cell? ⟨gb, 0, none⟩ = some (.slice A m c)) (h : MtV N lo hi w (.slice A m c) m n X) (h' : LsV N lo' hi' w u m x) (hm0 : 0 < m) (hm : m ≤ 64) (hn0 : 0 < n) (hn : n ≤ 64) (hs : ∀ i, i < m → ∀ j, j < n → Sz (X i j)) (hs' : ∀ i, i < m → Sz (x i)) :
  Calls Tryz.prog 138 #[.slice A m c, u, .func (.func 139) #[] #[.pointer (some ⟨gb, 0, none⟩)]] w (RetV w (.int .i64 0)) := by
 obtain ⟨A1, c1, rfl, hn1, hm1⟩ := h'.form
 obtain ⟨_, _, hv, hmc, hcm⟩ := h.form
 injection hv with e1 e2 e3
 subst e1 e3
 clear e2
 have HMC := Lib.hid hmc
 have HCM := Lib.hid hcm
 clear hmc hcm
 unfold maxLen at hm1
 have hI := h
 have hI' := h'
 have HS := Lib.hid hs
 have HS' := Lib.hid hs'
 have t1 : ((m : Int) != (m : Int)) = false := by simp
 clear h h' hs hs'
 go_enter Tryz.func138, Tryz.ntmps138
 go_wp2_with (go_at_call 136; refine Hid.out ?_)
 refine (m_check hI hm0 hm hn0 hn HS.out).mono ?_
 rintro e w1 ⟨rfl, e1⟩
 go_wp2_with (go_at_call 175; refine Hid.out ?_)
 refine (m_canonicalV (hI'.ext e1) HS'.out).mono ?_
 rintro e w2 ⟨rfl, e2⟩
 go_wp2_with (go_at_call 139; refine Hid.out ?_)
 refine (m_solve1 ((e1.trans e2).cell hb) HCM.out HMC.out).mono ?_
 rintro e w3 ⟨rfl, e3⟩
 go_wp2
 go_ret
 exact ⟨rfl, (e1.trans e2).trans e3⟩
theorem solve_end (m n : Nat) (Y : Nat → Nat → Rat) :
  ((∃ i, (rref m Y n).2.length ≤ i ∧ i < m ∧ (rref m Y n).1 i n ≠ 0) → (rref m Y (n + 1)).2.contains n = true) ∧
  ((∀ i, (rref m Y n).2.length ≤ i → i < m → (rref m Y n).1 i n = 0) → rref m Y (n + 1) = rref m Y n ∧ (rref m Y (n + 1)).2.contains n = false) := by
 have hl := (rref_ok m Y n).len
 constructor
 ·rintro ⟨i, h1, h2, h3⟩
  obtain ⟨s1, s2, s3, s4⟩ := seek_spec (rref m Y n).1 m n (m - (rref m Y n).2.length) (rref m Y n).2.length (Nat.le_refl _) hl
  have ha : seek (rref m Y n).1 m n (m - (rref m Y n).2.length) (rref m Y n).2.length < m := by
   rcases Nat.lt_or_ge (seek (rref m Y n).1 m n (m - (rref m Y n).2.length) (rref m Y n).2.length) m with h | h
   ·exact h
   ·exact absurd (s3 i h1 (by omega)) h3
  rw [rref_step ha rfl]
  simp
 ·intro h
  have e := rref_skip (X := Y) (seek_none hl h)
  refine ⟨e, ?_⟩
  rw [e]
  cases hc : (rref m Y n).2.contains n with
  | false => rfl
  | true =>
   rw [List.contains_iff_mem] at hc
   obtain ⟨s, hs, he⟩ := List.getElem_of_mem hc
   have := (rref_ok m Y n).low s hs
   rw [List.getElem?_eq_getElem hs] at this
   simp only [Option.getD_some] at this
   omega
end Go.Proofs.YtghpfnhmlpfgcaaGreat
namespace Go.Proofs.YtghpfnhmlpfgcaaGreat
open Go.RowKit
def RetSolM (N : Nat) (w : World) (n : Nat) (ok : Bool) (x : Nat → Rat) (e : Ending) (w' : World) : Prop :=
 Ext w w' ∧ ((ok = false ∧ e = .returned (.tuple #[.slice none 0 0, .int .i64 6])) ∨ (ok = true ∧ ∃ A c, e = .returned (.tuple #[.slice A n c, .int .i64 0]) ∧ LsV N w.heap.size w'.heap.size w' (.slice A n c) n x))
def Mn.own (N lo m n : Nat) (X : Nat → Nat → Rat) : Mn := ⟨fun v w => ∃ h cap β κ hi, v = .slice (some ⟨h, 0, none⟩) m cap ∧ cap ≤ maxLen ∧ OwnM N lo hi w h cap m n β κ X, fun e h => by
  obtain ⟨h, cap, β, κ, hi, h0, h1, h2⟩ := h
  exact ⟨h, cap, β, κ, hi, h0, h1, h2.ext e⟩⟩
theorem aug_ht {m n q : Nat} {X : Nat → Nat → Rat} {y : Nat → Rat} (hq : HtM m n q X) (hq' : HtL m q y) : HtM m (n + 1) q (aug n X y) := fun i hi c hc => by
 unfold aug; split
 ·exact hq i hi c (by assumption)
 ·exact hq' i hi
set_option maxRecDepth 100000 in
set_option maxHeartbeats 8000000 in
theorem m_solve {N lo hi lo' hi' : Nat} {w : World} {v v' : Value} {m n : Nat} {X : Nat → Nat → Rat} {y : Nat → Rat} (h : MtV N lo hi w v m n X) (h' : LsV N lo' hi' w v' m y) (hm0 : 0 < m) (hm : m ≤ 64) (hn0 : 0 < n) (hn : n ≤ 64)
  {q P : Nat} (hq : HtM m n q X) (hq' : HtL m q y) (hP : m ≤ P ∨ n ≤ P) (hK : 5 * (5 ^ P * q) ≤ 29000000000) :
  Calls Tryz.prog 95 #[v, v'] w (RetSolM N w n (!(rref m (aug n X y) (n + 1)).2.contains n) (sol n (rref m (aug n X y) (n + 1)).1 (rref m (aug n X y) (n + 1)).2)) := by
 have hI := h
 have hI' := h'
 have hN := h.le
 have hqq : q ≤ 5 ^ P * q := Nat.le_mul_of_pos_left _ (Nat.pow_pos (by omega))
 have HSX : Hid (∀ i, i < m → ∀ j, j < n → Sz (X i j)) := fun i hi j hj => (hq i hi j hj).sz (by omega)
 have HSY : Hid (∀ i, i < m → Sz (y i)) := fun i hi => (hq' i hi).sz (by omega)
 have HE : Hid (∀ w1 lo1 hi1 h1 cap1 β1 κ1 cc, OwnM N lo1 hi1 w1 h1 cap1 m (n + 1) β1 κ1 (aug n X y) → Calls Tryz.prog 142 #[.slice (some ⟨h1, 0, none⟩) m cc, .int .i64 (n : Int)] w1 (RetRed N lo1 hi1 w1 h1 cap1 m (n + 1) (rref m (aug n X y) n).1 (rref m (aug n X y) n).2)) :=
  fun w1 lo1 hi1 h1 cap1 β1 κ1 cc o => m_reduce o (by omega) (by omega) n rfl (by omega) (aug_ht hq hq') hP hK
 have hR := rref_ok m (aug n X y) n
 have hRh : HtM m (n + 1) (5 ^ P * q) (rref m (aug n X y) n).1 := rref_ht' (aug_ht hq hq') (by omega) hP
 have hEnd := solve_end m n (aug n X y)
 obtain ⟨Rf, hRf⟩ := hid_eq (RetSolM N w n (!(rref m (aug n X y) (n + 1)).2.contains n) (sol n (rref m (aug n X y) (n + 1)).1 (rref m (aug n X y) (n + 1)).2))
 rw [← hRf.out]
 obtain ⟨M, hM⟩ := hid_eq (rref m (aug n X y) n).1
 obtain ⟨p, hp⟩ := hid_eq (rref m (aug n X y) n).2
 have HBAD : Hid ((∃ i, p.length ≤ i ∧ i < m ∧ M i n ≠ 0) → Rf = RetSolM N w n false (fun _ => 0)) := fun h9 => by
  rw [hM.out, hp.out] at h9
  have h8 := hEnd.1 h9
  rw [hRf.out, h8]
  funext e w'
  refine propext ⟨fun ⟨a, b⟩ => ⟨a, ?_⟩, fun ⟨a, b⟩ => ⟨a, ?_⟩⟩
  ·rcases b with b | ⟨b, -⟩
   ·exact .inl b
   ·cases b
  ·rcases b with b | ⟨b, -⟩
   ·exact .inl b
   ·cases b
 have HGOOD : Hid ((∀ i, p.length ≤ i → i < m → M i n = 0) → Rf = RetSolM N w n true (sol n M p)) := fun h9 => by
  rw [hM.out, hp.out] at h9
  obtain ⟨h8, h7⟩ := hEnd.2 h9
  rw [hRf.out, h7, h8, hM.out, hp.out]; rfl
 rw [← hM.out, ← hp.out] at HE hR
 rw [← hM.out] at hRh
 have HR := Lib.hid hR
 have HRH : Hid (∀ i, i < m → Sz (M i n)) := fun i hi => (hRh i hi n (by omega)).sz (by omega)
 obtain ⟨np, hnp⟩ := hid_eq p.length
 have hnpm : np ≤ m := by rw [hnp.out]; exact hR.len
 rw [← hnp.out] at HBAD HGOOD
 obtain ⟨A, c, rfl, hmc, hcm⟩ := h.form
 obtain ⟨A0, c0, rfl, hmc0, hcm0⟩ := h'.form
 unfold maxLen at hcm hcm0
 obtain ⟨b, off, rfl, -, -, hx⟩ := h.addr hm0
 obtain ⟨A1, c1, pp0, hnc, hcm1, -⟩ := hx 0 hm0
 rw [Nat.add_zero] at pp0
 unfold maxLen at hcm1
 obtain ⟨Y, hY⟩ := hid_eq (aug n X y)
 rw [← hY.out] at HE
 clear h h' hx hR hRh hq hq' hP hK hqq hEnd
 go_enter Tryz.func95, Tryz.ntmps95
 go_wp2_with (go_at_call 138; refine Hid.out ?_)
 refine boxesC1 ?_
 intro W hE hsz B0
 obtain ⟨a0, -⟩ := cells1 B0
 refine (m_list2 a0 (hI.ext hE) (hI'.ext hE) hm0 hm hn0 hn HSX.out HSY.out).mono ?_
 rintro e w1 ⟨rfl, e1⟩
 replace hE := hE.trans e1
 replace B0 := e1.block B0
 have hl0 := blk_lt B0
 clear a0 e1 hsz
 obtain ⟨a0, -⟩ := cells1 B0
 have p0 := hE.cell pp0
 go_upto_region 5 with (fail)
 refine region_inv [Mn.eq (.slice (some ⟨b, off, none⟩) m c), Mn.eq (.slice A0 m c0), Mn.mt N m 1 (fun i _ => y i), Mn.own N w.heap.size m (n + 1) Y, Mn.own N w.heap.size m (n + 1) Y] [some 27, some 28, some 29, some 30, some 8] [] [true, true, true, true, true] 0 (by kernel_rfl) (by kernel_rfl) (by kernel_rfl) (by kernel_rfl) (by kernel_rfl) (by kernel_rfl) (by kernel_rfl) (by kernel_rfl) ?_ ?_
 ·intro i hi hl
  have hi' : i = 0 ∨ i = 1 ∨ i = 2 ∨ i = 3 ∨ i = 4 := by have h9 : i < 5 := hi; omega
  clear hi
  rcases hi' with rfl | rfl | rfl | rfl | rfl
  ·clear hl
   refine stp rfl ?_
   intro ac wi eI hold hpre K hK
   have o2 := hold 2 (by kernel_rfl)
   simp only [List.getElem?_toArray, List.getElem?_cons_succ, List.getElem?_cons_zero] at o2
   clear hold hpre
   have cc0 := eI.cell a0
   go_simp
   exact hK.out _ _ (Ext.refl _) rfl
  ·clear hl
   refine stp rfl ?_
   intro ac wi eI hold hpre K hK
   have o1 := hold 1 (by kernel_rfl)
   simp only [List.getElem?_toArray, List.getElem?_cons_succ, List.getElem?_cons_zero] at o1
   clear hold hpre
   go_simp
   exact hK.out _ _ (Ext.refl _) rfl
  ·clear hl
   refine stp rfl ?_
   intro ac wi eI hold hpre K hK
   obtain ⟨x28, s28, j28⟩ := hpre 1 (by kernel_rfl) 28 rfl
   obtain rfl : x28 = (.slice A0 m c0) := j28
   clear hold hpre
   go_simp
   refine (m_column (hI'.ext (hE.trans eI)) (by omega)).mono ?_
   intro e wj hh
   obtain ⟨Aj, cj, rfl, hj, ej⟩ := hh.mt
   go_wp2_with fail
   exact hK.out _ _ ej (MtR.wide hj (Nat.zero_le _) (Nat.le_refl _) (Nat.le_refl _))
  ·clear hl
   refine stp rfl ?_
   intro ac wi eI hold hpre K hK
   obtain ⟨x27, s27, j27⟩ := hpre 0 (by kernel_rfl) 27 rfl
   obtain rfl : x27 = (.slice (some ⟨b, off, none⟩) m c) := j27
   obtain ⟨x29, s29, j29⟩ := hpre 2 (by kernel_rfl) 29 rfl
   replace j29 : Mn.p (Mn.mt N m 1 (fun i _ => y i)) x29 wi := j29
   clear hold hpre
   go_simp
   refine (m_beside (hI.ext (hE.trans eI)) j29 hm0 (by omega) (by omega) (by omega)).mono ?_
   rintro e wj ⟨hb, capb, βb, κb, rfl, hcb, hob, ej⟩
   go_wp2_with fail
   have hob2 : OwnM N w.heap.size wj.heap.size wj hb capb m (n + 1) βb κb Y := by
    rw [hY.out]
    exact hob.wide (by have := hE.size; have := eI.size; omega) hN (Nat.le_refl _) (Nat.le_refl _)
   exact hK.out _ _ ej ⟨_, _, _, _, _, rfl, hcb, hob2⟩
  ·clear hl
   refine stp rfl ?_
   intro ac wi eI hold hpre K hK
   obtain ⟨x30, s30, j30⟩ := hpre 3 (by kernel_rfl) 30 rfl
   replace j30 : Mn.p (Mn.own N w.heap.size m (n + 1) Y) x30 wi := j30
   clear hold hpre
   go_simp
   exact hK.out _ _ (Ext.refl _) j30
 intro vals wz eZ hJ
 have J27 : Mn.p (Mn.eq (.slice (some ⟨b, off, none⟩) m c)) (vals 0) wz := hJ 0 (by decide) (by decide)
 have J28 : Mn.p (Mn.eq (.slice A0 m c0)) (vals 1) wz := hJ 1 (by decide) (by decide)
 have J29 : Mn.p (Mn.mt N m 1 (fun i _ => y i)) (vals 2) wz := hJ 2 (by decide) (by decide)
 have J30 : Mn.p (Mn.own N w.heap.size m (n + 1) Y) (vals 3) wz := hJ 3 (by decide) (by decide)
 have J8 : Mn.p (Mn.own N w.heap.size m (n + 1) Y) (vals 4) wz := hJ 4 (by decide) (by decide)
 clear hJ
 simp only [putAll, if_true, Bool.false_eq_true, if_false, Act.put, Nat.zero_add, Nat.reduceAdd, List.setIfInBounds_toArray, List.set_cons_zero, List.set_cons_succ]
 generalize vals 0 = z27 at J27 ⊢
 obtain rfl : z27 = (.slice (some ⟨b, off, none⟩) m c) := J27
 generalize vals 1 = z28 at J28 ⊢
 obtain rfl : z28 = (.slice A0 m c0) := J28
 generalize vals 2 = z29 at J29 ⊢
 generalize vals 3 = z30 at J30 ⊢
 generalize vals 4 = z8 at J8 ⊢
 refine stepL_done (by kernel_rfl) ?_ _
 obtain ⟨hb, capb, βb, κb, hib, rfl, hcb, ho⟩ := J8
 replace hE := hE.trans eZ
 clear J29 J30 eZ a0 p0
 have hcb' := hcb
 unfold maxLen at hcb'
 have hhw := ho.his
 go_wp2_with (go_at_call 142; refine Hid.out ?_)
 refine (HE.out _ _ _ _ _ _ _ _ ho).mono ?_
 rintro e w2 ⟨β, κ, A', c', rfl, ho2, hi2, hC2⟩
 rw [← hnp.out] at hi2 ⊢
 have hE2 := hC2.ext hE (Nat.le_refl _)
 have hs2 := hE2.size
 have hsz2 := hC2.size
 clear ho hC2 hE HE
 obtain ⟨_, _, e9, hnc', hcc'⟩ : ∃ A c, (Value.slice A' np c') = .slice A np c ∧ np ≤ c ∧ c ≤ maxLen := by
  obtain ⟨a, b, d, e, f⟩ := hi2.form
  rw [← hnp.out] at d e
  exact ⟨a, b, d, e, f⟩
 injection e9 with e9 _ e8
 subst e9 e8
 unfold maxLen at hcc'
 have hmcb := ho2.mle
 go_upto_region 7 with (fail)
 go_cut [37, 38, 39] (fun pv pl pz wx => ∃ of : Nat, (np < m → of = np) ∧ pv = .slice (some ⟨hb, of, none⟩) (m - np) (capb - np) ∧ pl = .int .i64 ((m - np : Nat) : Int) ∧ pz = .int .i64 0 ∧ w2 = wx)
 case first =>
  by_cases hqc : np = capb
  ·go_wp2
   go_meet
   have h0 : m - np = 0 := by omega
   have h00 : capb - np = 0 := by omega
   rw [h0, h00]
   exact ⟨_, fun h => by omega, rfl, rfl, rfl, rfl⟩
  ·go_wp2
   go_meet
   exact ⟨_, fun h => rfl, rfl, rfl, rfl, rfl⟩
 case rest =>
 obtain ⟨of, hof, rfl, rfl, rfl, rfl⟩ := hcut
 clear hnc' hcc'
 go_wp2
 go_loopw [39] (fun i wr => ∃ k : Nat, k ≤ m - np ∧ i = .int .i64 k ∧ Ext w2 wr ∧ Hid (∀ i, np ≤ i → i < np + k → M i n = 0)) (fun i _ => (m - np) - (intOf i).toNat)
 case atStart => exact ⟨0, Nat.zero_le _, rfl, Ext.refl _, fun i h1 h2 => by omega⟩
 case round =>
  obtain ⟨k, hk, rfl, hEr, HZ⟩ := hrel
  have hsr := hEr.size
  by_cases hlt : k < m - np
  ·have hk2 : np + k < m := by omega
   obtain rfl : np = of := (hof (by omega)).symm
   have hor := ho2.ext hEr
   have r0 := hor.hcell hk2
   obtain ⟨n1, A3, k3, c3, A4, k4, c4, t0, t1, t2, t3, -, -, -, -, hb3, g3, g4⟩ := (hor.row (np + k) hk2).at_ (i := n) (by omega)
   have hnn : (n : Int) < (n : Int) + 1 := by omega
   obtain ⟨s1, hs1⟩ := hid_eq (M (np + k) n).num.sign
   have hκ := hor.cap (np + k) hk2
   unfold maxLen at hκ
   clear hor
   go_wp2_with (go_at_call 126; refine Hid.out ?_)
   refine (f_sign (RatV.mk hb3 g3 g4) (HRH.out _ hk2)).mono ?_
   rintro e w5 ⟨rfl, e5⟩
   rw [← hs1.out]
   replace hEr := hEr.trans e5
   clear t0 t1 t2 t3 e5 g3 g4 hb3 hnn r0
   by_cases hz : s1 = 0
   ·have HZN : Hid (M (np + k) n = 0) := by
     have h9 := hs1.out
     rw [hz] at h9
     have h8 : (M (np + k) n).num = 0 := Int.sign_eq_zero_iff_zero.1 h9.symm
     exact Rat.num_eq_zero.1 h8
    clear hs1
    subst hz
    go_wp2
    go_roundw
    case rel => exact ⟨k + 1, by omega, by go_num, hEr, fun i h1 h2 => by
      by_cases h3 : i = np + k
      ·rw [h3]; exact HZN.out
      ·exact HZ.out i h1 (by omega)⟩
    case measure => simp [intOf]; omega
   ·have HB : Hid (Rf = RetSolM N w n false (fun _ => 0)) := HBAD.out ⟨np + k, by omega, hk2, fun h9 => hz (by rw [hs1.out, h9]; rfl)⟩
    have hz1 : (s1 != 0) = true := by simpa using hz
    clear hs1 hz
    go_wp2
    rw [HB.out]
    exact ⟨hE2.trans hEr, .inl ⟨rfl, rfl⟩⟩
  ·have HG : Hid (Rf = RetSolM N w n true (sol n M p)) := HGOOD.out (fun i h1 h2 => HZ.out i h1 (by omega))
   clear HGOOD HBAD hRf HRH HZ
   replace ho2 := ho2.ext hEr
   replace hi2 := hi2.ext hEr
   have hE3 := hE2.trans hEr
   have hs3 := hE3.size
   go_wp2_with (at_make; refine Hid.out ?_)
   refine wpList_make_rats rfl _ _ rfl .i64 .i64 _ _ n rfl rfl rfl rfl (by omega) ?_
   intro w3 cs2 B2 hcs2 e2
   have hR : RowB N w3 wr.heap.size n 0 (fun _ => 0) := ⟨by omega, Nat.zero_le _, ⟨cs2, B2, hcs2⟩, fun j hj => by omega⟩
   have hs4 : wr.heap.size < w3.heap.size := blk_lt B2
   obtain ⟨gx, hgx⟩ : ∃ gx, gx = wr.heap.size := ⟨_, rfl⟩
   rw [← hgx] at hR hs4 ⊢
   have hgx1 : w.heap.size ≤ gx := by omega
   have hgx2 : w2.heap.size ≤ gx := by omega
   have hgx3 : hib ≤ gx := by have := ho2.his; omega
   replace hE3 := hE3.trans e2
   replace ho2 := ho2.ext e2
   replace hi2 := hi2.ext e2
   clear B2 hcs2 cs2 hgx e2 hEr hE2
   go_wp2
   go_loopw [54, 13] (fun i _ ws => ∃ j : Nat, j ≤ n ∧ i = .int .i64 j ∧ Ext w ws ∧ Chg gx (gx + 1) w3 ws ∧ RowB N ws gx n j (fun _ => 0)) (fun i _ _ => n - (intOf i).toNat)
   case atStart => exact ⟨0, Nat.zero_le _, rfl, hE3, Chg.refl _ _ _, hR⟩
   case round =>
    clear hE3 hR
    obtain ⟨j, hj, rfl, hE3, hCx, hR⟩ := hrel
    have hsx := hCx.size
    by_cases hltj : j < n
    ·go_wp2_with (go_at_call 108; refine Hid.out ?_)
     refine (f_whole (N := N) (by have := hE3.size; omega) 0 (by omega) (by omega)).mono ?_
     intro e w5 hh
     obtain ⟨b9, A9, k9, c9, A10, k10, c10, rfl, hb9, g9, g10, e5⟩ := hh.form
     have hR5 := hR.ext e5
     obtain ⟨x0, v0⟩ := hR5.there (o := j * 4) (by omega)
     obtain ⟨x1, v1⟩ := hR5.there (o := j * 4 + 1) (by omega)
     obtain ⟨x2, v2⟩ := hR5.there (o := j * 4 + 2) (by omega)
     obtain ⟨x3, v3⟩ := hR5.there (o := j * 4 + 3) (by omega)
     have f0 := hR5.frozen (j * 4)
     have f1 := hR5.frozen (j * 4 + 1)
     have f2 := hR5.frozen (j * 4 + 2)
     have f3 := hR5.frozen (j * 4 + 3)
     go_upto_region 18 with (fail)
     obtain ⟨w6, E6, C6, hs6, hr6⟩ := hR5.set (i := j) (q := 0) hltj (Nat.le_refl _) hb9 g9 g10
     rw [E6]
     have hE6 := C6.ext (hE3.trans e5) hgx1
     have hC6 := (hCx.trans (e5.chg _ _)).trans C6
     have hr7 := (hr6.less (n' := j + 1) (by omega)).congr (y := fun _ => 0) (fun c hc => by unfold upd; split <;> rfl)
     clear E6 C6 hs6 hr6 hR hR5 v0 v1 v2 v3 f0 f1 f2 f3 hE3 hCx e5 hh
     go_wp2
     go_roundw
     case rel => exact ⟨j + 1, by omega, by go_num, hE6, hC6, hr7⟩
     case measure => simp [intOf]; omega
    ·obtain rfl : n = j := by omega
     have hRow := hR.congr (y := solTo n M p 0) (fun c _ => by unfold solTo; rfl)
     have HNP : Hid (∀ s k, s < k → k < p.length → p[s]?.getD 0 < p[k]?.getD 0) := HR.out.inc
     have HNN : Hid (∀ s, s < p.length → p[s]?.getD 0 < n) := HR.out.low
     clear hR
     go_wp2
     go_loopw [64, 14, 15] (fun i _ _ ws => ∃ k : Nat, k ≤ np ∧ i = .int .i64 k ∧ Ext w ws ∧ Chg gx (gx + 1) w3 ws ∧ RowB N ws gx n n (solTo n M p k)) (fun i _ _ _ => np - (intOf i).toNat)
     case atStart => exact ⟨0, Nat.zero_le _, rfl, hE3, hCx, hRow⟩
     case round =>
      clear hE3 hCx hRow
      obtain ⟨k, hk, rfl, hE3, hCx, hRow⟩ := hrel
      have hsx := hCx.size
      by_cases hltk : k < np
      ·have hkp : k < p.length := by rw [← hnp.out]; exact hltk
       have hic := hi2.chg hCx (.inl hgx2)
       have hoc := ho2.chg hCx (by omega) (.inl hgx3)
       obtain ⟨bp, op, z, rfl, y0, HZ⟩ := hic.at_ hkp
       have hzn : z < n := by rw [HZ.out]; exact HNN.out k hkp
       have hkm : k < m := by omega
       have hnn : (n : Int) < (n : Int) + 1 := by omega
       have r0 := hoc.hcell (i := k) (by omega)
       obtain ⟨n1, A3, k3, c3, A4, k4, c4, t0, t1, t2, t3, t4, t5, t6, t7, hb3, g3, g4⟩ := (hoc.row k (by omega)).at_ (i := n) (by omega)
       obtain ⟨zb, zA, zn, zc, zA2, zn2, zc2, u0, u1, u2, u3, u4, u5, u6, u7, -⟩ := hRow.at_ hzn
       have HS : Hid (∀ c, solTo n M p (k + 1) c = upd (solTo n M p k) z (M k n) c) := fun c => by
        rw [HZ.out]; exact solTo_succ (fun s hs => by have := HNP.out s k hs hkp; omega) c
       have hκ := hoc.cap k hkm
       unfold maxLen at hκ
       clear hkp hic hoc
       go_upto_region 23 with (fail)
       obtain ⟨w7, E7, C7, hs7, hr7⟩ := hRow.set (i := z) (q := M k n) (by have := hRow.2.1; omega) (by omega) hb3 g3 g4
       rw [E7]
       have hE7 := C7.ext hE3 hgx1
       have hC7 := hCx.trans C7
       have hr8 := (hr7.less (n' := n) (by omega)).congr (y := solTo n M p (k + 1)) (fun c _ => (HS.out c).symm)
       clear E7 C7 hs7 hr7 hRow t0 t1 t2 t3 t4 t5 t6 t7 u0 u1 u2 u3 u4 u5 u6 u7 r0 y0 hE3 hCx
       go_wp2
       go_roundw
       case rel => exact ⟨k + 1, by omega, by go_num, hE7, hC7, hr8⟩
       case measure => simp [intOf]; omega
      ·obtain rfl : np = k := by omega
       go_wp2
       rw [HG.out]
       refine ⟨hE3, .inr ⟨rfl, _, _, rfl, ?_⟩⟩
       have hl := hRow.lsv (c := n) (lo := w.heap.size) (hi := _) (Nat.le_refl _) (by unfold maxLen; omega) hgx1 hRow.lt (Nat.le_refl _)
       exact hl.congr (fun c _ => by unfold solTo sol; rw [← hnp.out])
end Go.Proofs.YtghpfnhmlpfgcaaGreat
namespace Go.Proofs.YtghpfnhmlpfgcaaGreat
theorem div_nn {a b : Rat} (ha : 0 ≤ a) (hb : 0 < b) : 0 ≤ a / b := by
 rw [Rat.div_def]
 exact Rat.mul_nonneg ha (Rat.le_of_lt (Rat.inv_pos.2 hb))
def cof (A X : Nat → Nat → Rat) (p : List Nat) (c : Nat → Rat) : Rat := sum p.length (fun s => c (p[s]?.getD 0) * sum p.length (fun t => X s t * c (p[t]?.getD 0)))
def Comb1 (m n : Nat) (A : Nat → Nat → Rat) (u c : Nat → Rat) : Prop := ∀ a, a < n → sum m (fun i => A i a * u i) = c a
theorem cof_has {m n : Nat} {A M X : Nat → Nat → Rat} {P : Nat → Rat} {p : List Nat} (h : Model m n A M X P p) {c u : Nat → Rat} (hu : Comb1 m n A u c) :
  ∃ v, Comb1 m n A v c ∧ sum m (fun i => v i * v i / P i) = cof A X p c ∧ cof A X p c ≤ sum m (fun i => u i * u i / P i) := by
 have hlow : ∀ s, s < p.length → p[s]?.getD 0 < n := h.rr.low
 let g : Nat → Rat := fun s => sum p.length (fun t => X s t * c (p[t]?.getD 0))
 have hg : ∀ s, s < p.length → sum m (fun i => bas A p i s * (P i * av p.length (bas A p) g i)) = c (p[s]?.getD 0) := by
  intro s hs
  rw [← nm_av m p.length (bas A p) P g s]
  have e : sum p.length (fun b => nm m (bas A p) P s b * g b) = sum p.length (fun t => mm p.length (nm m (bas A p) P) X s t * c (p[t]?.getD 0)) := by
   show sum p.length (fun b => nm m (bas A p) P s b * sum p.length (fun t => X b t * c (p[t]?.getD 0))) = _
   rw [show sum p.length (fun b => nm m (bas A p) P s b * sum p.length (fun t => X b t * c (p[t]?.getD 0))) = sum p.length (fun b => sum p.length (fun t => nm m (bas A p) P s b * (X b t * c (p[t]?.getD 0)))) from sum_congr fun b _ => (sum_mul _ _ _).symm, sum_comm]
   refine sum_congr fun t _ => ?_
   unfold mm
   rw [← sum_mul_right]
   exact sum_congr fun b _ => by grind
  rw [e, show sum p.length (fun t => mm p.length (nm m (bas A p) P) X s t * c (p[t]?.getD 0)) = sum p.length (fun t => dlt s t * c (p[t]?.getD 0)) from sum_congr fun t ht => by rw [h.kx s hs t ht]]
  exact sum_dlt hs _
 have two : ∀ u', Comb1 m n A u' c → sum m (fun i => av p.length (bas A p) g i * u' i) = cof A X p c := by
  intro u' hu'
  rw [← dual_av]
  show sum p.length (fun s => g s * sum m (fun k => A k (p[s]?.getD 0) * u' k)) = sum p.length (fun s => c (p[s]?.getD 0) * g s)
  exact sum_congr fun s hs => by rw [hu' _ (hlow s hs)]; grind
 have hv : Comb1 m n A (fun i => P i * av p.length (bas A p) g i) c := by
  intro a ha
  rw [← hu a ha]
  have q : ∀ z : Nat → Rat, sum m (fun i => A i a * z i) = sum p.length (fun s => M s a * sum m (fun i => bas A p i s * z i)) := by
   intro z
   rw [show sum m (fun i => A i a * z i) = sum m (fun i => sum p.length (fun s => M s a * (bas A p i s * z i))) from sum_congr fun i hi => by
    rw [cols_span h.rr hi ha, ← sum_mul_right]; exact sum_congr fun s _ => by show A i _ * M s a * z i = M s a * (A i _ * z i); grind, sum_comm]
   exact sum_congr fun s _ => by rw [sum_mul]
  rw [q, q]
  exact sum_congr fun s hs => by
   rw [hg s hs]
   show M s a * c _ = M s a * sum m (fun i => A i (p[s]?.getD 0) * u i)
   rw [hu _ (hlow s hs)]
 refine ⟨_, hv, ?_, ?_⟩
 ·rw [← two _ hv]
  exact sum_congr fun i hi => by
   have := h.pos i hi
   have h0 : P i ≠ 0 := fun e => absurd this (by rw [e]; decide)
   grind
 ·have e1 := two _ hu
  have e2 := two _ hv
  have e3 : 0 ≤ sum m (fun i => (u i - P i * av p.length (bas A p) g i) * (u i - P i * av p.length (bas A p) g i) / P i) := sum_nonneg fun i hi => by
   have h1 := sq_nonneg (u i - P i * av p.length (bas A p) g i)
   have h2 := h.pos i hi
   exact div_nn h1 h2
  have e4 : sum m (fun i => (u i - P i * av p.length (bas A p) g i) * (u i - P i * av p.length (bas A p) g i) / P i) = sum m (fun i => u i * u i / P i) - 2 * sum m (fun i => av p.length (bas A p) g i * u i) + sum m (fun i => av p.length (bas A p) g i * (P i * av p.length (bas A p) g i)) := by
   rw [← sum_mul, ← sum_sub, ← sum_add]
   refine sum_congr fun i hi => ?_
   have := h.pos i hi
   have h0 : P i ≠ 0 := fun e => absurd this (by rw [e]; decide)
   grind
  rw [e1, e2] at e4
  grind
end Go.Proofs.YtghpfnhmlpfgcaaGreat
namespace Go.Proofs.YtghpfnhmlpfgcaaGreat
open Go.RowKit
set_option maxHeartbeats 2000000 in
theorem sl_fncanonx {N lo hi : Nat} {w : World} {v : Value} {n : Nat} {R : Nat → Raw} (h : LsR N lo hi w v n R)  (g : Nat → Bool)
  (hf : ∀ i, i < n → ∀ w' u, Ext w w' → RawV N w' u (R i) → Calls Tryz.prog 92 #[u] w' (RetV w' (.bool (g i)))) :
  Calls Tryz.prog 103 #[v, .func (.func 92) #[] #[]] w (RetIdx w (anyB n g)) := by
 obtain ⟨r, hr⟩ := hid_eq (anyB n g)
 rw [← hr.out]
 obtain ⟨A, c, rfl, hnc, hcm⟩ := h.form
 unfold maxLen at hcm
 have hI := h
 have HF := Lib.hid hf
 clear h hf
 go_enter Tryz.func103, Tryz.ntmps103
 go_wp2
 go_loopw [8] (fun i wr => ∃ k : Nat, k ≤ n ∧ i = .int .i64 k ∧ Hid (∀ j, j < k → g j = false) ∧ Ext w wr) (fun i _ => n - (intOf i).toNat)
 case atStart => exact ⟨0, Nat.zero_le _, rfl, fun j hj => absurd hj (by omega), Ext.refl w⟩
 case round =>
  obtain ⟨k, hk, rfl, HA, hE⟩ := hrel
  by_cases hlt : k < n
  ·(obtain ⟨b, off, rfl, -, -, hx⟩ := (hI.ext hE).addr (by omega)); (obtain ⟨A1, n1, c1, A2, n2, c2, p0, p1, p2, p3, hv⟩ := (hx k hlt).val)
   clear hx
   go_wp2_with (go_at_call 92; refine Hid.out ?_)
   refine (HF.out k hlt _ _ hE hv).mono ?_
   rintro e w1 ⟨rfl, e1⟩
   replace hE := hE.trans e1
   obtain ⟨o, ho⟩ := hid_eq (g k)
   rw [← ho.out]
   cases o with
   | false =>
    go_wp2
    go_roundw
    case rel => exact ⟨k + 1, by omega, by go_num, all_succ (p := fun j => g j = false) HA.out ho.out.symm, hE⟩
    case measure => simp [intOf]; omega
   | true =>
    have HT : Hid (r = true) := by rw [Hid, hr.out]; exact anyB_true hlt ho.out.symm
    go_wp2
    go_ret
    exact ⟨_, rfl, by rw [Hid, HT.out]; symm; simp, hE⟩
  ·have HT : Hid (r = false) := by rw [Hid, hr.out]; exact anyB_false.2 (fun j hj => HA.out j (by omega))
   go_wp2
   go_ret
   exact ⟨_, rfl, by rw [Hid, HT.out]; rfl, hE⟩
set_option maxHeartbeats 2000000 in
theorem sl_fncanon {N lo hi : Nat} {w : World} {v : Value} {n : Nat} {R : Nat → Raw} (h : LsR N lo hi w v n R)  (g : Nat → Bool)
  (hf : ∀ i, i < n → ∀ w' u, Ext w w' → RawV N w' u (R i) → Calls Tryz.prog 92 #[u] w' (RetV w' (.bool (g i)))) :
  Calls Tryz.prog 54 #[v, .func (.func 92) #[] #[]] w (RetV w (.bool (anyB n g))) := by
 obtain ⟨r, hr⟩ := hid_eq (anyB n g)
 rw [← hr.out]
 obtain ⟨A, c, rfl, hnc, hcm⟩ := h.form
 have hI := h
 have HF := Lib.hid hf
 clear h hf
 go_enter Tryz.func54, Tryz.ntmps54
 go_wp2_with (go_at_call 103; refine Hid.out ?_)
 refine (sl_fncanonx hI  g HF.out).mono ?_
 rintro e w1 ⟨z, rfl, hz, e1⟩
 rw [← hr.out] at hz
 go_wp2
 go_ret
 exact ⟨ret_bool hz.out.symm, e1⟩
set_option maxHeartbeats 1000000 in
theorem rl_fncanon1 {N : Nat} {w : World} {v : Value} {R : Raw} (h : RawV N w v R) (hs : RawSz R) :
  Calls Tryz.prog 92 #[v] w (RetV w (.bool (!okR R))) := by
 obtain ⟨A1, n1, c1, A2, n2, c2, rfl, g1, g2⟩ := h.parts
 obtain ⟨r, hr⟩ := hid_eq (okR R)
 rw [← hr.out]
 have hI := h
 clear g1 g2 h
 go_enter Tryz.func92, Tryz.ntmps92
 go_wp2_with (go_at_call 93; refine Hid.out ?_)
 refine boxesC1 ?_
 intro W hE hsz B0
 refine (f_valid (hI.ext hE) hs.1 hs.2).mono ?_
 rintro e w1 ⟨rfl, e1⟩
 rw [← hr.out]
 go_wp2
 go_ret
 exact ⟨rfl, hE.trans e1⟩
def Mn.nor (N r : Nat) (K : Nat → Nat → Rat) (x : Nat → Rat) : Mn := ⟨fun v w => ∃ v1 v2, v = .tuple #[v1, v2, .int .i64 0] ∧ MtV N 0 w.heap.size w v1 r r K ∧ LsV N 0 w.heap.size w v2 r x, fun e h => by
  obtain ⟨v1, v2, h0, h1, h2⟩ := h
  exact ⟨v1, v2, h0, MtR.wide (h1.ext e) (Nat.le_refl _) e.size (Nat.le_refl _), LsR.wide (h2.ext e) (Nat.le_refl _) e.size (Nat.le_refl _)⟩⟩
def estB (m n : Nat) (X : Nat → Nat → Rat) (c : Nat → Rat) : Bool := !(rref n (aug m (fun i j => X j i) c) (m + 1)).2.contains m
def RetFn (N : Nat) (w : World) (ok : Bool) (q : Rat) (e : Ending) (w' : World) : Prop :=
 Ext w w' ∧ ((ok = false ∧ e = .returned (.tuple #[nilRat, nilRat, .int .i64 14])) ∨ (ok = true ∧ ∃ v1 v2 q1, e = .returned (.tuple #[v1, v2, .int .i64 0]) ∧ RatV N w' v1 q1 ∧ RatV N w' v2 q ∧ Ht 30000000 q))
theorem inv_htr {m n k P k2 k3 : Nat} {X : Nat → Nat → Rat} {p : Nat → Rat} (hB : Bnd m n k P k2 k3) (hkx : HtM m n k X) (hkp : HtL m k p) {pv : List Nat} (hlow : ∀ s, s < pv.length → pv[s]?.getD 0 < n) (hl : pv.length ≤ n) : HtM pv.length pv.length k2 (invM pv.length (nmat (bas X pv) p m)) := by
 have hXB : HtM m pv.length k (bas X pv) := fun i hi s hs => hkx i hi _ (hlow s hs)
 have hKB : HtM pv.length pv.length (m * (3 * k + 1) + 1) (nmat (bas X pv) p m) := nmat_ht hXB hkp (Nat.le_refl _) (Nat.le_refl _)
 have hPW : 5 ^ pv.length ≤ 5 ^ P := Nat.pow_le_pow_right (by omega) (by have := hB.hP; omega)
 have hIB : 5 ^ pv.length * (m * (3 * k + 1) + 1 + 1) ≤ k2 := by rw [hB.hk2]; exact Nat.mul_le_mul hPW (Nat.le_refl _)
 exact fun i hi j hj => ((rref_ht' (htM_augI hKB) (p := pv.length) (by omega) (.inl (Nat.le_refl _))) i hi (pv.length + j) (by omega)).mono hIB
set_option maxRecDepth 100000 in
set_option maxHeartbeats 8000000 in
theorem rl_Function {N lo hi lo' hi' : Nat} {w : World} {v1 v2 v3 v4 : Value} {m n : Nat} {X : Nat → Nat → Rat} {y p c : Nat → Rat} (h1 : MtV N lo hi w v1 m n X) (h2 : LsV N lo hi w v2 m y) (h3 : LsV N lo hi w v3 m p) (h4 : LsV N lo' hi' w v4 n c) (hm0 : 0 < m) (hm : m ≤ 6) (hn0 : 0 < n) (hn : n ≤ 4) (hpos : ∀ i, i < m → 0 < p i)
  (hkx : HtM m n 17 X) (hky : HtL m 17 y) (hkp : HtL m 17 p) (hkc : HtL n 17 c) :
  Calls Tryz.prog 49 #[.agg #[v1, v2, v3], v4] w (RetFn N w (estB m n X c) (cof X (invM (rref m X n).2.length (nmat (bas X (rref m X n).2) p m)) (rref m X n).2 c)) := by
 obtain ⟨k2, k3, hB, hk3⟩ := few_bnd hm hn
 have HX := Lib.hid hkx
 have HY := Lib.hid hky
 have HP := Lib.hid hkp
 have HCH := Lib.hid hkc
 have HB := Lib.hid hB
 have HPOS := Lib.hid hpos
 have HXT : Hid (HtM n m 17 (fun i j => X j i)) := fun i hi j hj => hkx j hj i hi
 have HSX : Hid (∀ i, i < m → ∀ j, j < n → Sz (X i j)) := fun i hi j hj => (hkx i hi j hj).sz (by omega)
 have HCR : Hid (∀ i, i < n → RawSz (raw (c i))) := fun i hi => ((hkc i hi).sz (by omega)).raw
 have HCV : Hid (anyB n (fun i => !okR (raw (c i))) = false) := anyB_false.2 (fun i _ => by rw [okR_raw]; rfl)
 have hrn : (rref m X n).2.length ≤ n := (rref_len m X n).2
 have HLOW : Hid (∀ s, s < (rref m X n).2.length → (rref m X n).2[s]?.getD 0 < n) := fun s hs => (rref_ok m X n).low s hs
 have HO : Hid (∀ w1 v1 v2 v3 lo hi, MtV N lo hi w1 v1 m n X → LsV N lo hi w1 v2 m y → LsV N lo hi w1 v3 m p → Calls Tryz.prog 57 #[.agg #[v1, v2, v3]] w1 (RetOpenB N w1 m n X y p (rref m X n).2 (fitsOf m n X p) (invM (rref m X n).2.length (nmat (bas X (rref m X n).2) p m)))) :=
  fun w1 v1 v2 v3 lo hi g1 g2 g3 => rl_openB g1 g2 g3 hm0 (by omega) hn0 (by omega) HPOS.out HB.out.hP HX.out HY.out HP.out HB.out.hK0 HB.out.hK1 HB.out.hk2 HB.out.hK2 HB.out.hk3 HB.out.hK4
 obtain ⟨pv, hpv⟩ := hid_eq (rref m X n).2
 rw [← hpv.out] at HO HLOW hrn ⊢
 have HZH : Hid (HtM pv.length pv.length k2 (invM pv.length (nmat (bas X pv) p m))) := inv_htr hB hkx hkp HLOW.out hrn
 have HXB : Hid (HtM m pv.length 17 (bas X pv)) := fun i hi s hs => hkx i hi _ (HLOW.out s hs)
 have hkk : k2 ≤ 250000 := by have := hB.hk3; omega
 obtain ⟨Z, hZ⟩ := hid_eq (invM pv.length (nmat (bas X pv) p m))
 rw [← hZ.out] at HZH
 rw [← hZ.out] at HO ⊢
 obtain ⟨ok, hok⟩ := hid_eq (estB m n X c)
 obtain ⟨Q, hQ⟩ := hid_eq (cof X Z pv c)
 rw [← hok.out, ← hQ.out]
 obtain ⟨Rf, hRf⟩ := hid_eq (RetFn N w ok Q)
 rw [← hRf.out]
 have hN := h1.le
 obtain ⟨A1, c1, rfl, hmc, hcm⟩ := h1.form
 obtain ⟨A2, c2, rfl, hmc2, hcm2⟩ := h2.form
 obtain ⟨A3, c3, rfl, hmc3, hcm3⟩ := h3.form
 obtain ⟨A4, c4, rfl, hmc4, hcm4⟩ := h4.form
 have hI1 := h1
 have hI2 := h2
 have hI3 := h3
 have hI4 := h4
 unfold maxLen at hcm hcm4
 obtain ⟨b, off, rfl, -, -, hx⟩ := h1.addr hm0
 obtain ⟨Ab, cb, pp0, -, hcb, -⟩ := hx 0 hm0
 rw [Nat.add_zero] at pp0
 unfold maxLen at hcb
 clear hx h1 h2 h3 h4 hkx hky hkp hkc hB hpos
 go_enter Tryz.func49, Tryz.ntmps49
 go_upto_region 1 with (fail)
 refine boxes3 ?_
 intro W hE hsz B0 B1 B2
 obtain ⟨a0, a1, a2, -⟩ := cells3 B0
 go_wp2_with (go_at_call 57; refine Hid.out ?_)
 refine (HO.out W _ _ _ _ _ (hI1.ext hE) (hI2.ext hE) (hI3.ext hE)).mono ?_
 rintro e w1 ⟨gm, rfl, hM, e1, hMB⟩
 have hE1 := hE.trans e1
 replace B0 := e1.block B0
 replace B1 := e1.block B1
 replace B2 := e1.block B2
 have hsw : w.heap.size + 3 ≤ w1.heap.size := Nat.le_trans hsz e1.size
 obtain ⟨A5, c5, A6, c6, A7, c7, A8, c8, s5, s6, A9, c9, BM, -, -, -, hi8, -⟩ := hM
 obtain ⟨r, hr⟩ := hid_eq pv.length
 rw [← hr.out] at BM hMB hi8 hrn
 have hc8 : c8 ≤ 9223372036854775807 := by
  obtain ⟨_, _, hv, h9, h8⟩ := hi8.form
  injection hv with _ _ e9
  subst e9; unfold maxLen at h8; omega
 have hr8 : r ≤ c8 := by
  obtain ⟨_, _, hv, h9, h8⟩ := hi8.form
  injection hv with _ _ e9
  subst e9; rw [hr.out]; exact h9
 clear a0 a1 a2 e1 hE hsz HO
 obtain ⟨a0, a1, a2, -⟩ := cells3 B0
 go_wp2_with (go_at_call 54; refine Hid.out ?_)
 refine (sl_fncanon (hI4.ext hE1) (fun i => !okR (raw (c i))) (fun i hi w' u e hu => rl_fncanon1 hu (HCR.out i hi))).mono ?_
 rintro e w2 ⟨rfl, e2⟩
 rw [HCV.out]
 have hE2 := hE1.trans e2
 replace B0 := e2.block B0
 clear a0 a1 a2
 obtain ⟨a0, a1, a2, -⟩ := cells3 B0
 have p0 := hE2.cell pp0
 have hnn : ((n : Int) != (n : Int)) = false := by simp
 go_wp2_with (go_at_call 94; refine Hid.out ?_)
 refine (m_transpose (hI1.ext hE2) hm0 (by omega) hn0 (by omega) HSX.out).mono ?_
 rintro e w3 ⟨hT, capT, βT, κT, rfl, hcT, hoT, e3⟩
 have hMT := hoT.mtv hoT.mle hcT
 clear p0 hnn hoT a0 a1 a2
 go_wp2_with (go_at_call 95; refine Hid.out ?_)
 refine (m_solve (P := 4) hMT (hI4.ext (hE2.trans e3)) hn0 (by omega) hm0 (by omega) HXT.out HCH.out (.inl hn) (by decide)).mono ?_
 rintro e w4 ⟨e4, hh⟩
 have e14 := (e2.trans e3).trans e4
 have hE4 := hE1.trans e14
 replace B0 := e4.block (e3.block B0)
 replace B1 := e14.block B1
 replace B2 := e14.block B2
 have BM4 := e14.block BM
 have hi4 := hi8.ext e14
 have hsw4 : w.heap.size + 3 ≤ w4.heap.size := Nat.le_trans hsw e14.size
 obtain ⟨a0, a1, a2, -⟩ := cells3 B0
 obtain ⟨d0, d1, d2, d3, d4, d5, d6, d7⟩ := cells4 B1
 obtain ⟨u0, u1, u2, u3, u4, u5, u6, u7⟩ := cells4 B2
 clear hMT e2 e3 e4
 have HOK : Hid ((!(rref n (aug m (fun i j => X j i) c) (m + 1)).2.contains m) = ok) := hok.out.symm
 rw [HOK.out] at hh
 rcases hh with ⟨hko, rfl⟩ | ⟨hko, A10, c10, rfl, -⟩
 ·have HKO := Lib.hid hko
  clear hko
  go_wp2
  obtain ⟨w12, E12, F1, U1⟩ := ex4 B1 (.bool false) (.slice none 0 0) (.bool false) (.slice none 0 0)
  rw [E12]
  obtain ⟨w13, E13, F2, U2⟩ := ex4 (U1.blk B2 (by omega)) (.bool false) (.slice none 0 0) (.bool false) (.slice none 0 0)
  rw [E13]
  obtain ⟨z0, z1, z2, z3, -⟩ := cells4 F2
  obtain ⟨y0, y1, y2, y3, -⟩ := cells4 (U2.blk F1 (by omega))
  refine bodyPost_ret (v := .tuple #[nilRat, nilRat, .int .i64 14]) ?_ rfl ?_
  ·simp [results, Tryz.results49, z0, z1, z2, z3, y0, y1, y2, y3, go_sem, nilRat]
  ·rw [hRf.out]
   exact ⟨U2.ext (U1.ext hE4 (by omega)) (by omega), .inl ⟨HKO.out, rfl⟩⟩
 ·have HKO := Lib.hid hko
  clear hko
  have HQ : Hid (Q = sum r (fun s => c (pv[s]?.getD 0) * sum r (fun t => Z s t * c (pv[t]?.getD 0)))) := by rw [Hid, hQ.out, hr.out]; rfl
  have HLO : Hid (∀ s, s < r → pv[s]?.getD 0 < n) := by rw [hr.out]; exact HLOW.out
  have HZR : Hid (HtM r r k2 Z) := by rw [hr.out]; exact HZH.out
  have HXR : Hid (HtM m r 17 (bas X pv)) := by rw [hr.out]; exact HXB.out
  have hN4 : N ≤ w4.heap.size := by have := hE4.size; omega
  obtain ⟨r0, r1, r2, r3, r4, r5, r6⟩ := cells7 BM4
  by_cases hr0 : r = 0
  ·have HQ0 : Hid (Q = ((0 : Int) : Rat)) := by rw [Hid, HQ.out, hr0]; rfl
   clear HQ HLO HZR HXR hMB hi4 hi8
   subst hr0
   go_wp2_with (go_at_call 59; refine Hid.out ?_)
   refine (rl_whole (N := N) hN4 0 (by omega) (by omega)).mono ?_
   intro e w5 hh
   obtain ⟨b5, A15, k15, c15, A16, k16, c16, rfl, hb5, g5, g6, e5⟩ := hh.form
   have hN5 : N ≤ w5.heap.size := by have := e5.size; omega
   go_wp2_with (go_at_call 59; refine Hid.out ?_)
   refine (rl_whole (N := N) hN5 0 (by omega) (by omega)).mono ?_
   intro e w6 hh
   obtain ⟨b6, A17, k17, c17, A18, k18, c18, rfl, hb6, g7, g8, e6⟩ := hh.form
   have e56 := e5.trans e6
   replace B1 := e56.block B1
   replace B2 := e56.block B2
   have hE6 := hE4.trans e56
   clear d0 d1 d2 d3 d4 d5 d6 d7 u0 u1 u2 u3 u4 u5 u6 u7
   obtain ⟨d0, d1, d2, d3, d4, d5, d6, d7⟩ := cells4 B1
   obtain ⟨u0, u1, u2, u3, u4, u5, u6, u7⟩ := cells4 B2
   replace g5 := g5.ext e6
   replace g6 := g6.ext e6
   go_wp2
   obtain ⟨w12, E12, F1, U1⟩ := ex4 B1 (.bool b5) (.slice A15 k15 c15) (.bool false) (.slice A16 k16 c16)
   rw [E12]
   obtain ⟨w13, E13, F2, U2⟩ := ex4 (U1.blk B2 (by omega)) (.bool b6) (.slice A17 k17 c17) (.bool false) (.slice A18 k18 c18)
   rw [E13]
   obtain ⟨z0, z1, z2, z3, -⟩ := cells4 F2
   obtain ⟨y0, y1, y2, y3, -⟩ := cells4 (U2.blk F1 (by omega))
   have hT1 := NoU.mk B1 (by decide)
   have hT2 := NoU.mk (U1.blk B2 (by omega)) (by decide)
   have hNn : N ≤ w.heap.size + 1 := by omega
   have hNn2 : N ≤ w.heap.size + 1 + 1 := by omega
   refine bodyPost_ret (v := .tuple #[.agg #[.bool b5, .slice A15 k15 c15, .bool false, .slice A16 k16 c16], .agg #[.bool b6, .slice A17 k17 c17, .bool false, .slice A18 k18 c18], .int .i64 0]) ?_ rfl ?_
   ·simp [results, Tryz.results49, z0, z1, z2, z3, y0, y1, y2, y3, go_sem]
   ·rw [hRf.out]
    refine ⟨U2.ext (U1.ext hE6 (by omega)) (by omega), .inr ⟨HKO.out, _, _, ((0 : Int) : Rat), rfl, RatV.mk hb5 ((g5.upd U1 hNn hT1).upd U2 hNn2 hT2) ((g6.upd U1 hNn hT1).upd U2 hNn2 hT2), ?_⟩⟩
    rw [HQ0.out]
    exact ⟨RatV.mk hb6 ((g7.upd U1 hNn hT1).upd U2 hNn2 hT2) ((g8.upd U1 hNn hT1).upd U2 hNn2 hT2), Ht.zero.mono (by omega)⟩
  ·have hr00 : ((r : Int) == 0) = false := beq_eq_false_iff_ne.2 (by omega)
   have hrp : 0 < r := by omega
   obtain ⟨x0, x1, x2, x3, A11, c11, A12, c12, x6, BM2, hBs, hZs⟩ := hMB hrp
   replace BM2 := e14.block BM2
   replace hBs := hBs.ext e14
   replace hZs := hZs.ext e14
   clear hMB hr0 HLOW HZH HXB BM4
   go_wp2
   go_loopw [79, 13, 15] (fun i v _ wr => ∃ k : Nat, k ≤ r ∧ i = .int .i64 k ∧ Ext w4 wr ∧ ∃ A c', v = .slice A k c' ∧ Grow N w4.heap.size wr (.slice A k c') k (fun s => c (pv[s]?.getD 0))) (fun i _ _ _ => r - (intOf i).toNat)
   case atStart => exact ⟨0, Nat.zero_le _, rfl, Ext.refl _, _, _, rfl, Grow.nil hN4 (Nat.le_refl _) _⟩
   case round =>
    clear r0 r1 r2 r3 r4 r5 r6 a0 a1 a2 d0 d1 d2 d3 d4 d5 d6 d7 u0 u1 u2 u3 u4 u5 u6 u7
    obtain ⟨k, hk, rfl, hEr, A13, c13, rfl, hG⟩ := hrel
    have hsr := hEr.size
    by_cases hlt : k < r
    ·obtain ⟨bp, op, z, rfl, y0, HZ⟩ := (hi4.ext hEr).at_ (i := k) (by rw [← hr.out]; exact hlt)
     have hzn : z < n := by rw [HZ.out]; exact HLO.out k hlt
     obtain ⟨b2, off2, rfl, -, -, hx⟩ := (hI4.ext (hE4.trans hEr)).addr hn0
     obtain ⟨n1, A14, k14, c14, A15, k15, c15, p0, p1, p2, p3, hb1, g1, g2⟩ := (hx z hzn).open
     clear hx
     go_wp2_with (at_builtin; refine Hid.out ?_)
     refine boxes1 ?_
     intro w5 e5 hsz5 BX
     replace hEr := hEr.trans e5
     replace hG := hG.ext e5
     refine wpList_append_rat rfl _ _ 24 Tryz.underlying24 rfl rfl hG rfl BX hb1 (g1.ext e5) (g2.ext e5) (by omega) ?_
     rintro g cap' w6 hG3 ⟨g', hg', c6, -⟩ -
     replace hEr := c6.ext hEr (by omega)
     have HZ2 : Hid (c z = c (pv[k]?.getD 0)) := by rw [Hid, HZ.out]
     replace hG3 := hG3.congr (y := fun s => c (pv[s]?.getD 0)) (fun j _ => by unfold upd; split; (rename_i e; rw [e]; exact HZ2.out); rfl)
     clear hG c6 BX e5 g1 g2 hb1 y0 p0 p1 p2 p3
     go_wp2
     go_roundw
     case rel => exact ⟨k + 1, by omega, by go_num, hEr, _, _, rfl, hG3⟩
     case measure => simp [intOf]; omega
    ·obtain rfl : r = k := by omega
     have hE5 := hE4.trans hEr
     replace B0 := hEr.block B0
     replace B1 := hEr.block B1
     replace B2 := hEr.block B2
     replace BM2 := hEr.block BM2
     replace hBs := hBs.ext hEr
     replace hZs := hZs.ext hEr
     have hPart := hG.lsv (lo := 0) (Nat.zero_le _) rfl
     have HPH : Hid (HtL r 17 (fun s => c (pv[s]?.getD 0))) := fun s hs => HCH.out _ (HLO.out s hs)
     clear hG hi4 hi8 hEr
     have hm24 : r ≤ 24 := by omega
     obtain ⟨a0, a1, a2, -⟩ := cells3 B0
     obtain ⟨r0, r1, r2, r3, r4, r5, r6⟩ := cells7 BM2
     go_upto_region 20 with (fail)
     refine region_inv [Mn.eq (.pointer (some ⟨gm, 0, none⟩)), Mn.eq (.pointer (some ⟨gm, 0, none⟩)), Mn.eq (.pointer (some ⟨gm, 4, none⟩)), Mn.eq (.slice A11 m c11), Mn.eq (.pointer (some ⟨w.heap.size, 1, none⟩)), Mn.eq (.slice A2 m c2), Mn.eq (.pointer (some ⟨w.heap.size, 2, none⟩)), Mn.eq (.slice A3 m c3), Mn.eq (.agg #[.slice A11 m c11, .slice A2 m c2, .slice A3 m c3]), Mn.nor N r (nmat (bas X pv) p m) (nrhs (bas X pv) y p m), Mn.nor N r (nmat (bas X pv) p m) (nrhs (bas X pv) y p m), Mn.mt N r r (nmat (bas X pv) p m), Mn.ls N r (nrhs (bas X pv) y p m), Mn.eq (.int .i64 0), Mn.mt N r r (nmat (bas X pv) p m), Mn.ls N r (nrhs (bas X pv) y p m), Mn.eq (.int .i64 0)] [some 92, some 93, some 94, some 95, some 96, some 97, some 98, some 99, some 100, some 101, some 91, some 102, some 103, some 104, some 16, some 17, some 18] [] [true, true, true, true, true, true, true, true, true, true, true, true, true, true, true, true, true] 0 (by kernel_rfl) (by kernel_rfl) (by kernel_rfl) (by kernel_rfl) (by kernel_rfl) (by kernel_rfl) (by kernel_rfl) (by kernel_rfl) ?_ ?_
     ·intro i hi hl
      have hi' : i = 0 ∨ i = 1 ∨ i = 2 ∨ i = 3 ∨ i = 4 ∨ i = 5 ∨ i = 6 ∨ i = 7 ∨ i = 8 ∨ i = 9 ∨ i = 10 ∨ i = 11 ∨ i = 12 ∨ i = 13 ∨ i = 14 ∨ i = 15 ∨ i = 16 := by have h9 : i < 17 := hi; omega
      clear hi
      rcases hi' with rfl | rfl | rfl | rfl | rfl | rfl | rfl | rfl | rfl | rfl | rfl | rfl | rfl | rfl | rfl | rfl | rfl
      ·clear hl
       refine stp rfl ?_
       intro ac wi eI hold hpre K hK
       have o7 := hold 7 (by kernel_rfl)
       simp only [List.getElem?_toArray, List.getElem?_cons_succ, List.getElem?_cons_zero] at o7
       clear hold hpre
       go_simp
       exact hK.out _ _ (Ext.refl _) rfl
      ·clear hl
       refine stp rfl ?_
       intro ac wi eI hold hpre K hK
       obtain ⟨x92, s92, j92⟩ := hpre 0 (by kernel_rfl) 92 rfl
       obtain rfl : x92 = (.pointer (some ⟨gm, 0, none⟩)) := j92
       clear hold hpre
       go_simp
       exact hK.out _ _ (Ext.refl _) rfl
      ·clear hl
       refine stp rfl ?_
       intro ac wi eI hold hpre K hK
       obtain ⟨x93, s93, j93⟩ := hpre 1 (by kernel_rfl) 93 rfl
       obtain rfl : x93 = (.pointer (some ⟨gm, 0, none⟩)) := j93
       clear hold hpre
       go_simp
       exact hK.out _ _ (Ext.refl _) rfl
      ·clear hl
       refine stp rfl ?_
       intro ac wi eI hold hpre K hK
       obtain ⟨x94, s94, j94⟩ := hpre 2 (by kernel_rfl) 94 rfl
       obtain rfl : x94 = (.pointer (some ⟨gm, 4, none⟩)) := j94
       clear hold hpre
       have cc0 := eI.cell a1
       have cc1 := eI.cell a2
       have cc2 := eI.cell r4
       go_simp
       exact hK.out _ _ (Ext.refl _) rfl
      ·clear hl
       refine stp rfl ?_
       intro ac wi eI hold hpre K hK
       have o2 := hold 2 (by kernel_rfl)
       simp only [List.getElem?_toArray, List.getElem?_cons_succ, List.getElem?_cons_zero] at o2
       clear hold hpre
       go_simp
       exact hK.out _ _ (Ext.refl _) rfl
      ·clear hl
       refine stp rfl ?_
       intro ac wi eI hold hpre K hK
       obtain ⟨x96, s96, j96⟩ := hpre 4 (by kernel_rfl) 96 rfl
       obtain rfl : x96 = (.pointer (some ⟨w.heap.size, 1, none⟩)) := j96
       clear hold hpre
       have cc0 := eI.cell a1
       have cc1 := eI.cell a2
       have cc2 := eI.cell r4
       go_simp
       exact hK.out _ _ (Ext.refl _) rfl
      ·clear hl
       refine stp rfl ?_
       intro ac wi eI hold hpre K hK
       have o2 := hold 2 (by kernel_rfl)
       simp only [List.getElem?_toArray, List.getElem?_cons_succ, List.getElem?_cons_zero] at o2
       clear hold hpre
       go_simp
       exact hK.out _ _ (Ext.refl _) rfl
      ·clear hl
       refine stp rfl ?_
       intro ac wi eI hold hpre K hK
       obtain ⟨x98, s98, j98⟩ := hpre 6 (by kernel_rfl) 98 rfl
       obtain rfl : x98 = (.pointer (some ⟨w.heap.size, 2, none⟩)) := j98
       clear hold hpre
       have cc0 := eI.cell a1
       have cc1 := eI.cell a2
       have cc2 := eI.cell r4
       go_simp
       exact hK.out _ _ (Ext.refl _) rfl
      ·clear hl
       refine stp rfl ?_
       intro ac wi eI hold hpre K hK
       obtain ⟨x95, s95, j95⟩ := hpre 3 (by kernel_rfl) 95 rfl
       obtain rfl : x95 = (.slice A11 m c11) := j95
       obtain ⟨x97, s97, j97⟩ := hpre 5 (by kernel_rfl) 97 rfl
       obtain rfl : x97 = (.slice A2 m c2) := j97
       obtain ⟨x99, s99, j99⟩ := hpre 7 (by kernel_rfl) 99 rfl
       obtain rfl : x99 = (.slice A3 m c3) := j99
       clear hold hpre
       go_simp
       exact hK.out _ _ (Ext.refl _) rfl
      ·clear hl
       refine stp rfl ?_
       intro ac wi eI hold hpre K hK
       obtain ⟨x100, s100, j100⟩ := hpre 8 (by kernel_rfl) 100 rfl
       obtain rfl : x100 = (.agg #[.slice A11 m c11, .slice A2 m c2, .slice A3 m c3]) := j100
       clear hold hpre
       go_simp
       refine (n_normal (hBs.ext eI) (hI2.ext (hE5.trans eI)) (hI3.ext (hE5.trans eI)) hm0 (by omega) hrp hm24 HPOS.out HXR.out HY.out HP.out (by omega)).mono ?_
       rintro e wj ⟨Aj, cj, Aj', cj', rfl, hj1, hj2, ej⟩
       go_wp2_with fail
       exact hK.out _ _ ej ⟨_, _, rfl, MtR.wide hj1 (Nat.zero_le _) (Nat.le_refl _) (Nat.le_refl _), LsR.wide hj2 (Nat.zero_le _) (Nat.le_refl _) (Nat.le_refl _)⟩
      ·clear hl
       refine stp rfl ?_
       intro ac wi eI hold hpre K hK
       obtain ⟨x101, s101, j101⟩ := hpre 9 (by kernel_rfl) 101 rfl
       replace j101 : Mn.p (Mn.nor N r (nmat (bas X pv) p m) (nrhs (bas X pv) y p m)) x101 wi := j101
       clear hold hpre
       go_simp
       exact hK.out _ _ (Ext.refl _) j101
      ·clear hl
       refine stp rfl ?_
       intro ac wi eI hold hpre K hK
       obtain ⟨x91, s91, j91⟩ := hpre 10 (by kernel_rfl) 91 rfl
       replace j91 : Mn.p (Mn.nor N r (nmat (bas X pv) p m) (nrhs (bas X pv) y p m)) x91 wi := j91
       clear hold hpre
       obtain ⟨t1, t2, rfl, q1, q2⟩ := (j91 : ∃ v1 v2, x91 = .tuple #[v1, v2, .int .i64 0] ∧ MtV N 0 wi.heap.size wi v1 r r _ ∧ LsV N 0 wi.heap.size wi v2 r _)
       go_simp
       exact hK.out _ _ (Ext.refl _) q1
      ·clear hl
       refine stp rfl ?_
       intro ac wi eI hold hpre K hK
       obtain ⟨x91, s91, j91⟩ := hpre 10 (by kernel_rfl) 91 rfl
       replace j91 : Mn.p (Mn.nor N r (nmat (bas X pv) p m) (nrhs (bas X pv) y p m)) x91 wi := j91
       clear hold hpre
       obtain ⟨t1, t2, rfl, q1, q2⟩ := (j91 : ∃ v1 v2, x91 = .tuple #[v1, v2, .int .i64 0] ∧ MtV N 0 wi.heap.size wi v1 r r _ ∧ LsV N 0 wi.heap.size wi v2 r _)
       go_simp
       exact hK.out _ _ (Ext.refl _) q2
      ·clear hl
       refine stp rfl ?_
       intro ac wi eI hold hpre K hK
       obtain ⟨x91, s91, j91⟩ := hpre 10 (by kernel_rfl) 91 rfl
       replace j91 : Mn.p (Mn.nor N r (nmat (bas X pv) p m) (nrhs (bas X pv) y p m)) x91 wi := j91
       clear hold hpre
       obtain ⟨t1, t2, rfl, q1, q2⟩ := (j91 : ∃ v1 v2, x91 = .tuple #[v1, v2, .int .i64 0] ∧ MtV N 0 wi.heap.size wi v1 r r _ ∧ LsV N 0 wi.heap.size wi v2 r _)
       go_simp
       exact hK.out _ _ (Ext.refl _) rfl
      ·clear hl
       refine stp rfl ?_
       intro ac wi eI hold hpre K hK
       obtain ⟨x102, s102, j102⟩ := hpre 11 (by kernel_rfl) 102 rfl
       replace j102 : Mn.p (Mn.mt N r r (nmat (bas X pv) p m)) x102 wi := j102
       clear hold hpre
       go_simp
       exact hK.out _ _ (Ext.refl _) j102
      ·clear hl
       refine stp rfl ?_
       intro ac wi eI hold hpre K hK
       obtain ⟨x103, s103, j103⟩ := hpre 12 (by kernel_rfl) 103 rfl
       replace j103 : Mn.p (Mn.ls N r (nrhs (bas X pv) y p m)) x103 wi := j103
       clear hold hpre
       go_simp
       exact hK.out _ _ (Ext.refl _) j103
      ·clear hl
       refine stp rfl ?_
       intro ac wi eI hold hpre K hK
       obtain ⟨x104, s104, j104⟩ := hpre 13 (by kernel_rfl) 104 rfl
       obtain rfl : x104 = (.int .i64 0) := j104
       clear hold hpre
       go_simp
       exact hK.out _ _ (Ext.refl _) rfl
     intro vals wz eZ hJ
     have J92 : Mn.p (Mn.eq (.pointer (some ⟨gm, 0, none⟩))) (vals 0) wz := hJ 0 (by decide) (by decide)
     have J93 : Mn.p (Mn.eq (.pointer (some ⟨gm, 0, none⟩))) (vals 1) wz := hJ 1 (by decide) (by decide)
     have J94 : Mn.p (Mn.eq (.pointer (some ⟨gm, 4, none⟩))) (vals 2) wz := hJ 2 (by decide) (by decide)
     have J95 : Mn.p (Mn.eq (.slice A11 m c11)) (vals 3) wz := hJ 3 (by decide) (by decide)
     have J96 : Mn.p (Mn.eq (.pointer (some ⟨w.heap.size, 1, none⟩))) (vals 4) wz := hJ 4 (by decide) (by decide)
     have J97 : Mn.p (Mn.eq (.slice A2 m c2)) (vals 5) wz := hJ 5 (by decide) (by decide)
     have J98 : Mn.p (Mn.eq (.pointer (some ⟨w.heap.size, 2, none⟩))) (vals 6) wz := hJ 6 (by decide) (by decide)
     have J99 : Mn.p (Mn.eq (.slice A3 m c3)) (vals 7) wz := hJ 7 (by decide) (by decide)
     have J100 : Mn.p (Mn.eq (.agg #[.slice A11 m c11, .slice A2 m c2, .slice A3 m c3])) (vals 8) wz := hJ 8 (by decide) (by decide)
     have J101 : Mn.p (Mn.nor N r (nmat (bas X pv) p m) (nrhs (bas X pv) y p m)) (vals 9) wz := hJ 9 (by decide) (by decide)
     have J91 : Mn.p (Mn.nor N r (nmat (bas X pv) p m) (nrhs (bas X pv) y p m)) (vals 10) wz := hJ 10 (by decide) (by decide)
     have J102 : Mn.p (Mn.mt N r r (nmat (bas X pv) p m)) (vals 11) wz := hJ 11 (by decide) (by decide)
     have J103 : Mn.p (Mn.ls N r (nrhs (bas X pv) y p m)) (vals 12) wz := hJ 12 (by decide) (by decide)
     have J104 : Mn.p (Mn.eq (.int .i64 0)) (vals 13) wz := hJ 13 (by decide) (by decide)
     have J16 : Mn.p (Mn.mt N r r (nmat (bas X pv) p m)) (vals 14) wz := hJ 14 (by decide) (by decide)
     have J17 : Mn.p (Mn.ls N r (nrhs (bas X pv) y p m)) (vals 15) wz := hJ 15 (by decide) (by decide)
     have J18 : Mn.p (Mn.eq (.int .i64 0)) (vals 16) wz := hJ 16 (by decide) (by decide)
     clear hJ
     simp only [putAll, if_true, Bool.false_eq_true, if_false, Act.put, Nat.zero_add, Nat.reduceAdd, List.setIfInBounds_toArray, List.set_cons_zero, List.set_cons_succ]
     generalize vals 0 = z92 at J92 ⊢
     obtain rfl : z92 = (.pointer (some ⟨gm, 0, none⟩)) := J92
     generalize vals 1 = z93 at J93 ⊢
     obtain rfl : z93 = (.pointer (some ⟨gm, 0, none⟩)) := J93
     generalize vals 2 = z94 at J94 ⊢
     obtain rfl : z94 = (.pointer (some ⟨gm, 4, none⟩)) := J94
     generalize vals 3 = z95 at J95 ⊢
     obtain rfl : z95 = (.slice A11 m c11) := J95
     generalize vals 4 = z96 at J96 ⊢
     obtain rfl : z96 = (.pointer (some ⟨w.heap.size, 1, none⟩)) := J96
     generalize vals 5 = z97 at J97 ⊢
     obtain rfl : z97 = (.slice A2 m c2) := J97
     generalize vals 6 = z98 at J98 ⊢
     obtain rfl : z98 = (.pointer (some ⟨w.heap.size, 2, none⟩)) := J98
     generalize vals 7 = z99 at J99 ⊢
     obtain rfl : z99 = (.slice A3 m c3) := J99
     generalize vals 8 = z100 at J100 ⊢
     obtain rfl : z100 = (.agg #[.slice A11 m c11, .slice A2 m c2, .slice A3 m c3]) := J100
     generalize vals 9 = z101 at J101 ⊢
     generalize vals 10 = z91 at J91 ⊢
     generalize vals 11 = z102 at J102 ⊢
     generalize vals 12 = z103 at J103 ⊢
     generalize vals 13 = z104 at J104 ⊢
     obtain rfl : z104 = (.int .i64 0) := J104
     generalize vals 14 = z16 at J16 ⊢
     generalize vals 15 = z17 at J17 ⊢
     generalize vals 16 = z18 at J18 ⊢
     obtain rfl : z18 = (.int .i64 0) := J18
     refine stepL_done (by kernel_rfl) ?_ _
     have hRt : LsV N 0 wz.heap.size wz z17 r (nrhs (bas X pv) y p m) := J17
     obtain ⟨A20, c20, rfl, hc20, -⟩ := hRt.form
     clear J91 J101 J102 J103 J16 J17 a0 a1 a2 r0 r1 r2 r3 r4 r5 r6
     replace hE5 := hE5.trans eZ
     replace B1 := eZ.block B1
     replace B2 := eZ.block B2
     replace BM2 := eZ.block BM2
     replace hZs := hZs.ext eZ
     replace hPart := hPart.ext eZ
     clear B0 eZ hBs
     have HRH2 : Hid (HtL r 313 (nrhs (bas X pv) y p m)) := nrhs_ht HXR.out HY.out HP.out (Nat.le_refl _) (by omega)
     obtain ⟨RH, hRH⟩ := hid_eq (nrhs (bas X pv) y p m)
     rw [← hRH.out] at hRt HRH2
     have HK1 : Hid (r * (k2 + 313 + 1) + 1 ≤ 1100000) := by
      have h9 : r * (k2 + 313 + 1) ≤ 4 * (250000 + 313 + 1) := Nat.mul_le_mul (by omega) (by omega)
      rw [Hid]; omega
     have HK2 : Hid (r * (k2 + 17 + 1) + 1 ≤ 1100000) := by
      have h9 : r * (k2 + 17 + 1) ≤ 4 * (250000 + 17 + 1) := Nat.mul_le_mul (by omega) (by omega)
      rw [Hid]; omega
     obtain ⟨r0, r1, r2, r3, r4, r5, r6⟩ := cells7 BM2
     go_wp2_with (go_at_call 97; refine Hid.out ?_)
     refine (m_apply hZs hRt hrp (by omega) hrp (by omega) HZR.out HRH2.out (by have := HK1.out; omega)).mono ?_
     rintro e w5 ⟨A21, c21, rfl, hx1, e5⟩
     obtain ⟨x1', hx1'⟩ := hid_eq (fun i => sum r (fun c => Z i c * RH c))
     rw [← hx1'.out] at hx1
     have HX1 : Hid (HtL r 1100000 x1') := by
      rw [Hid, hx1'.out]
      exact fun i hi => (sum_ht (n := r) (k := k2 + 313) (fun c hc => (HZR.out i hi c hc).mul (HRH2.out c hc)) (Nat.le_refl _) (Nat.le_refl _)).mono HK1.out
     replace BM2 := e5.block BM2
     replace hZs := hZs.ext e5
     replace hPart := hPart.ext e5
     clear r0 r1 r2 r3 r4 r5 r6 hRt
     obtain ⟨r0, r1, r2, r3, r4, r5, r6⟩ := cells7 BM2
     go_wp2_with (go_at_call 97; refine Hid.out ?_)
     refine (m_apply hZs hPart hrp (by omega) hrp (by omega) HZR.out HPH.out (by have := HK2.out; omega)).mono ?_
     rintro e w6 ⟨A22, c22, rfl, hx2, e6⟩
     obtain ⟨x2', hx2'⟩ := hid_eq (fun i => sum r (fun t => Z i t * c (pv[t]?.getD 0)))
     replace hx2 : LsV N w5.heap.size w6.heap.size w6 (.slice A22 r c22) r x2' := by rw [hx2'.out]; exact hx2
     have HX2 : Hid (HtL r 1100000 x2') := by
      rw [Hid, hx2'.out]
      exact fun i hi => (sum_ht (n := r) (k := k2 + 17) (fun c hc => (HZR.out i hi c hc).mul (HPH.out c hc)) (Nat.le_refl _) (Nat.le_refl _)).mono HK2.out
     have HQ2 : Hid (sum r (fun j => c (pv[j]?.getD 0) * x2' j) = Q) := by rw [Hid, HQ.out, hx2'.out]
     replace hPart := hPart.ext e6
     replace hx1 := hx1.ext e6
     clear r0 r1 r2 r3 r4 r5 r6
     have HK3 : Hid (r * (17 + 1100000 + 1) + 1 ≤ 30000000) := by
      rw [Hid]; omega
     go_wp2_with (go_at_call 98; refine Hid.out ?_)
     refine (rl_dot hPart hx1 HPH.out HX1.out (by have := HK3.out; omega)).mono ?_
     intro e w7 hh
     obtain ⟨b5, A15, k15, c15, A16, k16, c16, rfl, hb5, g5, g6, e7⟩ := hh.form
     have HQH : Hid (Ht 30000000 Q) := by rw [← HQ2.out]; exact (sum_ht (n := r) (k := 17 + 1100000) (fun s hs => (HPH.out s hs).mul (HX2.out s hs)) (Nat.le_refl _) (Nat.le_refl _)).mono HK3.out
     obtain ⟨q1, hq1⟩ := hid_eq (sum r (fun j => c (pv[j]?.getD 0) * x1' j))
     rw [← hq1.out] at hb5 g5 g6
     replace hPart := hPart.ext e7
     replace hx2 := hx2.ext e7
     clear hx1 hh
     go_wp2_with (go_at_call 98; refine Hid.out ?_)
     refine (rl_dot hPart hx2 HPH.out HX2.out (by have := HK3.out; omega)).mono ?_
     rw [HQ2.out]
     intro e w8 hh
     obtain ⟨b6, A17, k17, c17, A18, k18, c18, rfl, hb6, g7, g8, e8⟩ := hh.form
     have e58 := ((e5.trans e6).trans e7).trans e8
     replace B1 := e58.block B1
     replace B2 := e58.block B2
     have hE6 := hE5.trans e58
     replace g5 := g5.ext e8
     replace g6 := g6.ext e8
     clear hPart hx2 hZs BM2 e5 e6 e7 e8 e58 hh
     obtain ⟨d0, d1, d2, d3, d4, d5, d6, d7⟩ := cells4 B1
     obtain ⟨u0, u1, u2, u3, u4, u5, u6, u7⟩ := cells4 B2
     go_wp2
     obtain ⟨w12, E12, F1, U1⟩ := ex4 B1 (.bool b5) (.slice A15 k15 c15) (.bool false) (.slice A16 k16 c16)
     rw [E12]
     obtain ⟨w13, E13, F2, U2⟩ := ex4 (U1.blk B2 (by omega)) (.bool b6) (.slice A17 k17 c17) (.bool false) (.slice A18 k18 c18)
     rw [E13]
     obtain ⟨z0, z1, z2, z3, -⟩ := cells4 F2
     obtain ⟨y0, y1, y2, y3, -⟩ := cells4 (U2.blk F1 (by omega))
     have hT1 := NoU.mk B1 (by decide)
     have hT2 := NoU.mk (U1.blk B2 (by omega)) (by decide)
     have hNn : N ≤ w.heap.size + 1 := by omega
     have hNn2 : N ≤ w.heap.size + 1 + 1 := by omega
     refine bodyPost_ret (v := .tuple #[.agg #[.bool b5, .slice A15 k15 c15, .bool false, .slice A16 k16 c16], .agg #[.bool b6, .slice A17 k17 c17, .bool false, .slice A18 k18 c18], .int .i64 0]) ?_ rfl ?_
     ·simp [results, Tryz.results49, z0, z1, z2, z3, y0, y1, y2, y3, go_sem]
     ·rw [hRf.out]
      exact ⟨U2.ext (U1.ext hE6 (by omega)) (by omega), .inr ⟨HKO.out, _, _, q1, rfl, RatV.mk hb5 ((g5.upd U1 hNn hT1).upd U2 hNn2 hT2) ((g6.upd U1 hNn hT1).upd U2 hNn2 hT2), RatV.mk hb6 ((g7.upd U1 hNn hT1).upd U2 hNn2 hT2) ((g8.upd U1 hNn hT1).upd U2 hNn2 hT2), HQH.out⟩⟩
end Go.Proofs.YtghpfnhmlpfgcaaGreat
namespace Go.Proofs.YtghpfnhmlpfgcaaGreat
open Go.RowKit
theorem est_comb {m n : Nat} {X : Nat → Nat → Rat} {c : Nat → Rat} (h : estB m n X c = true) : ∃ u, Comb1 m n X u c := by
 unfold estB at h
 refine ⟨_, solve_ok (rref_ok n (aug m (fun i j => X j i) c) (m + 1)) (fun s hs he => ?_)⟩
 have : (rref n (aug m (fun i j => X j i) c) (m + 1)).2.contains m = true := by
  rw [List.contains_iff_mem]
  rw [List.getElem?_eq_getElem hs] at he
  simp only [Option.getD_some] at he
  have h9 := List.getElem_mem hs
  rw [he] at h9
  exact h9
 rw [this] at h; cases h
theorem comb_est {m n : Nat} {X : Nat → Nat → Rat} {c u : Nat → Rat} (h : Comb1 m n X u c) : estB m n X c = true := by
 unfold estB
 cases hc : (rref n (aug m (fun i j => X j i) c) (m + 1)).2.contains m with
 | false => rfl
 | true =>
  rw [List.contains_iff_mem] at hc
  obtain ⟨s, hs, he⟩ := List.getElem_of_mem hc
  obtain ⟨y, h1, h2⟩ := solve_no (rref_ok n (aug m (fun i j => X j i) c) (m + 1)) hs (by rw [List.getElem?_eq_getElem hs]; simpa using he)
  exfalso
  have e1 : sum n (fun i => y i * c i) = sum m (fun i => u i * sum n (fun a => y a * X i a)) := by
   rw [show sum n (fun i => y i * c i) = sum n (fun a => sum m (fun i => u i * (y a * X i a))) from sum_congr fun a ha => by
    rw [← h a ha, ← sum_mul]; exact sum_congr fun i _ => by grind, sum_comm]
   exact sum_congr fun i _ => by rw [sum_mul]
  rw [e1, sum_eq_zero (fun i hi => by rw [h1 i hi]; grind)] at h2
  exact absurd h2 (by decide)
theorem cof_more2 {m n : Nat} {X Y : Nat → Nat → Rat} {p q c : Nat → Rat} (hp : ∀ i, i < m + 1 → 0 < p i) (hX : ∀ i, i < m → ∀ a, a < n → Y i a = X i a) (hq : ∀ i, i < m → q i = p i) (he : estB m n Y c = true) :
  estB (m + 1) n X c = true ∧ cof X (invM (rref (m + 1) X n).2.length (nmat (bas X (rref (m + 1) X n).2) p (m + 1))) (rref (m + 1) X n).2 c ≤ cof Y (invM (rref m Y n).2.length (nmat (bas Y (rref m Y n).2) q m)) (rref m Y n).2 c := by
 have hq0 : ∀ i, i < m → 0 < q i := fun i hi => by rw [hq i hi]; exact hp i (by omega)
 obtain ⟨u, hu⟩ := est_comb he
 obtain ⟨v, hv, e1, -⟩ := cof_has (model_of m n Y hq0) hu
 have hw : Comb1 (m + 1) n X (fun i => if i < m then v i else 0) c := by
  intro a ha
  show sum m (fun i => X i a * if i < m then v i else 0) + X m a * (if m < m then v m else 0) = c a
  rw [if_neg (Nat.lt_irrefl m), ← hv a ha]
  rw [show sum m (fun i => X i a * if i < m then v i else 0) = sum m (fun i => Y i a * v i) from sum_congr fun i hi => by rw [if_pos hi, hX i hi a ha]]
  grind
 obtain ⟨v2, hv2, e2, e3⟩ := cof_has (model_of (m + 1) n X hp) hw
 refine ⟨comb_est hw, ?_⟩
 rw [← e1]
 rw [sum_succ] at e3
 rw [if_neg (Nat.lt_irrefl m)] at e3
 rw [show sum m (fun i => (if i < m then v i else 0) * (if i < m then v i else 0) / p i) = sum m (fun i => v i * v i / q i) from sum_congr fun i hi => by rw [if_pos hi, hq i hi]] at e3
 have : (0 : Rat) * 0 / p m = 0 := by grind
 grind
end Go.Proofs.YtghpfnhmlpfgcaaGreat
namespace Go.Proofs.YtghpfnhmlpfgcaaGreat
open Go.RowKit
def moB (Z : Lin) (nx : Nat) (R : Nat → Raw) : Bool :=
 fewB Z && (shortB nx R && (decide (codeOf Z = 0) && (decide (2 ≤ Z.m) && (allB nx (fun i => okR (R i)) && decide (nx = Z.L 0)))))
set_option maxRecDepth 100000 in
set_option maxHeartbeats 8000000 in
theorem mo_early {N lo hi lo' hi' : Nat} {w : World} {v u : Value} {Z : Lin} {nx : Nat} {R : Nat → Raw} (h : LinV N lo hi w v Z) (hx : LsR N lo' hi' w u nx R) (hb : moB Z nx R = false) :
  Calls Tryz.prog 8 #[v, u] w (RetV w (.bool true)) := by
 have hI := h
 have hX := hx
 obtain ⟨A1, c1, A2, c2, A3, c3, rfl, h1, -, -, hZm, -⟩ := h.parts
 obtain ⟨A4, c4, rfl, hm4, hc4⟩ := hx.form
 unfold maxLen at hc4
 have HBB := Lib.hid hb
 unfold moB at HBB
 obtain ⟨f1, hf1⟩ := hid_eq (fewB Z)
 obtain ⟨f2, hf2⟩ := hid_eq (shortB nx R)
 obtain ⟨f4, hf4⟩ := hid_eq (allB nx (fun i => okR (R i)))
 obtain ⟨r, hr⟩ := hid_eq (codeOf Z)
 rw [← hf1.out, ← hf2.out, ← hf4.out, ← hr.out] at HBB
 clear h hb hx
 go_enter Tryz.func8, Tryz.ntmps8
 go_wp2_with (go_at_call 9; refine Hid.out ?_)
 refine boxesC1 ?_
 intro W hE hsz B0
 refine (l37_known W).mono ?_
 rintro e w1 ⟨rfl, e1⟩
 replace hE := hE.trans e1
 replace B0 := e1.block B0
 have hs1 := e1.size
 replace hsz : w.heap.size < w1.heap.size := by omega
 clear e1 hs1
 obtain ⟨a0, a1, a2, -⟩ := cells3 B0
 go_wp2_with (go_at_call 10; refine Hid.out ?_)
 refine (l37_few (hI.ext hE)).mono ?_
 rintro e w2 ⟨rfl, e2⟩
 rw [← hf1.out]
 replace hE := hE.trans e2
 replace B0 := e2.block B0
 replace hsz := blk_lt B0
 clear a0 a1 a2
 obtain ⟨a0, a1, a2, -⟩ := cells3 B0
 clear e2
 cases f1 with
 | false =>
  go_wp2
  go_ret
  exact ⟨rfl, hE⟩
 | true =>
 go_wp2_with (go_at_call 11; refine Hid.out ?_)
 refine (l37_short (hX.ext hE)).mono ?_
 rintro e w3 ⟨rfl, e3⟩
 rw [← hf2.out]
 replace hE := hE.trans e3
 replace B0 := e3.block B0
 replace hsz := blk_lt B0
 clear a0 a1 a2
 obtain ⟨a0, a1, a2, -⟩ := cells3 B0
 clear e3
 cases f2 with
 | false =>
  go_wp2
  go_ret
  exact ⟨rfl, hE⟩
 | true =>
 obtain ⟨g1, g2, g3⟩ := few_sz hf1.out.symm
 have HF1 := Lib.hid g1
 have HF2 := Lib.hid g2
 have HF3 := Lib.hid g3
 have HSR : Hid (∀ i, i < nx → RawSz (R i)) := fun i hi => (brief_raw ((short_all hf2.out.symm).2 i hi)).1
 clear g1 g2 g3
 go_wp2_with (go_at_call 14; refine Hid.out ?_)
 refine (l37_code (hI.ext hE) HF2.out HF3.out HF1.out).mono ?_
 rintro e w4 ⟨rfl, e4⟩
 rw [← hr.out]
 replace hE := hE.trans e4
 replace B0 := e4.block B0
 replace hsz := blk_lt B0
 clear a0 a1 a2
 obtain ⟨a0, a1, a2, -⟩ := cells3 B0
 clear e4
 by_cases hr0 : r = 0
 case neg =>
  have hrb : (r != 0) = true := by simpa using hr0
  go_wp2
  go_ret
  exact ⟨rfl, hE⟩
 case pos =>
 have HF := few_lin hf1.out.symm (by rw [← hr.out]; exact hr0)
 subst hr0
 have HFL := Lib.hid HF
 clear HF
 by_cases hm2 : 2 ≤ Z.m
 case neg =>
  go_wp2
  go_ret
  exact ⟨rfl, hE⟩
 case pos =>
 go_wp2_with (go_at_call 20; refine Hid.out ?_)
 refine (r2_validList (hX.ext hE) HSR.out).mono ?_
 rintro e w5 ⟨rfl, e5⟩
 rw [← hf4.out]
 replace hE := hE.trans e5
 replace B0 := e5.block B0
 replace hsz := blk_lt B0
 clear a0 a1 a2
 obtain ⟨a0, a1, a2, -⟩ := cells3 B0
 clear e5
 cases f4 with
 | false =>
  go_wp2
  go_ret
  exact ⟨rfl, hE⟩
 | true =>
 obtain ⟨b, off, rfl, -, -, hx⟩ := (h1.ext hE).addr HFL.out.m0
 obtain ⟨Ab, cb, p0, -, hcb, -⟩ := hx 0 HFL.out.m0
 rw [Nat.add_zero] at p0
 unfold maxLen at hcb
 obtain ⟨zl, hzl⟩ := hid_eq (Z.L 0)
 rw [← hzl.out] at p0 HBB
 clear hx
 have hml : nx ≠ zl := by
  intro h9
  have h8 := HBB.out
  rw [decide_eq_true h9, decide_eq_true hm2] at h8
  simp at h8
 have hmb : ((nx : Int) != (zl : Int)) = true := by rw [bne_iff_ne]; omega
 clear hml
 go_wp2
 go_ret
 exact ⟨rfl, hE⟩
end Go.Proofs.YtghpfnhmlpfgcaaGreat
