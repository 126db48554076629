import Derived.Test.YtghpfnhmlpfgcaaGreatWb39
import Derived.Test.YtghpfnhmlpfgcaaGreatWb40
set_option linter.all false
namespace Go.Proofs.YtghpfnhmlpfgcaaGreat
open Go.RowKit
def kX (i : Nat) : Nat → Rat := if i = 0 then fun _ => ((1 : Int) : Rat) else fun _ => ((1 : Int) : Rat)
def kY (i : Nat) : Rat := if i = 0 then ((0 : Int) : Rat) else ((4 : Int) : Rat)
def kP (i : Nat) : Rat := if i = 0 then ((1 : Int) : Rat) else ((3 : Int) : Rat)
theorem k_ht (z : Nat) (hz : z < 8) : Ht 3 ((z : Int) : Rat) := ht_nat z 3 (by omega) (by omega)
theorem kX_ht : HtM 2 1 3 kX := fun i hi c hc => by unfold kX; split <;> exact k_ht 1 (by omega)
theorem kY_ht : HtL 2 3 kY := fun i hi => by unfold kY; split; exact k_ht 0 (by omega); exact k_ht 4 (by omega)
theorem kP_ht : HtL 2 3 kP := fun i hi => by unfold kP; split; exact k_ht 1 (by omega); exact k_ht 3 (by omega)
theorem kP_pos : ∀ i, i < 2 → 0 < kP i := fun i hi => by unfold kP; split <;> decide
theorem k_bnd : Bnd 2 1 3 1 110 115 := ⟨by omega, by omega, by omega, by omega, by omega, by omega, by omega⟩
def kR (i : Nat) : Rat := ((1 : Int) : Rat) - fitsOf 2 1 kX kP i i * kP i
theorem k_sum : kR 0 + kR 1 = ((1 : Int) : Rat) := by decide +kernel
theorem kR_ht : Ht 5 (kR 0) ∧ Ht 5 (kR 1) := by unfold Ht; decide +kernel
theorem k_rank : (rref 2 kX 1).2.length = 1 := by decide +kernel
def kV (i : Nat) : Rat := - kY i + sum 2 (fun j => fitsOf 2 1 kX kP i j * kP j * kY j)
theorem k_fac : sum 2 (fun i => kP i * (kV i * kV i)) / (((2 - (rref 2 kX 1).2.length : Nat) : Int) : Rat) = ((12 : Int) : Rat) := by decide +kernel
def kZ : Lin := ⟨0, fun _ => 0, fun _ _ => raw 0, 0, fun _ => raw 0, 0, fun _ => raw 0⟩
theorem kZ_code : codeOf kZ = 3 := by decide +kernel
set_option maxRecDepth 100000 in
set_option maxHeartbeats 8000000 in
theorem l37_known (w : World) : Calls Tryz.prog 9 #[] w (RetV w (.bool true)) := by
 obtain ⟨N, hN⟩ : ∃ N, N = w.heap.size := ⟨_, rfl⟩
 go_enter Tryz.func9, Tryz.ntmps9
 go_wp2_with (go_at_call 24; refine Hid.out ?_)
 refine (r2_Whole (N := N) (by omega) 1 (by omega) (by omega)).mono ?_
 intro e w1 hh
 obtain ⟨b1, A1, k1, c1, A2, k2, c2, rfl, hb1, g1, g2, e1⟩ := hh.form
 have hE := e1
 go_wp2_with (go_at_call 24; refine Hid.out ?_)
 refine (r2_Whole (N := N) (by have := hE.size; omega) 0 (by omega) (by omega)).mono ?_
 intro e w2 hh
 obtain ⟨b2, A3, k3, c3, A4, k4, c4, rfl, hb2, g3, g4, e2⟩ := hh.form
 replace hE := hE.trans e2
 replace g1 := g1.ext e2
 replace g2 := g2.ext e2
 clear e1 e2 hh
 go_upto_region 2 with (fail)
 have hN2 : N ≤ w2.heap.size := by have := hE.size; omega
 refine boxes2 ?_
 intro W e3 hsz B1 B2
 replace hE := hE.trans e3
 replace g1 := g1.ext e3
 replace g2 := g2.ext e3
 replace g3 := g3.ext e3
 replace g4 := g4.ext e3
 have hNW : N ≤ W.heap.size := by have := hE.size; omega
 obtain ⟨a0, a1, a2, a3, -⟩ := cells4 B1
 obtain ⟨d0, d1, d2, d3, -⟩ := cells4 B2
 refine region_inv [Mn.rat N ((1 : Int) : Rat), Mn.ls N 1 (fun _ => ((1 : Int) : Rat)), Mn.rat N ((1 : Int) : Rat), Mn.ls N 1 (fun _ => ((1 : Int) : Rat)), Mn.mt N 2 1 kX, Mn.rat N ((0 : Int) : Rat), Mn.rat N ((4 : Int) : Rat), Mn.ls N 2 kY, Mn.rat N ((1 : Int) : Rat), Mn.rat N ((3 : Int) : Rat), Mn.ls N 2 kP, Mn.lin N 2 1 kX kY kP, Mn.blk W.heap.size (.cells #[.slice none 0 0, .slice none 0 0, .slice none 0 0] 26 (0, 0)), Mn.any] [some 12, some 13, some 14, some 15, some 16, some 17, some 18, some 19, some 20, some 21, some 22, some 23, some 3, none] [13] [true, true, true, true, true, true, true, true, true, true, true, true, true, false] 1 (by kernel_rfl) (by kernel_rfl) (by kernel_rfl) (by kernel_rfl) (by kernel_rfl) (by kernel_rfl) (by kernel_rfl) (by kernel_rfl) ?_ ?_
 ·intro i hi hl
  have hi' : i = 0 ∨ i = 1 ∨ i = 2 ∨ i = 3 ∨ i = 4 ∨ i = 5 ∨ i = 6 ∨ i = 7 ∨ i = 8 ∨ i = 9 ∨ i = 10 ∨ i = 11 ∨ i = 12 ∨ i = 13 := by have h9 : i < 14 := hi; omega
  clear hi
  rcases hi' with rfl | rfl | rfl | rfl | rfl | rfl | rfl | rfl | rfl | rfl | rfl | rfl | rfl | rfl
  ·clear hl
   refine stp rfl ?_
   intro ac wi eI hold hpre K hK
   have o1 := hold 1 (by kernel_rfl)
   simp only [List.getElem?_toArray, List.getElem?_cons_succ, List.getElem?_cons_zero] at o1
   clear hold hpre
   have cc0 := eI.cell a0
   have cc1 := eI.cell a1
   have cc2 := eI.cell a2
   have cc3 := eI.cell a3
   have cc4 := eI.cell d0
   have cc5 := eI.cell d1
   have cc6 := eI.cell d2
   have cc7 := eI.cell d3
   go_simp
   exact hK.out _ _ (Ext.refl _) ((RatV.mk hb1 g1 g2).ext eI)
  ·clear hl
   refine stp rfl ?_
   intro ac wi eI hold hpre K hK
   obtain ⟨x12, s12, j12⟩ := hpre 0 (by kernel_rfl) 12 rfl
   replace j12 : Mn.p (Mn.rat N ((1 : Int) : Rat)) x12 wi := j12
   clear hold hpre
   obtain ⟨nb, Q1, m1, l1, Q2, m2, l2, rfl, hn1, y1, y2⟩ := RatV.parts j12
   go_simp
   refine boxes1 ?_
   intro wj ej hszj BJ
   exact hK.out _ _ ej (one_rat (by have := eI.size; omega) BJ hn1 (y1.ext ej) (y2.ext ej))
  ·clear hl
   refine stp rfl ?_
   intro ac wi eI hold hpre K hK
   have o1 := hold 1 (by kernel_rfl)
   simp only [List.getElem?_toArray, List.getElem?_cons_succ, List.getElem?_cons_zero] at o1
   clear hold hpre
   have cc0 := eI.cell a0
   have cc1 := eI.cell a1
   have cc2 := eI.cell a2
   have cc3 := eI.cell a3
   have cc4 := eI.cell d0
   have cc5 := eI.cell d1
   have cc6 := eI.cell d2
   have cc7 := eI.cell d3
   go_simp
   exact hK.out _ _ (Ext.refl _) ((RatV.mk hb1 g1 g2).ext eI)
  ·clear hl
   refine stp rfl ?_
   intro ac wi eI hold hpre K hK
   obtain ⟨x14, s14, j14⟩ := hpre 2 (by kernel_rfl) 14 rfl
   replace j14 : Mn.p (Mn.rat N ((1 : Int) : Rat)) x14 wi := j14
   clear hold hpre
   obtain ⟨nb, Q1, m1, l1, Q2, m2, l2, rfl, hn1, y1, y2⟩ := RatV.parts j14
   go_simp
   refine boxes1 ?_
   intro wj ej hszj BJ
   exact hK.out _ _ ej (one_rat (by have := eI.size; omega) BJ hn1 (y1.ext ej) (y2.ext ej))
  ·clear hl
   refine stp rfl ?_
   intro ac wi eI hold hpre K hK
   obtain ⟨x13, s13, j13⟩ := hpre 1 (by kernel_rfl) 13 rfl
   replace j13 : Mn.p (Mn.ls N 1 (fun _ => ((1 : Int) : Rat))) x13 wi := j13
   obtain ⟨x15, s15, j15⟩ := hpre 3 (by kernel_rfl) 15 rfl
   replace j15 : Mn.p (Mn.ls N 1 (fun _ => ((1 : Int) : Rat))) x15 wi := j15
   clear hold hpre
   obtain ⟨Q1, l1, rfl, -⟩ := LsV.form j13
   obtain ⟨Q2, l2, rfl, -⟩ := LsV.form j15
   go_simp
   refine boxes1 ?_
   intro wj ej hszj BJ
   exact hK.out _ _ ej (two_lists BJ ((Mn.ls N 1 _).mono ej j13) ((Mn.ls N 1 _).mono ej j15))
  ·clear hl
   refine stp rfl ?_
   intro ac wi eI hold hpre K hK
   have o2 := hold 2 (by kernel_rfl)
   simp only [List.getElem?_toArray, List.getElem?_cons_succ, List.getElem?_cons_zero] at o2
   clear hold hpre
   have cc0 := eI.cell a0
   have cc1 := eI.cell a1
   have cc2 := eI.cell a2
   have cc3 := eI.cell a3
   have cc4 := eI.cell d0
   have cc5 := eI.cell d1
   have cc6 := eI.cell d2
   have cc7 := eI.cell d3
   go_simp
   exact hK.out _ _ (Ext.refl _) ((RatV.mk hb2 g3 g4).ext eI)
  ·clear hl
   refine stp rfl ?_
   intro ac wi eI hold hpre K hK
   clear hold hpre
   go_simp
   refine (r2_Whole (N := N) (by have := eI.size; omega) 4 (by omega) (by omega)).mono ?_
   rintro e wj ⟨vj, rfl, hj, ej⟩
   go_wp2_with fail
   exact hK.out _ _ ej hj
  ·clear hl
   refine stp rfl ?_
   intro ac wi eI hold hpre K hK
   obtain ⟨x17, s17, j17⟩ := hpre 5 (by kernel_rfl) 17 rfl
   replace j17 : Mn.p (Mn.rat N ((0 : Int) : Rat)) x17 wi := j17
   obtain ⟨x18, s18, j18⟩ := hpre 6 (by kernel_rfl) 18 rfl
   replace j18 : Mn.p (Mn.rat N ((4 : Int) : Rat)) x18 wi := j18
   clear hold hpre
   obtain ⟨nb, Q1, m1, l1, Q2, m2, l2, rfl, hn1, y1, y2⟩ := RatV.parts j17
   obtain ⟨nb', Q3, m3, l3, Q4, m4, l4, rfl, hn2, y3, y4⟩ := RatV.parts j18
   go_simp
   refine boxes1 ?_
   intro wj ej hszj BJ
   exact hK.out _ _ ej (two_rats (by have := eI.size; omega) BJ hn1 (y1.ext ej) (y2.ext ej) hn2 (y3.ext ej) (y4.ext ej))
  ·clear hl
   refine stp rfl ?_
   intro ac wi eI hold hpre K hK
   have o1 := hold 1 (by kernel_rfl)
   simp only [List.getElem?_toArray, List.getElem?_cons_succ, List.getElem?_cons_zero] at o1
   clear hold hpre
   have cc0 := eI.cell a0
   have cc1 := eI.cell a1
   have cc2 := eI.cell a2
   have cc3 := eI.cell a3
   have cc4 := eI.cell d0
   have cc5 := eI.cell d1
   have cc6 := eI.cell d2
   have cc7 := eI.cell d3
   go_simp
   exact hK.out _ _ (Ext.refl _) ((RatV.mk hb1 g1 g2).ext eI)
  ·clear hl
   refine stp rfl ?_
   intro ac wi eI hold hpre K hK
   clear hold hpre
   go_simp
   refine (r2_Whole (N := N) (by have := eI.size; omega) 3 (by omega) (by omega)).mono ?_
   rintro e wj ⟨vj, rfl, hj, ej⟩
   go_wp2_with fail
   exact hK.out _ _ ej hj
  ·clear hl
   refine stp rfl ?_
   intro ac wi eI hold hpre K hK
   obtain ⟨x20, s20, j20⟩ := hpre 8 (by kernel_rfl) 20 rfl
   replace j20 : Mn.p (Mn.rat N ((1 : Int) : Rat)) x20 wi := j20
   obtain ⟨x21, s21, j21⟩ := hpre 9 (by kernel_rfl) 21 rfl
   replace j21 : Mn.p (Mn.rat N ((3 : Int) : Rat)) x21 wi := j21
   clear hold hpre
   obtain ⟨nb, Q1, m1, l1, Q2, m2, l2, rfl, hn1, y1, y2⟩ := RatV.parts j20
   obtain ⟨nb', Q3, m3, l3, Q4, m4, l4, rfl, hn2, y3, y4⟩ := RatV.parts j21
   go_simp
   refine boxes1 ?_
   intro wj ej hszj BJ
   exact hK.out _ _ ej (two_rats (by have := eI.size; omega) BJ hn1 (y1.ext ej) (y2.ext ej) hn2 (y3.ext ej) (y4.ext ej))
  ·clear hl
   refine stp rfl ?_
   intro ac wi eI hold hpre K hK
   obtain ⟨x16, s16, j16⟩ := hpre 4 (by kernel_rfl) 16 rfl
   replace j16 : Mn.p (Mn.mt N 2 1 kX) x16 wi := j16
   obtain ⟨x19, s19, j19⟩ := hpre 7 (by kernel_rfl) 19 rfl
   replace j19 : Mn.p (Mn.ls N 2 kY) x19 wi := j19
   obtain ⟨x22, s22, j22⟩ := hpre 10 (by kernel_rfl) 22 rfl
   replace j22 : Mn.p (Mn.ls N 2 kP) x22 wi := j22
   clear hold hpre
   obtain ⟨Q1, l1, rfl, -⟩ := MtV.form j16
   obtain ⟨Q2, l2, rfl, -⟩ := LsV.form j19
   obtain ⟨Q3, l3, rfl, -⟩ := LsV.form j22
   go_simp
   exact hK.out _ _ (Ext.refl _) ⟨_, _, _, rfl, j16, j19, j22⟩
  ·clear hl
   refine stp rfl ?_
   intro ac wi eI hold hpre K hK
   clear hold hpre
   go_simp
   refine boxes1 ?_
   intro wj ej hszj BJ
   exact hK.out _ _ ej ⟨_, rfl, eI.size, BJ⟩
  ·exact absurd hl (by decide)
 intro vals wz eZ hJ
 have J12 : Mn.p (Mn.rat N ((1 : Int) : Rat)) (vals 0) wz := hJ 0 (by decide) (by decide)
 have J13 : Mn.p (Mn.ls N 1 (fun _ => ((1 : Int) : Rat))) (vals 1) wz := hJ 1 (by decide) (by decide)
 have J14 : Mn.p (Mn.rat N ((1 : Int) : Rat)) (vals 2) wz := hJ 2 (by decide) (by decide)
 have J15 : Mn.p (Mn.ls N 1 (fun _ => ((1 : Int) : Rat))) (vals 3) wz := hJ 3 (by decide) (by decide)
 have J16 : Mn.p (Mn.mt N 2 1 kX) (vals 4) wz := hJ 4 (by decide) (by decide)
 have J17 : Mn.p (Mn.rat N ((0 : Int) : Rat)) (vals 5) wz := hJ 5 (by decide) (by decide)
 have J18 : Mn.p (Mn.rat N ((4 : Int) : Rat)) (vals 6) wz := hJ 6 (by decide) (by decide)
 have J19 : Mn.p (Mn.ls N 2 kY) (vals 7) wz := hJ 7 (by decide) (by decide)
 have J20 : Mn.p (Mn.rat N ((1 : Int) : Rat)) (vals 8) wz := hJ 8 (by decide) (by decide)
 have J21 : Mn.p (Mn.rat N ((3 : Int) : Rat)) (vals 9) wz := hJ 9 (by decide) (by decide)
 have J22 : Mn.p (Mn.ls N 2 kP) (vals 10) wz := hJ 10 (by decide) (by decide)
 have J23 : Mn.p (Mn.lin N 2 1 kX kY kP) (vals 11) wz := hJ 11 (by decide) (by decide)
 have J3 : Mn.p (Mn.blk W.heap.size (.cells #[.slice none 0 0, .slice none 0 0, .slice none 0 0] 26 (0, 0))) (vals 12) wz := hJ 12 (by decide) (by decide)
 clear hJ
 simp only [putAll, if_true, Bool.false_eq_true, if_false, Act.put, Nat.zero_add, Nat.reduceAdd, List.setIfInBounds_toArray, List.set_cons_zero, List.set_cons_succ]
 generalize vals 0 = z12 at J12 ⊢
 generalize vals 1 = z13 at J13 ⊢
 generalize vals 2 = z14 at J14 ⊢
 generalize vals 3 = z15 at J15 ⊢
 generalize vals 4 = z16 at J16 ⊢
 generalize vals 5 = z17 at J17 ⊢
 generalize vals 6 = z18 at J18 ⊢
 generalize vals 7 = z19 at J19 ⊢
 generalize vals 8 = z20 at J20 ⊢
 generalize vals 9 = z21 at J21 ⊢
 generalize vals 10 = z22 at J22 ⊢
 generalize vals 11 = z23 at J23 ⊢
 generalize vals 12 = z3 at J3 ⊢
 clear a0 a1 a2 a3 d0 d1 d2 d3
 obtain ⟨g, rfl, hg, BG⟩ := J3
 obtain ⟨v1, v2, v3, rfl, m1, l2, l3⟩ := J23
 obtain ⟨Q1, q1, rfl, hq1⟩ := MtV.form m1
 obtain ⟨Q2, q2, rfl, hq2⟩ := LsV.form l2
 obtain ⟨Q3, q3, rfl, hq3⟩ := LsV.form l3
 obtain ⟨r0, r1, r2, r3, r4, r5⟩ := cells3 BG
 refine stepL_late (i := 13) rfl (by kernel_rfl) (by kernel_rfl) (fun K hK => ?_)
 go_simp
 refine hK.out _ _ ?_
 clear hK K
 try simp only [nr]
 refine stepL_done (by kernel_rfl) ?_ _
 clear r0 r1 r2 r3 r4 r5
 obtain ⟨w4, E4, D0, U⟩ := ex3 BG (.slice Q1 2 q1) (.slice Q2 2 q2) (.slice Q3 2 q3)
 rw [E4]
 have hT := NoU.mk BG (by decide)
 have hc : ∀ o b, wz.cell? ⟨g, o, none⟩ ≠ some (.bool b) := by
  intro o b h
  rw [cell_blk BG] at h
  rcases o with _ | _ | _ | o <;> simp at h
 have hc2 : ∀ o A k c, 0 < k → wz.cell? ⟨g, o, none⟩ ≠ some (.slice A k c) := by
  intro o A k c hk h
  rw [cell_blk BG] at h
  rcases o with _ | _ | _ | o
  all_goals simp at h
  all_goals (obtain ⟨-, h, -⟩ := h; omega)
 have M1 := MtR.upd0 m1 U (by omega) hT hc hc2 (fun _ _ => by omega)
 have L2 := LsR.upd0 l2 U (by omega) hT hc
 have L3 := LsR.upd0 l3 U (by omega) hT hc
 have e4 := U.ext eZ hg
 have hE4 := hE.trans e4
 replace B1 := e4.block B1
 clear J12 J13 J14 J15 J16 J17 J18 J19 J20 J21 J22 m1 l2 l3 U hT hc hc2 E4 BG eZ g3 g4
 generalize wz.heap.size = hz at M1 L2 L3
 obtain ⟨r0, r1, r2, -⟩ := cells3 D0
 go_wp2_with (go_at_call 26; refine Hid.out ?_)
 refine (rl_Redundancy M1 L2 L3 (by omega) (by omega) (by omega) (by omega) kP_pos k_bnd kX_ht kY_ht kP_ht (by omega)).mono ?_
 rintro e w5 ⟨A5, c5, rfl, h5, e5⟩
 replace h5 : LsV N _ _ w5 (.slice A5 2 c5) 2 kR := h5
 have M1' := MtV.ext M1 e5
 have L2' := LsV.ext L2 e5
 have L3' := LsV.ext L3 e5
 clear r0 r1 r2
 obtain ⟨r0, r1, r2, -⟩ := cells3 (e5.block D0)
 go_wp2_with (go_at_call 13; refine Hid.out ?_)
 refine (rl_Factor (kv := 10000) M1' L2' L3' (by omega) (by omega) (by omega) (by omega) kP_pos k_bnd kX_ht kY_ht kP_ht (by omega) (by omega) kV rfl).mono ?_
 rintro e w6 ⟨e6, hh⟩
 rcases hh with ⟨h0, -⟩ | ⟨-, v6, rfl, h6⟩
 ·rw [k_rank] at h0; exact absurd h0 (by omega)
 rw [k_fac] at h6
 have h5' := LsV.ext h5 e6
 have hE6 := (hE4.trans e5).trans e6
 replace g1 := ((g1.ext e4).ext e5).ext e6
 replace g2 := ((g2.ext e4).ext e5).ext e6
 replace B1 := e6.block (e5.block B1)
 clear r0 r1 r2 M1 L2 L3 M1' L2' L3' h5 D0 e5 e6
 obtain ⟨nb, Q5, m5, l5, Q6, m6, l6, rfl, hn1, y1, y2⟩ := RatV.parts h6
 go_wp2_with (go_at_call 51; refine Hid.out ?_)
 refine boxesC1 ?_
 intro w7 e7 hsz7 B7
 have hE7 := hE6.trans e7
 have hs7 := hE7.size
 refine (rl_Rank_bad (N := N) (lo := 0) (hi := 0) (Z := kZ) ⟨_, _, _, rfl, ⟨by omega, Nat.zero_le _, none, 0, rfl, Nat.le_refl _, Nat.zero_le _, fun h => absurd h (by decide)⟩, ⟨by omega, Nat.zero_le _, none, 0, rfl, Nat.le_refl _, Nat.zero_le _, fun h => absurd h (by decide)⟩, ⟨by omega, Nat.zero_le _, none, 0, rfl, Nat.le_refl _, Nat.zero_le _, fun h => absurd h (by decide)⟩⟩ ⟨fun i hi => absurd hi (by show ¬ i < 0; omega), fun i hi => absurd hi (by show ¬ i < 0; omega), fun i hi => absurd hi (by show ¬ i < 0; omega)⟩ (fun i hi => absurd hi (by show ¬ i < 0; omega)) (by rw [kZ_code]; decide)).mono ?_
 rintro e w8 ⟨rfl, e8⟩
 rw [kZ_code]
 have e78 := e7.trans e8
 have h58 := LsV.ext h5' e78
 have hE8 := hE6.trans e78
 have hN8 : N ≤ w8.heap.size := by have := hE8.size; omega
 replace B1 := e78.block B1
 replace B7 := e8.block B7
 replace g1 := g1.ext e78
 replace g2 := g2.ext e78
 replace y1 := y1.ext e78
 replace y2 := y2.ext e78
 clear h5' e7 e8 e78 h6
 obtain ⟨b, off, rfl, -, -, hx⟩ := LsV.addr h58 (by omega)
 obtain ⟨n3, A13, k13, c13, A14, k14, c14, p0, p1, p2, p3, hb3, z1, z2⟩ := (hx 0 (by omega)).open
 obtain ⟨n4, A15, k15, c15, A16, k16, c16, t0, t1, t2, t3, hb4, z3, z4⟩ := (hx 1 (by omega)).open
 clear hx h58
 rw [Nat.zero_mul, Nat.add_zero] at p0 p1 p2 p3
 rw [Nat.one_mul] at t0 t1 t2 t3
 obtain ⟨a0, a1, a2, a3, -⟩ := cells4 B1
 obtain ⟨d0, d1, d2, d3, -⟩ := cells4 B7
 go_upto_region 6 with (fail)
 have HSR : Hid (Sz (kR 0) ∧ Sz (kR 1) ∧ Sz (kR 0 + kR 1)) := ⟨kR_ht.1.sz (by omega), kR_ht.2.sz (by omega), (kR_ht.1.add kR_ht.2).sz (by omega)⟩
 have HS12 : Hid (Sz ((12 : Int) : Rat)) := (ht_nat 12 4 (by decide) (by omega)).sz (by omega)
 have HSUM := Lib.hid k_sum
 obtain ⟨R0, hR0⟩ := hid_eq (kR 0)
 obtain ⟨R1, hR1⟩ := hid_eq (kR 1)
 rw [← hR0.out] at hb3 z1 z2 HSR HSUM
 rw [← hR1.out] at hb4 z3 z4 HSR HSUM
 refine region_inv [Mn.eq (.int .i64 0), Mn.eq (.bool true), Mn.eq (.bool true), Mn.eq (.slice (some ⟨b, off, none⟩) 2 c5), Mn.eq (.int .i64 2), Mn.eq (.bool true), Mn.eq (.bool true), Mn.eq (.bool true), Mn.eq (.slice (some ⟨b, off, none⟩) 2 c5), Mn.eq (.pointer (some ⟨b, off, none⟩)), Mn.rat N R0, Mn.eq (.slice (some ⟨b, off, none⟩) 2 c5), Mn.eq (.pointer (some ⟨b, off + 4, none⟩)), Mn.rat N R1, Mn.rat N (R0 + R1), Mn.rat N ((1 : Int) : Rat), Mn.eq (.bool true), Mn.eq (.bool true), Mn.eq (.bool true), Mn.eq (.int .i64 0), Mn.eq (.bool true), Mn.eq (.bool true), Mn.eq (.bool true), Mn.rat N ((12 : Int) : Rat), Mn.rat N ((12 : Int) : Rat), Mn.eq (.bool true), Mn.eq (.bool true), Mn.eq (.bool true), Mn.eq (.int .i64 3), Mn.eq (.bool true), Mn.eq (.bool true), Mn.eq (.bool true)] [some 39, some 40, some 41, some 42, some 43, some 44, some 45, some 46, some 47, some 48, some 49, some 50, some 51, some 52, some 53, some 54, some 55, some 56, some 57, some 58, some 59, some 60, some 61, some 62, some 63, some 64, some 65, some 66, some 67, some 68, some 69, some 0] [] [true, true, true, true, true, true, true, true, true, true, true, true, true, true, true, true, true, true, true, true, true, true, true, true, true, true, true, true, true, true, true, true] 0 (by kernel_rfl) (by kernel_rfl) (by kernel_rfl) (by kernel_rfl) (by kernel_rfl) (by kernel_rfl) (by kernel_rfl) (by kernel_rfl) ?_ ?_
 ·intro i hi hl
  have hi' : i = 0 ∨ i = 1 ∨ i = 2 ∨ i = 3 ∨ i = 4 ∨ i = 5 ∨ i = 6 ∨ i = 7 ∨ i = 8 ∨ i = 9 ∨ i = 10 ∨ i = 11 ∨ i = 12 ∨ i = 13 ∨ i = 14 ∨ i = 15 ∨ i = 16 ∨ i = 17 ∨ i = 18 ∨ i = 19 ∨ i = 20 ∨ i = 21 ∨ i = 22 ∨ i = 23 ∨ i = 24 ∨ i = 25 ∨ i = 26 ∨ i = 27 ∨ i = 28 ∨ i = 29 ∨ i = 30 ∨ i = 31 := by have h9 : i < 32 := hi; omega
  clear hi
  rcases hi' with rfl | rfl | rfl | rfl | rfl | rfl | rfl | rfl | rfl | rfl | rfl | rfl | rfl | rfl | rfl | rfl | rfl | rfl | rfl | rfl | rfl | rfl | rfl | rfl | rfl | rfl | rfl | rfl | rfl | rfl | rfl | rfl
  ·clear hl
   refine stp rfl ?_
   intro ac wi eI hold hpre K hK
   have o5 := hold 5 (by kernel_rfl)
   simp only [List.getElem?_toArray, List.getElem?_cons_succ, List.getElem?_cons_zero] at o5
   clear hold hpre
   go_simp
   exact hK.out _ _ (Ext.refl _) rfl
  ·clear hl
   refine stp rfl ?_
   intro ac wi eI hold hpre K hK
   obtain ⟨x39, s39, j39⟩ := hpre 0 (by kernel_rfl) 39 rfl
   obtain rfl : x39 = (.int .i64 0) := j39
   clear hold hpre
   go_simp
   exact hK.out _ _ (Ext.refl _) rfl
  ·clear hl
   refine stp rfl ?_
   intro ac wi eI hold hpre K hK
   obtain ⟨x40, s40, j40⟩ := hpre 1 (by kernel_rfl) 40 rfl
   obtain rfl : x40 = (.bool true) := j40
   clear hold hpre
   go_simp
   exact hK.out _ _ (Ext.refl _) rfl
  ·clear hl
   refine stp rfl ?_
   intro ac wi eI hold hpre K hK
   obtain ⟨x41, s41, j41⟩ := hpre 2 (by kernel_rfl) 41 rfl
   obtain rfl : x41 = (.bool true) := j41
   have o4 := hold 4 (by kernel_rfl)
   simp only [List.getElem?_toArray, List.getElem?_cons_succ, List.getElem?_cons_zero] at o4
   clear hold hpre
   rw [if_pos (by simp [Region.wanted, yielded, s41])]
   go_simp
   exact hK.out _ _ (Ext.refl _) rfl
  ·clear hl
   refine stp rfl ?_
   intro ac wi eI hold hpre K hK
   obtain ⟨x41, s41, j41⟩ := hpre 2 (by kernel_rfl) 41 rfl
   obtain rfl : x41 = (.bool true) := j41
   obtain ⟨x42, s42, j42⟩ := hpre 3 (by kernel_rfl) 42 rfl
   obtain rfl : x42 = (.slice (some ⟨b, off, none⟩) 2 c5) := j42
   clear hold hpre
   rw [if_pos (by simp [Region.wanted, yielded, s41])]
   go_simp
   exact hK.out _ _ (Ext.refl _) rfl
  ·clear hl
   refine stp rfl ?_
   intro ac wi eI hold hpre K hK
   obtain ⟨x41, s41, j41⟩ := hpre 2 (by kernel_rfl) 41 rfl
   obtain rfl : x41 = (.bool true) := j41
   obtain ⟨x43, s43, j43⟩ := hpre 4 (by kernel_rfl) 43 rfl
   obtain rfl : x43 = (.int .i64 2) := j43
   clear hold hpre
   rw [if_pos (by simp [Region.wanted, yielded, s41])]
   go_simp
   exact hK.out _ _ (Ext.refl _) rfl
  ·clear hl
   refine stp rfl ?_
   intro ac wi eI hold hpre K hK
   obtain ⟨x41, s41, j41⟩ := hpre 2 (by kernel_rfl) 41 rfl
   obtain rfl : x41 = (.bool true) := j41
   obtain ⟨x44, s44, j44⟩ := hpre 5 (by kernel_rfl) 44 rfl
   obtain rfl : x44 = (.bool true) := j44
   clear hold hpre
   go_simp
   exact hK.out _ _ (Ext.refl _) rfl
  ·clear hl
   refine stp rfl ?_
   intro ac wi eI hold hpre K hK
   obtain ⟨x45, s45, j45⟩ := hpre 6 (by kernel_rfl) 45 rfl
   obtain rfl : x45 = (.bool true) := j45
   clear hold hpre
   go_simp
   exact hK.out _ _ (Ext.refl _) rfl
  ·clear hl
   refine stp rfl ?_
   intro ac wi eI hold hpre K hK
   obtain ⟨x46, s46, j46⟩ := hpre 7 (by kernel_rfl) 46 rfl
   obtain rfl : x46 = (.bool true) := j46
   have o4 := hold 4 (by kernel_rfl)
   simp only [List.getElem?_toArray, List.getElem?_cons_succ, List.getElem?_cons_zero] at o4
   clear hold hpre
   rw [if_pos (by simp [Region.wanted, yielded, s46])]
   go_simp
   exact hK.out _ _ (Ext.refl _) rfl
  ·clear hl
   refine stp rfl ?_
   intro ac wi eI hold hpre K hK
   obtain ⟨x46, s46, j46⟩ := hpre 7 (by kernel_rfl) 46 rfl
   obtain rfl : x46 = (.bool true) := j46
   obtain ⟨x47, s47, j47⟩ := hpre 8 (by kernel_rfl) 47 rfl
   obtain rfl : x47 = (.slice (some ⟨b, off, none⟩) 2 c5) := j47
   clear hold hpre
   rw [if_pos (by simp [Region.wanted, yielded, s46])]
   go_simp
   exact hK.out _ _ (Ext.refl _) rfl
  ·clear hl
   refine stp rfl ?_
   intro ac wi eI hold hpre K hK
   obtain ⟨x46, s46, j46⟩ := hpre 7 (by kernel_rfl) 46 rfl
   obtain rfl : x46 = (.bool true) := j46
   obtain ⟨x48, s48, j48⟩ := hpre 9 (by kernel_rfl) 48 rfl
   obtain rfl : x48 = (.pointer (some ⟨b, off, none⟩)) := j48
   clear hold hpre
   rw [if_pos (by simp [Region.wanted, yielded, s46])]
   have cc0 := eI.cell a0
   have cc1 := eI.cell a1
   have cc2 := eI.cell a2
   have cc3 := eI.cell a3
   have cc4 := eI.cell d0
   have cc5 := eI.cell d1
   have cc6 := eI.cell d2
   have cc7 := eI.cell d3
   have cc8 := eI.cell p0
   have cc9 := eI.cell p1
   have cc10 := eI.cell p2
   have cc11 := eI.cell p3
   have cc12 := eI.cell t0
   have cc13 := eI.cell t1
   have cc14 := eI.cell t2
   have cc15 := eI.cell t3
   go_simp
   exact hK.out _ _ (Ext.refl _) ((RatV.mk hb3 z1 z2).ext eI)
  ·clear hl
   refine stp rfl ?_
   intro ac wi eI hold hpre K hK
   obtain ⟨x46, s46, j46⟩ := hpre 7 (by kernel_rfl) 46 rfl
   obtain rfl : x46 = (.bool true) := j46
   have o4 := hold 4 (by kernel_rfl)
   simp only [List.getElem?_toArray, List.getElem?_cons_succ, List.getElem?_cons_zero] at o4
   clear hold hpre
   rw [if_pos (by simp [Region.wanted, yielded, s46])]
   go_simp
   exact hK.out _ _ (Ext.refl _) rfl
  ·clear hl
   refine stp rfl ?_
   intro ac wi eI hold hpre K hK
   obtain ⟨x46, s46, j46⟩ := hpre 7 (by kernel_rfl) 46 rfl
   obtain rfl : x46 = (.bool true) := j46
   obtain ⟨x50, s50, j50⟩ := hpre 11 (by kernel_rfl) 50 rfl
   obtain rfl : x50 = (.slice (some ⟨b, off, none⟩) 2 c5) := j50
   clear hold hpre
   rw [if_pos (by simp [Region.wanted, yielded, s46])]
   go_simp
   exact hK.out _ _ (Ext.refl _) rfl
  ·clear hl
   refine stp rfl ?_
   intro ac wi eI hold hpre K hK
   obtain ⟨x46, s46, j46⟩ := hpre 7 (by kernel_rfl) 46 rfl
   obtain rfl : x46 = (.bool true) := j46
   obtain ⟨x51, s51, j51⟩ := hpre 12 (by kernel_rfl) 51 rfl
   obtain rfl : x51 = (.pointer (some ⟨b, off + 4, none⟩)) := j51
   clear hold hpre
   rw [if_pos (by simp [Region.wanted, yielded, s46])]
   have cc0 := eI.cell a0
   have cc1 := eI.cell a1
   have cc2 := eI.cell a2
   have cc3 := eI.cell a3
   have cc4 := eI.cell d0
   have cc5 := eI.cell d1
   have cc6 := eI.cell d2
   have cc7 := eI.cell d3
   have cc8 := eI.cell p0
   have cc9 := eI.cell p1
   have cc10 := eI.cell p2
   have cc11 := eI.cell p3
   have cc12 := eI.cell t0
   have cc13 := eI.cell t1
   have cc14 := eI.cell t2
   have cc15 := eI.cell t3
   go_simp
   exact hK.out _ _ (Ext.refl _) ((RatV.mk hb4 z3 z4).ext eI)
  ·clear hl
   refine stp rfl ?_
   intro ac wi eI hold hpre K hK
   obtain ⟨x46, s46, j46⟩ := hpre 7 (by kernel_rfl) 46 rfl
   obtain rfl : x46 = (.bool true) := j46
   obtain ⟨x49, s49, j49⟩ := hpre 10 (by kernel_rfl) 49 rfl
   replace j49 : Mn.p (Mn.rat N R0) x49 wi := j49
   obtain ⟨x52, s52, j52⟩ := hpre 13 (by kernel_rfl) 52 rfl
   replace j52 : Mn.p (Mn.rat N R1) x52 wi := j52
   clear hold hpre
   rw [if_pos (by simp [Region.wanted, yielded, s46])]
   go_simp
   refine (r2_add j49 j52 HSR.out.1 HSR.out.2.1).mono ?_
   rintro e wj ⟨vj, rfl, hj, ej⟩
   go_wp2_with fail
   exact hK.out _ _ ej hj
  ·clear hl
   refine stp rfl ?_
   intro ac wi eI hold hpre K hK
   obtain ⟨x46, s46, j46⟩ := hpre 7 (by kernel_rfl) 46 rfl
   obtain rfl : x46 = (.bool true) := j46
   have o1 := hold 1 (by kernel_rfl)
   simp only [List.getElem?_toArray, List.getElem?_cons_succ, List.getElem?_cons_zero] at o1
   clear hold hpre
   rw [if_pos (by simp [Region.wanted, yielded, s46])]
   have cc0 := eI.cell a0
   have cc1 := eI.cell a1
   have cc2 := eI.cell a2
   have cc3 := eI.cell a3
   have cc4 := eI.cell d0
   have cc5 := eI.cell d1
   have cc6 := eI.cell d2
   have cc7 := eI.cell d3
   have cc8 := eI.cell p0
   have cc9 := eI.cell p1
   have cc10 := eI.cell p2
   have cc11 := eI.cell p3
   have cc12 := eI.cell t0
   have cc13 := eI.cell t1
   have cc14 := eI.cell t2
   have cc15 := eI.cell t3
   go_simp
   exact hK.out _ _ (Ext.refl _) ((RatV.mk hb1 g1 g2).ext eI)
  ·clear hl
   refine stp rfl ?_
   intro ac wi eI hold hpre K hK
   obtain ⟨x46, s46, j46⟩ := hpre 7 (by kernel_rfl) 46 rfl
   obtain rfl : x46 = (.bool true) := j46
   obtain ⟨x53, s53, j53⟩ := hpre 14 (by kernel_rfl) 53 rfl
   replace j53 : Mn.p (Mn.rat N (R0 + R1)) x53 wi := j53
   obtain ⟨x54, s54, j54⟩ := hpre 15 (by kernel_rfl) 54 rfl
   replace j54 : Mn.p (Mn.rat N ((1 : Int) : Rat)) x54 wi := j54
   clear hold hpre
   rw [if_pos (by simp [Region.wanted, yielded, s46])]
   go_simp
   refine (r2_same j53 j54 HSR.out.2.2 HSUM.out).mono ?_
   rintro e wj ⟨rfl, ej⟩
   go_wp2_with fail
   exact hK.out _ _ ej rfl
  ·clear hl
   refine stp rfl ?_
   intro ac wi eI hold hpre K hK
   obtain ⟨x46, s46, j46⟩ := hpre 7 (by kernel_rfl) 46 rfl
   obtain rfl : x46 = (.bool true) := j46
   obtain ⟨x55, s55, j55⟩ := hpre 16 (by kernel_rfl) 55 rfl
   obtain rfl : x55 = (.bool true) := j55
   clear hold hpre
   go_simp
   exact hK.out _ _ (Ext.refl _) rfl
  ·clear hl
   refine stp rfl ?_
   intro ac wi eI hold hpre K hK
   obtain ⟨x56, s56, j56⟩ := hpre 17 (by kernel_rfl) 56 rfl
   obtain rfl : x56 = (.bool true) := j56
   clear hold hpre
   go_simp
   exact hK.out _ _ (Ext.refl _) rfl
  ·clear hl
   refine stp rfl ?_
   intro ac wi eI hold hpre K hK
   obtain ⟨x57, s57, j57⟩ := hpre 18 (by kernel_rfl) 57 rfl
   obtain rfl : x57 = (.bool true) := j57
   have o7 := hold 7 (by kernel_rfl)
   simp only [List.getElem?_toArray, List.getElem?_cons_succ, List.getElem?_cons_zero] at o7
   clear hold hpre
   rw [if_pos (by simp [Region.wanted, yielded, s57])]
   go_simp
   exact hK.out _ _ (Ext.refl _) rfl
  ·clear hl
   refine stp rfl ?_
   intro ac wi eI hold hpre K hK
   obtain ⟨x57, s57, j57⟩ := hpre 18 (by kernel_rfl) 57 rfl
   obtain rfl : x57 = (.bool true) := j57
   obtain ⟨x58, s58, j58⟩ := hpre 19 (by kernel_rfl) 58 rfl
   obtain rfl : x58 = (.int .i64 0) := j58
   clear hold hpre
   rw [if_pos (by simp [Region.wanted, yielded, s57])]
   go_simp
   exact hK.out _ _ (Ext.refl _) rfl
  ·clear hl
   refine stp rfl ?_
   intro ac wi eI hold hpre K hK
   obtain ⟨x57, s57, j57⟩ := hpre 18 (by kernel_rfl) 57 rfl
   obtain rfl : x57 = (.bool true) := j57
   obtain ⟨x59, s59, j59⟩ := hpre 20 (by kernel_rfl) 59 rfl
   obtain rfl : x59 = (.bool true) := j59
   clear hold hpre
   go_simp
   exact hK.out _ _ (Ext.refl _) rfl
  ·clear hl
   refine stp rfl ?_
   intro ac wi eI hold hpre K hK
   obtain ⟨x60, s60, j60⟩ := hpre 21 (by kernel_rfl) 60 rfl
   obtain rfl : x60 = (.bool true) := j60
   clear hold hpre
   go_simp
   exact hK.out _ _ (Ext.refl _) rfl
  ·clear hl
   refine stp rfl ?_
   intro ac wi eI hold hpre K hK
   obtain ⟨x61, s61, j61⟩ := hpre 22 (by kernel_rfl) 61 rfl
   obtain rfl : x61 = (.bool true) := j61
   have o6 := hold 6 (by kernel_rfl)
   simp only [List.getElem?_toArray, List.getElem?_cons_succ, List.getElem?_cons_zero] at o6
   clear hold hpre
   rw [if_pos (by simp [Region.wanted, yielded, s61])]
   have cc0 := eI.cell a0
   have cc1 := eI.cell a1
   have cc2 := eI.cell a2
   have cc3 := eI.cell a3
   have cc4 := eI.cell d0
   have cc5 := eI.cell d1
   have cc6 := eI.cell d2
   have cc7 := eI.cell d3
   have cc8 := eI.cell p0
   have cc9 := eI.cell p1
   have cc10 := eI.cell p2
   have cc11 := eI.cell p3
   have cc12 := eI.cell t0
   have cc13 := eI.cell t1
   have cc14 := eI.cell t2
   have cc15 := eI.cell t3
   go_simp
   exact hK.out _ _ (Ext.refl _) ((RatV.mk hn1 y1 y2).ext eI)
  ·clear hl
   refine stp rfl ?_
   intro ac wi eI hold hpre K hK
   obtain ⟨x61, s61, j61⟩ := hpre 22 (by kernel_rfl) 61 rfl
   obtain rfl : x61 = (.bool true) := j61
   clear hold hpre
   rw [if_pos (by simp [Region.wanted, yielded, s61])]
   go_simp
   refine (r2_Whole (N := N) (by have := eI.size; omega) 12 (by omega) (by omega)).mono ?_
   rintro e wj ⟨vj, rfl, hj, ej⟩
   go_wp2_with fail
   exact hK.out _ _ ej hj
  ·clear hl
   refine stp rfl ?_
   intro ac wi eI hold hpre K hK
   obtain ⟨x61, s61, j61⟩ := hpre 22 (by kernel_rfl) 61 rfl
   obtain rfl : x61 = (.bool true) := j61
   obtain ⟨x62, s62, j62⟩ := hpre 23 (by kernel_rfl) 62 rfl
   replace j62 : Mn.p (Mn.rat N ((12 : Int) : Rat)) x62 wi := j62
   obtain ⟨x63, s63, j63⟩ := hpre 24 (by kernel_rfl) 63 rfl
   replace j63 : Mn.p (Mn.rat N ((12 : Int) : Rat)) x63 wi := j63
   clear hold hpre
   rw [if_pos (by simp [Region.wanted, yielded, s61])]
   go_simp
   refine (r2_same j62 j63 HS12.out rfl).mono ?_
   rintro e wj ⟨rfl, ej⟩
   go_wp2_with fail
   exact hK.out _ _ ej rfl
  ·clear hl
   refine stp rfl ?_
   intro ac wi eI hold hpre K hK
   obtain ⟨x61, s61, j61⟩ := hpre 22 (by kernel_rfl) 61 rfl
   obtain rfl : x61 = (.bool true) := j61
   obtain ⟨x64, s64, j64⟩ := hpre 25 (by kernel_rfl) 64 rfl
   obtain rfl : x64 = (.bool true) := j64
   clear hold hpre
   go_simp
   exact hK.out _ _ (Ext.refl _) rfl
  ·clear hl
   refine stp rfl ?_
   intro ac wi eI hold hpre K hK
   obtain ⟨x65, s65, j65⟩ := hpre 26 (by kernel_rfl) 65 rfl
   obtain rfl : x65 = (.bool true) := j65
   clear hold hpre
   go_simp
   exact hK.out _ _ (Ext.refl _) rfl
  ·clear hl
   refine stp rfl ?_
   intro ac wi eI hold hpre K hK
   obtain ⟨x66, s66, j66⟩ := hpre 27 (by kernel_rfl) 66 rfl
   obtain rfl : x66 = (.bool true) := j66
   have o9 := hold 9 (by kernel_rfl)
   simp only [List.getElem?_toArray, List.getElem?_cons_succ, List.getElem?_cons_zero] at o9
   clear hold hpre
   rw [if_pos (by simp [Region.wanted, yielded, s66])]
   go_simp
   exact hK.out _ _ (Ext.refl _) rfl
  ·clear hl
   refine stp rfl ?_
   intro ac wi eI hold hpre K hK
   obtain ⟨x66, s66, j66⟩ := hpre 27 (by kernel_rfl) 66 rfl
   obtain rfl : x66 = (.bool true) := j66
   obtain ⟨x67, s67, j67⟩ := hpre 28 (by kernel_rfl) 67 rfl
   obtain rfl : x67 = (.int .i64 3) := j67
   clear hold hpre
   rw [if_pos (by simp [Region.wanted, yielded, s66])]
   go_simp
   exact hK.out _ _ (Ext.refl _) rfl
  ·clear hl
   refine stp rfl ?_
   intro ac wi eI hold hpre K hK
   obtain ⟨x66, s66, j66⟩ := hpre 27 (by kernel_rfl) 66 rfl
   obtain rfl : x66 = (.bool true) := j66
   obtain ⟨x68, s68, j68⟩ := hpre 29 (by kernel_rfl) 68 rfl
   obtain rfl : x68 = (.bool true) := j68
   clear hold hpre
   go_simp
   exact hK.out _ _ (Ext.refl _) rfl
  ·clear hl
   refine stp rfl ?_
   intro ac wi eI hold hpre K hK
   obtain ⟨x69, s69, j69⟩ := hpre 30 (by kernel_rfl) 69 rfl
   obtain rfl : x69 = (.bool true) := j69
   clear hold hpre
   go_simp
   exact hK.out _ _ (Ext.refl _) rfl
 intro vals wz eZ hJ
 have J39 : Mn.p (Mn.eq (.int .i64 0)) (vals 0) wz := hJ 0 (by decide) (by decide)
 have J40 : Mn.p (Mn.eq (.bool true)) (vals 1) wz := hJ 1 (by decide) (by decide)
 have J41 : Mn.p (Mn.eq (.bool true)) (vals 2) wz := hJ 2 (by decide) (by decide)
 have J42 : Mn.p (Mn.eq (.slice (some ⟨b, off, none⟩) 2 c5)) (vals 3) wz := hJ 3 (by decide) (by decide)
 have J43 : Mn.p (Mn.eq (.int .i64 2)) (vals 4) wz := hJ 4 (by decide) (by decide)
 have J44 : Mn.p (Mn.eq (.bool true)) (vals 5) wz := hJ 5 (by decide) (by decide)
 have J45 : Mn.p (Mn.eq (.bool true)) (vals 6) wz := hJ 6 (by decide) (by decide)
 have J46 : Mn.p (Mn.eq (.bool true)) (vals 7) wz := hJ 7 (by decide) (by decide)
 have J47 : Mn.p (Mn.eq (.slice (some ⟨b, off, none⟩) 2 c5)) (vals 8) wz := hJ 8 (by decide) (by decide)
 have J48 : Mn.p (Mn.eq (.pointer (some ⟨b, off, none⟩))) (vals 9) wz := hJ 9 (by decide) (by decide)
 have J49 : Mn.p (Mn.rat N R0) (vals 10) wz := hJ 10 (by decide) (by decide)
 have J50 : Mn.p (Mn.eq (.slice (some ⟨b, off, none⟩) 2 c5)) (vals 11) wz := hJ 11 (by decide) (by decide)
 have J51 : Mn.p (Mn.eq (.pointer (some ⟨b, off + 4, none⟩))) (vals 12) wz := hJ 12 (by decide) (by decide)
 have J52 : Mn.p (Mn.rat N R1) (vals 13) wz := hJ 13 (by decide) (by decide)
 have J53 : Mn.p (Mn.rat N (R0 + R1)) (vals 14) wz := hJ 14 (by decide) (by decide)
 have J54 : Mn.p (Mn.rat N ((1 : Int) : Rat)) (vals 15) wz := hJ 15 (by decide) (by decide)
 have J55 : Mn.p (Mn.eq (.bool true)) (vals 16) wz := hJ 16 (by decide) (by decide)
 have J56 : Mn.p (Mn.eq (.bool true)) (vals 17) wz := hJ 17 (by decide) (by decide)
 have J57 : Mn.p (Mn.eq (.bool true)) (vals 18) wz := hJ 18 (by decide) (by decide)
 have J58 : Mn.p (Mn.eq (.int .i64 0)) (vals 19) wz := hJ 19 (by decide) (by decide)
 have J59 : Mn.p (Mn.eq (.bool true)) (vals 20) wz := hJ 20 (by decide) (by decide)
 have J60 : Mn.p (Mn.eq (.bool true)) (vals 21) wz := hJ 21 (by decide) (by decide)
 have J61 : Mn.p (Mn.eq (.bool true)) (vals 22) wz := hJ 22 (by decide) (by decide)
 have J62 : Mn.p (Mn.rat N ((12 : Int) : Rat)) (vals 23) wz := hJ 23 (by decide) (by decide)
 have J63 : Mn.p (Mn.rat N ((12 : Int) : Rat)) (vals 24) wz := hJ 24 (by decide) (by decide)
 have J64 : Mn.p (Mn.eq (.bool true)) (vals 25) wz := hJ 25 (by decide) (by decide)
 have J65 : Mn.p (Mn.eq (.bool true)) (vals 26) wz := hJ 26 (by decide) (by decide)
 have J66 : Mn.p (Mn.eq (.bool true)) (vals 27) wz := hJ 27 (by decide) (by decide)
 have J67 : Mn.p (Mn.eq (.int .i64 3)) (vals 28) wz := hJ 28 (by decide) (by decide)
 have J68 : Mn.p (Mn.eq (.bool true)) (vals 29) wz := hJ 29 (by decide) (by decide)
 have J69 : Mn.p (Mn.eq (.bool true)) (vals 30) wz := hJ 30 (by decide) (by decide)
 have J0 : Mn.p (Mn.eq (.bool true)) (vals 31) wz := hJ 31 (by decide) (by decide)
 clear hJ
 simp only [putAll, if_true, Bool.false_eq_true, if_false, Act.put, Nat.zero_add, Nat.reduceAdd, List.setIfInBounds_toArray, List.set_cons_zero, List.set_cons_succ]
 generalize vals 0 = z39 at J39 ⊢
 obtain rfl : z39 = (.int .i64 0) := J39
 generalize vals 1 = z40 at J40 ⊢
 obtain rfl : z40 = (.bool true) := J40
 generalize vals 2 = z41 at J41 ⊢
 obtain rfl : z41 = (.bool true) := J41
 generalize vals 3 = z42 at J42 ⊢
 obtain rfl : z42 = (.slice (some ⟨b, off, none⟩) 2 c5) := J42
 generalize vals 4 = z43 at J43 ⊢
 obtain rfl : z43 = (.int .i64 2) := J43
 generalize vals 5 = z44 at J44 ⊢
 obtain rfl : z44 = (.bool true) := J44
 generalize vals 6 = z45 at J45 ⊢
 obtain rfl : z45 = (.bool true) := J45
 generalize vals 7 = z46 at J46 ⊢
 obtain rfl : z46 = (.bool true) := J46
 generalize vals 8 = z47 at J47 ⊢
 obtain rfl : z47 = (.slice (some ⟨b, off, none⟩) 2 c5) := J47
 generalize vals 9 = z48 at J48 ⊢
 obtain rfl : z48 = (.pointer (some ⟨b, off, none⟩)) := J48
 generalize vals 10 = z49 at J49 ⊢
 generalize vals 11 = z50 at J50 ⊢
 obtain rfl : z50 = (.slice (some ⟨b, off, none⟩) 2 c5) := J50
 generalize vals 12 = z51 at J51 ⊢
 obtain rfl : z51 = (.pointer (some ⟨b, off + 4, none⟩)) := J51
 generalize vals 13 = z52 at J52 ⊢
 generalize vals 14 = z53 at J53 ⊢
 generalize vals 15 = z54 at J54 ⊢
 generalize vals 16 = z55 at J55 ⊢
 obtain rfl : z55 = (.bool true) := J55
 generalize vals 17 = z56 at J56 ⊢
 obtain rfl : z56 = (.bool true) := J56
 generalize vals 18 = z57 at J57 ⊢
 obtain rfl : z57 = (.bool true) := J57
 generalize vals 19 = z58 at J58 ⊢
 obtain rfl : z58 = (.int .i64 0) := J58
 generalize vals 20 = z59 at J59 ⊢
 obtain rfl : z59 = (.bool true) := J59
 generalize vals 21 = z60 at J60 ⊢
 obtain rfl : z60 = (.bool true) := J60
 generalize vals 22 = z61 at J61 ⊢
 obtain rfl : z61 = (.bool true) := J61
 generalize vals 23 = z62 at J62 ⊢
 generalize vals 24 = z63 at J63 ⊢
 generalize vals 25 = z64 at J64 ⊢
 obtain rfl : z64 = (.bool true) := J64
 generalize vals 26 = z65 at J65 ⊢
 obtain rfl : z65 = (.bool true) := J65
 generalize vals 27 = z66 at J66 ⊢
 obtain rfl : z66 = (.bool true) := J66
 generalize vals 28 = z67 at J67 ⊢
 obtain rfl : z67 = (.int .i64 3) := J67
 generalize vals 29 = z68 at J68 ⊢
 obtain rfl : z68 = (.bool true) := J68
 generalize vals 30 = z69 at J69 ⊢
 obtain rfl : z69 = (.bool true) := J69
 generalize vals 31 = z0 at J0 ⊢
 obtain rfl : z0 = (.bool true) := J0
 refine stepL_done (by kernel_rfl) ?_ _
 go_wp2
 go_ret
 exact ⟨rfl, hE8.trans eZ⟩
end Go.Proofs.YtghpfnhmlpfgcaaGreat
