import Derived.Test.YtghpfnhmlpfgcaaGreatWa44
set_option linter.all false
namespace Go.Proofs.YtghpfnhmlpfgcaaGreat
open Go.RowKit
theorem few_sol {m : Nat} (hm : m ≤ 6) : 5 * (5 ^ 4 * (m * (m * (17 + 17 + 1) + 1 + 17 + 1) + 1)) ≤ 29000000000 := by
 have h : m = 0 ∨ m = 1 ∨ m = 2 ∨ m = 3 ∨ m = 4 ∨ m = 5 ∨ m = 6 := by omega
 rcases h with rfl | rfl | rfl | rfl | rfl | rfl | rfl <;> decide
theorem sign_le {q : Rat} (h : q ≤ 0) : ¬ 0 < q.num.sign := by
 intro h1
 have h2 := Int.sign_pos_iff.1 h1
 exact absurd (rat_pos h2) (Rat.not_lt.2 h)
set_option maxRecDepth 100000 in
set_option maxHeartbeats 8000000 in
theorem res_good {N lo hi lo' hi' : Nat} {w : World} {A1 A2 A3 A4 : Option Addr} {c1 c2 c3 c4 m n nx : Nat} {X : Nat → Nat → Rat} {y p : Nat → Rat} {R : Nat → Raw} {Z : Lin}
  (hI : LinV N lo hi w (.agg #[.slice A1 m c1, .slice A2 m c2, .slice A3 m c3]) Z) (hX : LsR N lo' hi' w (.slice A4 nx c4) nx R) (hs : fewB Z = true) (hs' : shortB nx R = true) (hc : codeOf Z = 0)
  (h1 : MtV N lo hi w (.slice A1 m c1) m n X) (h2 : LsV N lo hi w (.slice A2 m c2) m y) (h3 : LsV N lo hi w (.slice A3 m c3) m p) (hm0 : 0 < m) (hm : m ≤ 6) (hn0 : 0 < n) (hn : n ≤ 4) (hpos : ∀ i, i < m → 0 < p i)
  (hkx : HtM m n 17 X) (hky : HtL m 17 y) (hkp : HtL m 17 p) :
  Calls Tryz.prog 3 #[.agg #[.slice A1 m c1, .slice A2 m c2, .slice A3 m c3], .slice A4 nx c4] w (RetV w (.bool true)) := by
 obtain ⟨f1, f2, f3⟩ := few_sz hs
 obtain ⟨k2, k3, hB, hk3⟩ := few_bnd hm hn
 have hvv := vvOf_ht hm hB hk3 hkx hky hkp
 have hK1 : m * (4 * (17 + k3 + 1) + 1 + 17 + 17 + 1) ≤ 6 * (4 * (17 + 1000000 + 1) + 1 + 17 + 17 + 1) := Nat.mul_le_mul hm (by omega)
 have HS := Lib.hid hs
 have HS' := Lib.hid hs'
 have HC := Lib.hid hc
 have HF2 := Lib.hid f2
 have HF3 := Lib.hid f3
 have HF1 := Lib.hid f1
 have HB := Lib.hid hB
 have HX := Lib.hid hkx
 have HY := Lib.hid hky
 have HP := Lib.hid hkp
 have HVV := Lib.hid hvv
 have HK1 : Hid (m * (4 * (17 + k3 + 1) + 1 + 17 + 17 + 1) + 17 + 2 ≤ 30000000) := by rw [Hid]; omega
 have HPOS := Lib.hid hpos
 have hN := h1.le
 obtain ⟨SOL, hSOL⟩ := hid_eq (sol37 m n X y p)
 obtain ⟨VV, hVV⟩ := hid_eq (vvOf m n X y p)
 have HSH : Hid (HtL n 5000000 SOL) := by rw [Hid, hSOL.out]; exact sol37_ht hm hn hkx hky hkp
 have HEQ : Hid (∀ i, i < m → VV i = av n X SOL i - y i) := by rw [Hid, hSOL.out, hVV.out]; exact residuals_eq hpos (sol37_nsol m n X y hpos)
 rw [← hVV.out] at HVV
 obtain ⟨rk, hrk⟩ := hid_eq (rref m X n).2.length
 have hrkm : rk ≤ m := by rw [hrk.out]; exact (rref_len m X n).1
 obtain ⟨fr, hfr⟩ := hid_eq (m - rk)
 obtain ⟨T, hT⟩ := hid_eq (obj m p VV)
 have HTH : Hid (Ht 400000000 T) := by
  rw [Hid, hT.out]
  refine Ht.mono (sum_ht (n := m) (k := 17 + (30000000 + 30000000)) (K := m * (17 + (30000000 + 30000000) + 1) + 1) (fun i hi => (hkp i hi).mul ((HVV.out i hi).mul (HVV.out i hi))) (Nat.le_refl _) (Nat.le_refl _)) ?_
  omega
 clear hs hs' hc f1 f2 f3 hB hkx hky hkp hvv hpos hK1
 go_enter Tryz.func3, Tryz.ntmps3
 go_wp2_with (go_at_call 9; refine Hid.out ?_)
 refine boxesC1 ?_
 intro W hE hsz B0
 refine (l37_known W).mono ?_
 rintro e w1 ⟨rfl, e1⟩
 replace hE := hE.trans e1
 replace B0 := e1.block B0
 have hs1 := e1.size
 replace hsz : w.heap.size < w1.heap.size := by omega
 clear e1 hs1
 obtain ⟨a0, a1, a2, -⟩ := cells3 B0
 go_wp2_with (go_at_call 10; refine Hid.out ?_)
 refine (l37_few (hI.ext hE)).mono ?_
 rintro e w2 ⟨rfl, e2⟩
 rw [HS.out]
 replace hE := hE.trans e2
 replace B0 := e2.block B0
 have hs2 := e2.size
 replace hsz : w.heap.size < w2.heap.size := by omega
 clear a0 a1 a2 e2 hs2
 obtain ⟨a0, a1, a2, -⟩ := cells3 B0
 go_wp2_with (go_at_call 11; refine Hid.out ?_)
 refine (l37_short (hX.ext hE)).mono ?_
 rintro e w3 ⟨rfl, e3⟩
 rw [HS'.out]
 replace hE := hE.trans e3
 replace B0 := e3.block B0
 replace hsz := blk_lt B0
 clear a0 a1 a2
 obtain ⟨a0, a1, a2, -⟩ := cells3 B0
 go_wp2_with (go_at_call 12; refine Hid.out ?_)
 refine (rl_Residuals (h1.ext hE) (h2.ext hE) (h3.ext hE) hm0 (by omega) hn0 (by omega) HPOS.out HB.out HX.out HY.out HP.out (by have := HK1.out; omega)).mono ?_
 rintro e w4 ⟨A5, c5, rfl, h5, e4⟩
 replace h5 : LsV N 0 w4.heap.size w4 (.slice A5 m c5) m VV := by
  rw [hVV.out]
  exact LsR.wide h5 (Nat.zero_le _) (Nat.le_refl _) (Nat.le_refl _)
 replace hE := hE.trans e4
 replace B0 := e4.block B0
 replace hsz := blk_lt B0
 clear a0 a1 a2
 obtain ⟨a0, a1, a2, -⟩ := cells3 B0
 go_wp2_with (go_at_call 13; refine Hid.out ?_)
 refine (rl_Factor (kv := 30000000) (h1.ext hE) (h2.ext hE) (h3.ext hE) hm0 (by omega) hn0 (by omega) HPOS.out HB.out HX.out HY.out HP.out HK1.out (by omega) VV hVV.out).mono ?_
 rintro e w5 ⟨e5, hh⟩
 rw [← hrk.out, ← hfr.out] at hh
 obtain ⟨b6, A6, k6, c6, A7, k7, c7, fc, rfl, HFAC⟩ : ∃ (b6 : Bool) (A6 : Option Addr) (k6 c6 : Nat) (A7 : Option Addr) (k7 c7 : Nat) (fc : Int), e = .returned (.tuple #[.agg #[.bool b6, .slice A6 k6 c6, .bool false, .slice A7 k7 c7], .int .i64 fc]) ∧
   Hid ((fr = 0 ∧ fc = 13 ∧ b6 = false ∧ A6 = none ∧ k6 = 0 ∧ c6 = 0 ∧ A7 = none ∧ k7 = 0 ∧ c7 = 0) ∨ (fr ≠ 0 ∧ fc = 0 ∧ RatV N w5 (.agg #[.bool b6, .slice A6 k6 c6, .bool false, .slice A7 k7 c7]) (T / ((fr : Int) : Rat)))) := by
  rcases hh with ⟨h0, rfl⟩ | ⟨h0, v6, rfl, h6⟩
  ·exact ⟨false, none, 0, 0, none, 0, 0, 13, rfl, .inl ⟨h0, rfl, rfl, rfl, rfl, rfl, rfl, rfl, rfl⟩⟩
  ·obtain ⟨b6, A6, k6, c6, A7, k7, c7, rfl, -⟩ := h6.parts
   refine ⟨b6, A6, k6, c6, A7, k7, c7, 0, rfl, .inr ⟨h0, rfl, ?_⟩⟩
   rw [hT.out]; exact h6
 clear hh
 have h55 := h5.ext e5
 clear h5
 replace hE := hE.trans e5
 replace B0 := e5.block B0
 replace hsz := blk_lt B0
 clear a0 a1 a2
 obtain ⟨a0, a1, a2, -⟩ := cells3 B0
 go_upto_region 7 with (fail)
 refine boxes1 ?_
 intro w6 e6 hsz6 B6
 have h56 := h55.ext e6
 clear h55
 replace hE := hE.trans e6
 replace B0 := e6.block B0
 replace hsz := blk_lt B0
 clear a0 a1 a2
 obtain ⟨a0, a1, a2, -⟩ := cells3 B0
 go_wp2_with (go_at_call 14; refine Hid.out ?_)
 refine (l37_code (hI.ext hE) HF2.out HF3.out HF1.out).mono ?_
 rintro e w7 ⟨rfl, e7⟩
 rw [HC.out]
 have h57 := h56.ext e7
 replace B6 := e7.block B6
 have e67 := e6.trans e7
 clear h56 e5 e6 hsz6
 replace hE := hE.trans e7
 replace B0 := e7.block B0
 replace hsz := blk_lt B0
 clear a0 a1 a2
 obtain ⟨a0, a1, a2, -⟩ := cells3 B0
 clear e7
 go_upto_region 10 with (fail)
 refine region_inv [Mn.eq (.int .i64 0), Mn.eq (.bool false), Mn.eq (.bool false), Mn.eq (.slice A5 m c5), Mn.eq (.agg #[.slice A1 m c1, .slice A2 m c2, .slice A3 m c3]), Mn.eq (.agg #[.slice A1 m c1, .slice A2 m c2, .slice A3 m c3]), Mn.ls N n SOL, Mn.ls N m (fun i => av n X SOL i - y i), Mn.eq (.bool true), Mn.eq (.bool false), Mn.eq (.bool false)] [some 55, some 56, some 57, some 58, some 59, some 60, some 61, some 62, some 63, some 64, some 65] [] [true, true, true, true, true, true, true, true, true, true, true] 0 (by kernel_rfl) (by kernel_rfl) (by kernel_rfl) (by kernel_rfl) (by kernel_rfl) (by kernel_rfl) (by kernel_rfl) (by kernel_rfl) ?_ ?_
 ·intro i hi hl
  have hi' : i = 0 ∨ i = 1 ∨ i = 2 ∨ i = 3 ∨ i = 4 ∨ i = 5 ∨ i = 6 ∨ i = 7 ∨ i = 8 ∨ i = 9 ∨ i = 10 := by have h9 : i < 11 := hi; omega
  clear hi
  rcases hi' with rfl | rfl | rfl | rfl | rfl | rfl | rfl | rfl | rfl | rfl | rfl
  ·clear hl
   refine stp rfl ?_
   intro ac wi eI hold hpre K hK
   have o6 := hold 6 (by kernel_rfl)
   simp only [List.getElem?_toArray, List.getElem?_cons_succ, List.getElem?_cons_zero] at o6
   clear hold hpre
   go_simp
   exact hK.out _ _ (Ext.refl _) rfl
  ·clear hl
   refine stp rfl ?_
   intro ac wi eI hold hpre K hK
   obtain ⟨x55, s55, j55⟩ := hpre 0 (by kernel_rfl) 55 rfl
   obtain rfl : x55 = (.int .i64 0) := j55
   clear hold hpre
   go_simp
   exact hK.out _ _ (Ext.refl _) rfl
  ·clear hl
   refine stp rfl ?_
   intro ac wi eI hold hpre K hK
   obtain ⟨x56, s56, j56⟩ := hpre 1 (by kernel_rfl) 56 rfl
   obtain rfl : x56 = (.bool false) := j56
   clear hold hpre
   go_simp
   exact hK.out _ _ (Ext.refl _) rfl
  ·clear hl
   refine stp rfl ?_
   intro ac wi eI hold hpre K hK
   obtain ⟨x57, s57, j57⟩ := hpre 2 (by kernel_rfl) 57 rfl
   obtain rfl : x57 = (.bool false) := j57
   have o5 := hold 5 (by kernel_rfl)
   simp only [List.getElem?_toArray, List.getElem?_cons_succ, List.getElem?_cons_zero] at o5
   clear hold hpre
   rw [if_pos (by simp [Region.wanted, yielded, s57])]
   go_simp
   exact hK.out _ _ (Ext.refl _) rfl
  ·clear hl
   refine stp rfl ?_
   intro ac wi eI hold hpre K hK
   obtain ⟨x57, s57, j57⟩ := hpre 2 (by kernel_rfl) 57 rfl
   obtain rfl : x57 = (.bool false) := j57
   have o2 := hold 2 (by kernel_rfl)
   simp only [List.getElem?_toArray, List.getElem?_cons_succ, List.getElem?_cons_zero] at o2
   clear hold hpre
   rw [if_pos (by simp [Region.wanted, yielded, s57])]
   have cc0 := eI.cell a0
   have cc1 := eI.cell a1
   have cc2 := eI.cell a2
   go_simp
   exact hK.out _ _ (Ext.refl _) rfl
  ·clear hl
   refine stp rfl ?_
   intro ac wi eI hold hpre K hK
   obtain ⟨x57, s57, j57⟩ := hpre 2 (by kernel_rfl) 57 rfl
   obtain rfl : x57 = (.bool false) := j57
   have o2 := hold 2 (by kernel_rfl)
   simp only [List.getElem?_toArray, List.getElem?_cons_succ, List.getElem?_cons_zero] at o2
   clear hold hpre
   rw [if_pos (by simp [Region.wanted, yielded, s57])]
   have cc0 := eI.cell a0
   have cc1 := eI.cell a1
   have cc2 := eI.cell a2
   go_simp
   exact hK.out _ _ (Ext.refl _) rfl
  ·clear hl
   refine stp rfl ?_
   intro ac wi eI hold hpre K hK
   obtain ⟨x57, s57, j57⟩ := hpre 2 (by kernel_rfl) 57 rfl
   obtain rfl : x57 = (.bool false) := j57
   obtain ⟨x60, s60, j60⟩ := hpre 5 (by kernel_rfl) 60 rfl
   obtain rfl : x60 = (.agg #[.slice A1 m c1, .slice A2 m c2, .slice A3 m c3]) := j60
   clear hold hpre
   rw [if_pos (by simp [Region.wanted, yielded, s57])]
   go_simp
   refine (l37_solution (P := 4) (h1.ext (hE.trans eI)) (h2.ext (hE.trans eI)) (h3.ext (hE.trans eI)) hm0 (by omega) hn0 (by omega) HPOS.out (by omega) HX.out HY.out HP.out rfl rfl hn (few_sol hm)).mono ?_
   rintro e wj ⟨Aj, cj, rfl, hj, ej⟩
   go_wp2_with fail
   rw [← hSOL.out] at hj
   exact hK.out _ _ ej (LsR.wide hj (Nat.zero_le _) (Nat.le_refl _) (Nat.le_refl _))
  ·clear hl
   refine stp rfl ?_
   intro ac wi eI hold hpre K hK
   obtain ⟨x57, s57, j57⟩ := hpre 2 (by kernel_rfl) 57 rfl
   obtain rfl : x57 = (.bool false) := j57
   obtain ⟨x59, s59, j59⟩ := hpre 4 (by kernel_rfl) 59 rfl
   obtain rfl : x59 = (.agg #[.slice A1 m c1, .slice A2 m c2, .slice A3 m c3]) := j59
   obtain ⟨x61, s61, j61⟩ := hpre 6 (by kernel_rfl) 61 rfl
   replace j61 : Mn.p (Mn.ls N n SOL) x61 wi := j61
   clear hold hpre
   rw [if_pos (by simp [Region.wanted, yielded, s57])]
   go_simp
   refine (l37_residuals (h1.ext (hE.trans eI)) (h2.ext (hE.trans eI)) (h3.ext (hE.trans eI)) j61 (by omega) hn0 (by omega) HX.out HY.out HSH.out (by omega)).mono ?_
   rintro e wj ⟨Aj, cj, rfl, hj, ej⟩
   go_wp2_with fail
   exact hK.out _ _ ej (LsR.wide hj (Nat.zero_le _) (Nat.le_refl _) (Nat.le_refl _))
  ·clear hl
   refine stp rfl ?_
   intro ac wi eI hold hpre K hK
   obtain ⟨x57, s57, j57⟩ := hpre 2 (by kernel_rfl) 57 rfl
   obtain rfl : x57 = (.bool false) := j57
   obtain ⟨x58, s58, j58⟩ := hpre 3 (by kernel_rfl) 58 rfl
   obtain rfl : x58 = (.slice A5 m c5) := j58
   obtain ⟨x62, s62, j62⟩ := hpre 7 (by kernel_rfl) 62 rfl
   replace j62 : Mn.p (Mn.ls N m (fun i => av n X SOL i - y i)) x62 wi := j62
   clear hold hpre
   rw [if_pos (by simp [Region.wanted, yielded, s57])]
   go_simp
   refine (r2_sameList (h57.ext eI) j62 (fun i hi => (HVV.out i hi).sz (by omega)) HEQ.out).mono ?_
   rintro e wj ⟨rfl, ej⟩
   go_wp2_with fail
   exact hK.out _ _ ej rfl
  ·clear hl
   refine stp rfl ?_
   intro ac wi eI hold hpre K hK
   obtain ⟨x57, s57, j57⟩ := hpre 2 (by kernel_rfl) 57 rfl
   obtain rfl : x57 = (.bool false) := j57
   obtain ⟨x63, s63, j63⟩ := hpre 8 (by kernel_rfl) 63 rfl
   obtain rfl : x63 = (.bool true) := j63
   clear hold hpre
   rw [if_pos (by simp [Region.wanted, yielded, s57])]
   go_simp
   exact hK.out _ _ (Ext.refl _) rfl
  ·clear hl
   refine stp rfl ?_
   intro ac wi eI hold hpre K hK
   obtain ⟨x57, s57, j57⟩ := hpre 2 (by kernel_rfl) 57 rfl
   obtain rfl : x57 = (.bool false) := j57
   obtain ⟨x64, s64, j64⟩ := hpre 9 (by kernel_rfl) 64 rfl
   obtain rfl : x64 = (.bool false) := j64
   clear hold hpre
   go_simp
   exact hK.out _ _ (Ext.refl _) rfl
 intro vals wz eZ hJ
 have J55 : Mn.p (Mn.eq (.int .i64 0)) (vals 0) wz := hJ 0 (by decide) (by decide)
 have J56 : Mn.p (Mn.eq (.bool false)) (vals 1) wz := hJ 1 (by decide) (by decide)
 have J57 : Mn.p (Mn.eq (.bool false)) (vals 2) wz := hJ 2 (by decide) (by decide)
 have J58 : Mn.p (Mn.eq (.slice A5 m c5)) (vals 3) wz := hJ 3 (by decide) (by decide)
 have J59 : Mn.p (Mn.eq (.agg #[.slice A1 m c1, .slice A2 m c2, .slice A3 m c3])) (vals 4) wz := hJ 4 (by decide) (by decide)
 have J60 : Mn.p (Mn.eq (.agg #[.slice A1 m c1, .slice A2 m c2, .slice A3 m c3])) (vals 5) wz := hJ 5 (by decide) (by decide)
 have J61 : Mn.p (Mn.ls N n SOL) (vals 6) wz := hJ 6 (by decide) (by decide)
 have J62 : Mn.p (Mn.ls N m (fun i => av n X SOL i - y i)) (vals 7) wz := hJ 7 (by decide) (by decide)
 have J63 : Mn.p (Mn.eq (.bool true)) (vals 8) wz := hJ 8 (by decide) (by decide)
 have J64 : Mn.p (Mn.eq (.bool false)) (vals 9) wz := hJ 9 (by decide) (by decide)
 have J65 : Mn.p (Mn.eq (.bool false)) (vals 10) wz := hJ 10 (by decide) (by decide)
 clear hJ
 simp only [putAll, if_true, Bool.false_eq_true, if_false, Act.put, Nat.zero_add, Nat.reduceAdd, List.setIfInBounds_toArray, List.set_cons_zero, List.set_cons_succ]
 generalize vals 0 = z55 at J55 ⊢
 obtain rfl : z55 = (.int .i64 0) := J55
 generalize vals 1 = z56 at J56 ⊢
 obtain rfl : z56 = (.bool false) := J56
 generalize vals 2 = z57 at J57 ⊢
 obtain rfl : z57 = (.bool false) := J57
 generalize vals 3 = z58 at J58 ⊢
 obtain rfl : z58 = (.slice A5 m c5) := J58
 generalize vals 4 = z59 at J59 ⊢
 obtain rfl : z59 = (.agg #[.slice A1 m c1, .slice A2 m c2, .slice A3 m c3]) := J59
 generalize vals 5 = z60 at J60 ⊢
 obtain rfl : z60 = (.agg #[.slice A1 m c1, .slice A2 m c2, .slice A3 m c3]) := J60
 generalize vals 6 = z61 at J61 ⊢
 generalize vals 7 = z62 at J62 ⊢
 generalize vals 8 = z63 at J63 ⊢
 obtain rfl : z63 = (.bool true) := J63
 generalize vals 9 = z64 at J64 ⊢
 obtain rfl : z64 = (.bool false) := J64
 generalize vals 10 = z65 at J65 ⊢
 obtain rfl : z65 = (.bool false) := J65
 refine stepL_done (by kernel_rfl) ?_ _
 clear J61 J62
 have h58 := h57.ext eZ
 replace B6 := eZ.block B6
 replace e67 := e67.trans eZ
 clear h57
 replace hE := hE.trans eZ
 replace B0 := eZ.block B0
 replace hsz := blk_lt B0
 clear a0 a1 a2
 obtain ⟨a0, a1, a2, -⟩ := cells3 B0
 clear eZ
 go_wp2_with (go_at_call 19; refine Hid.out ?_)
 refine (l37_total (h1.ext hE) (h2.ext hE) (h3.ext hE) h58 hm0 (by omega) HP.out HVV.out (by omega)).mono ?_
 intro e w9 hh
 obtain ⟨b9, A9, k9, c9, A10, k10, c10, rfl, hb9, g9, g10, e9⟩ := hh.form
 rw [← hT.out] at hb9 g9 g10
 clear hh h58
 replace B6 := e9.block B6
 replace e67 := e67.trans e9
 replace hE := hE.trans e9
 replace B0 := e9.block B0
 replace hsz := blk_lt B0
 clear a0 a1 a2
 obtain ⟨a0, a1, a2, -⟩ := cells3 B0
 clear e9
 have hb6 : w5.heap.size < w9.heap.size := blk_lt B6
 go_upto_region 13 with (fail)
 refine boxes1 ?_
 intro w10 e10 hsz10 B10
 replace B6 := e10.block B6
 replace e67 := e67.trans e10
 replace g9 := g9.ext e10
 replace g10 := g10.ext e10
 replace hE := hE.trans e10
 replace B0 := e10.block B0
 replace hsz := blk_lt B0
 clear a0 a1 a2
 obtain ⟨a0, a1, a2, -⟩ := cells3 B0
 clear e10
 obtain ⟨gT, hgT⟩ : ∃ gT, gT = w9.heap.size := ⟨_, rfl⟩
 rw [← hgT] at B10 hsz10 hb6 ⊢
 clear hgT
 obtain ⟨d0, d1, d2, d3, -⟩ := cells4 B10
 go_cut [90] (fun pb wx => pb = .bool false ∧ Ext w10 wx)
 case first =>
  have h11 := h1.ext hE
  have hXE := hX.ext hE
  obtain ⟨b, off, rfl, -, -, hx⟩ := MtV.addr h11 hm0
  obtain ⟨AL, cL, o0, hLc, hcL, -⟩ := hx 0 hm0
  rw [Nat.add_zero] at o0
  unfold maxLen at hcL
  clear hx h11
  obtain ⟨f8, fall⟩ := short_all HS'.out
  have HBR := Lib.hid fall
  clear fall
  obtain ⟨s, hsv⟩ := hid_eq (allB nx (fun i => okR (R i)))
  cases s with
  | false =>
   refine region_inv [Mn.eq (.slice A4 nx c4), Mn.eq (.bool false), Mn.eq (.bool false), Mn.any, Mn.any, Mn.any, Mn.any, Mn.any, Mn.any, Mn.any, Mn.any, Mn.eq (.bool false), Mn.eq (.bool false), Mn.any, Mn.any, Mn.any, Mn.any, Mn.any, Mn.any, Mn.any, Mn.any, Mn.eq (.bool false)] [some 69, some 70, some 71, some 72, some 73, some 74, some 75, some 76, some 77, some 78, some 79, some 80, some 81, some 82, some 83, some 84, some 85, some 86, some 87, some 88, some 89, some 90] [] [true, true, true, true, true, true, true, true, true, true, true, true, true, true, true, true, true, true, true, true, true, true] 0 (by kernel_rfl) (by kernel_rfl) (by kernel_rfl) (by kernel_rfl) (by kernel_rfl) (by kernel_rfl) (by kernel_rfl) (by kernel_rfl) ?_ ?_
   ·intro i hi hl
    have hi' : i = 0 ∨ i = 1 ∨ i = 2 ∨ i = 3 ∨ i = 4 ∨ i = 5 ∨ i = 6 ∨ i = 7 ∨ i = 8 ∨ i = 9 ∨ i = 10 ∨ i = 11 ∨ i = 12 ∨ i = 13 ∨ i = 14 ∨ i = 15 ∨ i = 16 ∨ i = 17 ∨ i = 18 ∨ i = 19 ∨ i = 20 ∨ i = 21 := by have h9 : i < 22 := hi; omega
    clear hi
    rcases hi' with rfl | rfl | rfl | rfl | rfl | rfl | rfl | rfl | rfl | rfl | rfl | rfl | rfl | rfl | rfl | rfl | rfl | rfl | rfl | rfl | rfl | rfl
    ·clear hl
     refine stp rfl ?_
     intro ac wi eI hold hpre K hK
     have o1 := hold 1 (by kernel_rfl)
     simp only [List.getElem?_toArray, List.getElem?_cons_succ, List.getElem?_cons_zero] at o1
     clear hold hpre
     go_simp
     exact hK.out _ _ (Ext.refl _) rfl
    ·clear hl
     refine stp rfl ?_
     intro ac wi eI hold hpre K hK
     obtain ⟨x69, s69, j69⟩ := hpre 0 (by kernel_rfl) 69 rfl
     obtain rfl : x69 = (.slice A4 nx c4) := j69
     clear hold hpre
     go_simp
     refine (r2_validList (hXE.ext eI) (fun i hi => (brief_raw (HBR.out i hi)).1)).mono ?_
     rintro e wj ⟨rfl, ej⟩
     rw [← hsv.out]
     go_wp2_with fail
     exact hK.out _ _ ej rfl
    ·clear hl
     refine stp rfl ?_
     intro ac wi eI hold hpre K hK
     obtain ⟨x70, s70, j70⟩ := hpre 1 (by kernel_rfl) 70 rfl
     obtain rfl : x70 = (.bool false) := j70
     clear hold hpre
     go_simp
     exact hK.out _ _ (Ext.refl _) rfl
    ·clear hl
     refine stp rfl ?_
     intro ac wi eI hold hpre K hK
     obtain ⟨x71, s71, j71⟩ := hpre 2 (by kernel_rfl) 71 rfl
     obtain rfl : x71 = (.bool false) := j71
     have o1 := hold 1 (by kernel_rfl)
     simp only [List.getElem?_toArray, List.getElem?_cons_succ, List.getElem?_cons_zero] at o1
     clear hold hpre
     rw [if_neg (by simp [Region.wanted, yielded, s71])]
     exact hK.out _ _ (Ext.refl _) trivial
    ·clear hl
     refine stp rfl ?_
     intro ac wi eI hold hpre K hK
     obtain ⟨x71, s71, j71⟩ := hpre 2 (by kernel_rfl) 71 rfl
     obtain rfl : x71 = (.bool false) := j71
     obtain ⟨x72, s72, j72⟩ := hpre 3 (by kernel_rfl) 72 rfl
     replace j72 : Mn.p (Mn.any) x72 wi := j72
     clear hold hpre
     rw [if_neg (by simp [Region.wanted, yielded, s71])]
     exact hK.out _ _ (Ext.refl _) trivial
    ·clear hl
     refine stp rfl ?_
     intro ac wi eI hold hpre K hK
     obtain ⟨x71, s71, j71⟩ := hpre 2 (by kernel_rfl) 71 rfl
     obtain rfl : x71 = (.bool false) := j71
     have o2 := hold 2 (by kernel_rfl)
     simp only [List.getElem?_toArray, List.getElem?_cons_succ, List.getElem?_cons_zero] at o2
     clear hold hpre
     rw [if_neg (by simp [Region.wanted, yielded, s71])]
     exact hK.out _ _ (Ext.refl _) trivial
    ·clear hl
     refine stp rfl ?_
     intro ac wi eI hold hpre K hK
     obtain ⟨x71, s71, j71⟩ := hpre 2 (by kernel_rfl) 71 rfl
     obtain rfl : x71 = (.bool false) := j71
     obtain ⟨x74, s74, j74⟩ := hpre 5 (by kernel_rfl) 74 rfl
     replace j74 : Mn.p (Mn.any) x74 wi := j74
     clear hold hpre
     rw [if_neg (by simp [Region.wanted, yielded, s71])]
     exact hK.out _ _ (Ext.refl _) trivial
    ·clear hl
     refine stp rfl ?_
     intro ac wi eI hold hpre K hK
     obtain ⟨x71, s71, j71⟩ := hpre 2 (by kernel_rfl) 71 rfl
     obtain rfl : x71 = (.bool false) := j71
     obtain ⟨x75, s75, j75⟩ := hpre 6 (by kernel_rfl) 75 rfl
     replace j75 : Mn.p (Mn.any) x75 wi := j75
     clear hold hpre
     rw [if_neg (by simp [Region.wanted, yielded, s71])]
     exact hK.out _ _ (Ext.refl _) trivial
    ·clear hl
     refine stp rfl ?_
     intro ac wi eI hold hpre K hK
     obtain ⟨x71, s71, j71⟩ := hpre 2 (by kernel_rfl) 71 rfl
     obtain rfl : x71 = (.bool false) := j71
     obtain ⟨x76, s76, j76⟩ := hpre 7 (by kernel_rfl) 76 rfl
     replace j76 : Mn.p (Mn.any) x76 wi := j76
     clear hold hpre
     rw [if_neg (by simp [Region.wanted, yielded, s71])]
     exact hK.out _ _ (Ext.refl _) trivial
    ·clear hl
     refine stp rfl ?_
     intro ac wi eI hold hpre K hK
     obtain ⟨x71, s71, j71⟩ := hpre 2 (by kernel_rfl) 71 rfl
     obtain rfl : x71 = (.bool false) := j71
     obtain ⟨x77, s77, j77⟩ := hpre 8 (by kernel_rfl) 77 rfl
     replace j77 : Mn.p (Mn.any) x77 wi := j77
     clear hold hpre
     rw [if_neg (by simp [Region.wanted, yielded, s71])]
     exact hK.out _ _ (Ext.refl _) trivial
    ·clear hl
     refine stp rfl ?_
     intro ac wi eI hold hpre K hK
     obtain ⟨x71, s71, j71⟩ := hpre 2 (by kernel_rfl) 71 rfl
     obtain rfl : x71 = (.bool false) := j71
     obtain ⟨x73, s73, j73⟩ := hpre 4 (by kernel_rfl) 73 rfl
     replace j73 : Mn.p (Mn.any) x73 wi := j73
     obtain ⟨x78, s78, j78⟩ := hpre 9 (by kernel_rfl) 78 rfl
     replace j78 : Mn.p (Mn.any) x78 wi := j78
     clear hold hpre
     rw [if_neg (by simp [Region.wanted, yielded, s71])]
     exact hK.out _ _ (Ext.refl _) trivial
    ·clear hl
     refine stp rfl ?_
     intro ac wi eI hold hpre K hK
     obtain ⟨x71, s71, j71⟩ := hpre 2 (by kernel_rfl) 71 rfl
     obtain rfl : x71 = (.bool false) := j71
     obtain ⟨x79, s79, j79⟩ := hpre 10 (by kernel_rfl) 79 rfl
     replace j79 : Mn.p (Mn.any) x79 wi := j79
     clear hold hpre
     go_simp
     exact hK.out _ _ (Ext.refl _) rfl
    ·clear hl
     refine stp rfl ?_
     intro ac wi eI hold hpre K hK
     obtain ⟨x80, s80, j80⟩ := hpre 11 (by kernel_rfl) 80 rfl
     obtain rfl : x80 = (.bool false) := j80
     clear hold hpre
     go_simp
     exact hK.out _ _ (Ext.refl _) rfl
    ·clear hl
     refine stp rfl ?_
     intro ac wi eI hold hpre K hK
     obtain ⟨x81, s81, j81⟩ := hpre 12 (by kernel_rfl) 81 rfl
     obtain rfl : x81 = (.bool false) := j81
     have o10 := hold 10 (by kernel_rfl)
     simp only [List.getElem?_toArray, List.getElem?_cons_succ, List.getElem?_cons_zero] at o10
     clear hold hpre
     rw [if_neg (by simp [Region.wanted, yielded, s81])]
     exact hK.out _ _ (Ext.refl _) trivial
    ·clear hl
     refine stp rfl ?_
     intro ac wi eI hold hpre K hK
     obtain ⟨x81, s81, j81⟩ := hpre 12 (by kernel_rfl) 81 rfl
     obtain rfl : x81 = (.bool false) := j81
     have o2 := hold 2 (by kernel_rfl)
     simp only [List.getElem?_toArray, List.getElem?_cons_succ, List.getElem?_cons_zero] at o2
     clear hold hpre
     rw [if_neg (by simp [Region.wanted, yielded, s81])]
     exact hK.out _ _ (Ext.refl _) trivial
    ·clear hl
     refine stp rfl ?_
     intro ac wi eI hold hpre K hK
     obtain ⟨x81, s81, j81⟩ := hpre 12 (by kernel_rfl) 81 rfl
     obtain rfl : x81 = (.bool false) := j81
     have o2 := hold 2 (by kernel_rfl)
     simp only [List.getElem?_toArray, List.getElem?_cons_succ, List.getElem?_cons_zero] at o2
     clear hold hpre
     rw [if_neg (by simp [Region.wanted, yielded, s81])]
     exact hK.out _ _ (Ext.refl _) trivial
    ·clear hl
     refine stp rfl ?_
     intro ac wi eI hold hpre K hK
     obtain ⟨x81, s81, j81⟩ := hpre 12 (by kernel_rfl) 81 rfl
     obtain rfl : x81 = (.bool false) := j81
     have o1 := hold 1 (by kernel_rfl)
     simp only [List.getElem?_toArray, List.getElem?_cons_succ, List.getElem?_cons_zero] at o1
     clear hold hpre
     rw [if_neg (by simp [Region.wanted, yielded, s81])]
     exact hK.out _ _ (Ext.refl _) trivial
    ·clear hl
     refine stp rfl ?_
     intro ac wi eI hold hpre K hK
     obtain ⟨x81, s81, j81⟩ := hpre 12 (by kernel_rfl) 81 rfl
     obtain rfl : x81 = (.bool false) := j81
     obtain ⟨x84, s84, j84⟩ := hpre 15 (by kernel_rfl) 84 rfl
     replace j84 : Mn.p (Mn.any) x84 wi := j84
     obtain ⟨x85, s85, j85⟩ := hpre 16 (by kernel_rfl) 85 rfl
     replace j85 : Mn.p (Mn.any) x85 wi := j85
     clear hold hpre
     rw [if_neg (by simp [Region.wanted, yielded, s81])]
     exact hK.out _ _ (Ext.refl _) trivial
    ·clear hl
     refine stp rfl ?_
     intro ac wi eI hold hpre K hK
     obtain ⟨x81, s81, j81⟩ := hpre 12 (by kernel_rfl) 81 rfl
     obtain rfl : x81 = (.bool false) := j81
     obtain ⟨x83, s83, j83⟩ := hpre 14 (by kernel_rfl) 83 rfl
     replace j83 : Mn.p (Mn.any) x83 wi := j83
     obtain ⟨x86, s86, j86⟩ := hpre 17 (by kernel_rfl) 86 rfl
     replace j86 : Mn.p (Mn.any) x86 wi := j86
     clear hold hpre
     rw [if_neg (by simp [Region.wanted, yielded, s81])]
     exact hK.out _ _ (Ext.refl _) trivial
    ·clear hl
     refine stp rfl ?_
     intro ac wi eI hold hpre K hK
     obtain ⟨x81, s81, j81⟩ := hpre 12 (by kernel_rfl) 81 rfl
     obtain rfl : x81 = (.bool false) := j81
     obtain ⟨x82, s82, j82⟩ := hpre 13 (by kernel_rfl) 82 rfl
     replace j82 : Mn.p (Mn.any) x82 wi := j82
     obtain ⟨x87, s87, j87⟩ := hpre 18 (by kernel_rfl) 87 rfl
     replace j87 : Mn.p (Mn.any) x87 wi := j87
     clear hold hpre
     rw [if_neg (by simp [Region.wanted, yielded, s81])]
     exact hK.out _ _ (Ext.refl _) trivial
    ·clear hl
     refine stp rfl ?_
     intro ac wi eI hold hpre K hK
     obtain ⟨x81, s81, j81⟩ := hpre 12 (by kernel_rfl) 81 rfl
     obtain rfl : x81 = (.bool false) := j81
     obtain ⟨x88, s88, j88⟩ := hpre 19 (by kernel_rfl) 88 rfl
     replace j88 : Mn.p (Mn.any) x88 wi := j88
     clear hold hpre
     rw [if_neg (by simp [Region.wanted, yielded, s81])]
     exact hK.out _ _ (Ext.refl _) trivial
    ·clear hl
     refine stp rfl ?_
     intro ac wi eI hold hpre K hK
     obtain ⟨x81, s81, j81⟩ := hpre 12 (by kernel_rfl) 81 rfl
     obtain rfl : x81 = (.bool false) := j81
     obtain ⟨x89, s89, j89⟩ := hpre 20 (by kernel_rfl) 89 rfl
     replace j89 : Mn.p (Mn.any) x89 wi := j89
     clear hold hpre
     go_simp
     exact hK.out _ _ (Ext.refl _) rfl
   intro vals wz eZ hJ
   have J69 : Mn.p (Mn.eq (.slice A4 nx c4)) (vals 0) wz := hJ 0 (by decide) (by decide)
   have J70 : Mn.p (Mn.eq (.bool false)) (vals 1) wz := hJ 1 (by decide) (by decide)
   have J71 : Mn.p (Mn.eq (.bool false)) (vals 2) wz := hJ 2 (by decide) (by decide)
   have J72 : Mn.p (Mn.any) (vals 3) wz := hJ 3 (by decide) (by decide)
   have J73 : Mn.p (Mn.any) (vals 4) wz := hJ 4 (by decide) (by decide)
   have J74 : Mn.p (Mn.any) (vals 5) wz := hJ 5 (by decide) (by decide)
   have J75 : Mn.p (Mn.any) (vals 6) wz := hJ 6 (by decide) (by decide)
   have J76 : Mn.p (Mn.any) (vals 7) wz := hJ 7 (by decide) (by decide)
   have J77 : Mn.p (Mn.any) (vals 8) wz := hJ 8 (by decide) (by decide)
   have J78 : Mn.p (Mn.any) (vals 9) wz := hJ 9 (by decide) (by decide)
   have J79 : Mn.p (Mn.any) (vals 10) wz := hJ 10 (by decide) (by decide)
   have J80 : Mn.p (Mn.eq (.bool false)) (vals 11) wz := hJ 11 (by decide) (by decide)
   have J81 : Mn.p (Mn.eq (.bool false)) (vals 12) wz := hJ 12 (by decide) (by decide)
   have J82 : Mn.p (Mn.any) (vals 13) wz := hJ 13 (by decide) (by decide)
   have J83 : Mn.p (Mn.any) (vals 14) wz := hJ 14 (by decide) (by decide)
   have J84 : Mn.p (Mn.any) (vals 15) wz := hJ 15 (by decide) (by decide)
   have J85 : Mn.p (Mn.any) (vals 16) wz := hJ 16 (by decide) (by decide)
   have J86 : Mn.p (Mn.any) (vals 17) wz := hJ 17 (by decide) (by decide)
   have J87 : Mn.p (Mn.any) (vals 18) wz := hJ 18 (by decide) (by decide)
   have J88 : Mn.p (Mn.any) (vals 19) wz := hJ 19 (by decide) (by decide)
   have J89 : Mn.p (Mn.any) (vals 20) wz := hJ 20 (by decide) (by decide)
   have J90 : Mn.p (Mn.eq (.bool false)) (vals 21) wz := hJ 21 (by decide) (by decide)
   clear hJ
   simp only [putAll, if_true, Bool.false_eq_true, if_false, Act.put, Nat.zero_add, Nat.reduceAdd, List.setIfInBounds_toArray, List.set_cons_zero, List.set_cons_succ]
   generalize vals 0 = z69 at J69 ⊢
   obtain rfl : z69 = (.slice A4 nx c4) := J69
   generalize vals 1 = z70 at J70 ⊢
   obtain rfl : z70 = (.bool false) := J70
   generalize vals 2 = z71 at J71 ⊢
   obtain rfl : z71 = (.bool false) := J71
   generalize vals 3 = z72 at J72 ⊢
   generalize vals 4 = z73 at J73 ⊢
   generalize vals 5 = z74 at J74 ⊢
   generalize vals 6 = z75 at J75 ⊢
   generalize vals 7 = z76 at J76 ⊢
   generalize vals 8 = z77 at J77 ⊢
   generalize vals 9 = z78 at J78 ⊢
   generalize vals 10 = z79 at J79 ⊢
   generalize vals 11 = z80 at J80 ⊢
   obtain rfl : z80 = (.bool false) := J80
   generalize vals 12 = z81 at J81 ⊢
   obtain rfl : z81 = (.bool false) := J81
   generalize vals 13 = z82 at J82 ⊢
   generalize vals 14 = z83 at J83 ⊢
   generalize vals 15 = z84 at J84 ⊢
   generalize vals 16 = z85 at J85 ⊢
   generalize vals 17 = z86 at J86 ⊢
   generalize vals 18 = z87 at J87 ⊢
   generalize vals 19 = z88 at J88 ⊢
   generalize vals 20 = z89 at J89 ⊢
   generalize vals 21 = z90 at J90 ⊢
   obtain rfl : z90 = (.bool false) := J90
   refine stepL_done (by kernel_rfl) ?_ _
   go_wp2_with fail
   go_meet
   exact ⟨rfl, eZ⟩
  | true =>
   by_cases hnx : nx = n
   ·subst hnx
    have hok := allB_true.1 hsv.out.symm
    obtain ⟨xr, hxr⟩ := hid_eq (fun i => ratOf (R i))
    have HXR : Hid (HtL nx 17 xr) := by
     rw [Hid, hxr.out]
     intro i hi
     refine brief_ht ?_
     show briefB (raw (ratOf (R i))) = true
     rw [← raw_ratOf (hok i hi)]
     exact HBR.out i hi
    have hXV : LsV N lo' hi' w10 (.slice A4 nx c4) nx xr := by
     rw [hxr.out]
     exact LsR.congr hXE (fun i hi => raw_ratOf (hok i hi))
    have HRH : Hid (HtL m 200 (fun i => av nx X xr i - y i)) := fun i hi => by
     refine Ht.mono (Ht.sub (sum_ht (n := nx) (k := 17 + 17) (K := nx * (17 + 17 + 1) + 1) (fun c hc => (HX.out i hi c hc).mul (HXR.out c hc)) (Nat.le_refl _) (Nat.le_refl _)) (HY.out i hi)) (by omega)
    obtain ⟨T2, hT2⟩ := hid_eq (obj m p (fun i => av nx X xr i - y i))
    have HT2 : Hid (Ht 5000 T2) := by
     rw [Hid, hT2.out]
     refine Ht.mono (sum_ht (n := m) (k := 17 + (200 + 200)) (K := m * (17 + (200 + 200) + 1) + 1) (fun i hi => (HP.out i hi).mul ((HRH.out i hi).mul (HRH.out i hi))) (Nat.le_refl _) (Nat.le_refl _)) (by omega)
    have HSD : Hid (Sz (T - T2)) := (HTH.out.sub HT2.out).sz (by omega)
    obtain ⟨sg, hsg⟩ := hid_eq (T - T2).num.sign
    have hsg0 : ¬ 0 < sg := by
     rw [hsg.out]
     refine sign_le ?_
     have h9 : T ≤ T2 := by
      rw [hT.out, hT2.out, obj_congr HEQ.out, hSOL.out]
      exact total_least HPOS.out xr
     grind
    clear hok
    refine region_inv [Mn.eq (.slice A4 nx c4), Mn.eq (.bool true), Mn.eq (.bool true), Mn.eq (.slice A4 nx c4), Mn.eq (.int .i64 (nx : Int)), Mn.eq (.pointer (some ⟨w.heap.size, 0, none⟩)), Mn.eq (.slice (some ⟨b, off, none⟩) m c1), Mn.eq (.pointer (some ⟨b, off, none⟩)), Mn.eq (.slice AL nx cL), Mn.eq (.int .i64 (nx : Int)), Mn.eq (.bool true), Mn.eq (.bool true), Mn.eq (.bool true), Mn.rat N T, Mn.eq (.agg #[.slice (some ⟨b, off, none⟩) m c1, .slice A2 m c2, .slice A3 m c3]), Mn.eq (.agg #[.slice (some ⟨b, off, none⟩) m c1, .slice A2 m c2, .slice A3 m c3]), Mn.eq (.slice A4 nx c4), Mn.ls N m (fun i => av nx X xr i - y i), Mn.rat N T2, Mn.eq (.int .i64 sg), Mn.eq (.bool false), Mn.eq (.bool false)] [some 69, some 70, some 71, some 72, some 73, some 74, some 75, some 76, some 77, some 78, some 79, some 80, some 81, some 82, some 83, some 84, some 85, some 86, some 87, some 88, some 89, some 90] [] [true, true, true, true, true, true, true, true, true, true, true, true, true, true, true, true, true, true, true, true, true, true] 0 (by kernel_rfl) (by kernel_rfl) (by kernel_rfl) (by kernel_rfl) (by kernel_rfl) (by kernel_rfl) (by kernel_rfl) (by kernel_rfl) ?_ ?_
    ·intro i hi hl
     have hi' : i = 0 ∨ i = 1 ∨ i = 2 ∨ i = 3 ∨ i = 4 ∨ i = 5 ∨ i = 6 ∨ i = 7 ∨ i = 8 ∨ i = 9 ∨ i = 10 ∨ i = 11 ∨ i = 12 ∨ i = 13 ∨ i = 14 ∨ i = 15 ∨ i = 16 ∨ i = 17 ∨ i = 18 ∨ i = 19 ∨ i = 20 ∨ i = 21 := by have h9 : i < 22 := hi; omega
     clear hi
     rcases hi' with rfl | rfl | rfl | rfl | rfl | rfl | rfl | rfl | rfl | rfl | rfl | rfl | rfl | rfl | rfl | rfl | rfl | rfl | rfl | rfl | rfl | rfl
     ·clear hl
      refine stp rfl ?_
      intro ac wi eI hold hpre K hK
      have o1 := hold 1 (by kernel_rfl)
      simp only [List.getElem?_toArray, List.getElem?_cons_succ, List.getElem?_cons_zero] at o1
      clear hold hpre
      go_simp
      exact hK.out _ _ (Ext.refl _) rfl
     ·clear hl
      refine stp rfl ?_
      intro ac wi eI hold hpre K hK
      obtain ⟨x69, s69, j69⟩ := hpre 0 (by kernel_rfl) 69 rfl
      obtain rfl : x69 = (.slice A4 nx c4) := j69
      clear hold hpre
      go_simp
      refine (r2_validList (hXE.ext eI) (fun i hi => (brief_raw (HBR.out i hi)).1)).mono ?_
      rintro e wj ⟨rfl, ej⟩
      rw [← hsv.out]
      go_wp2_with fail
      exact hK.out _ _ ej rfl
     ·clear hl
      refine stp rfl ?_
      intro ac wi eI hold hpre K hK
      obtain ⟨x70, s70, j70⟩ := hpre 1 (by kernel_rfl) 70 rfl
      obtain rfl : x70 = (.bool true) := j70
      clear hold hpre
      go_simp
      exact hK.out _ _ (Ext.refl _) rfl
     ·clear hl
      refine stp rfl ?_
      intro ac wi eI hold hpre K hK
      obtain ⟨x71, s71, j71⟩ := hpre 2 (by kernel_rfl) 71 rfl
      obtain rfl : x71 = (.bool true) := j71
      have o1 := hold 1 (by kernel_rfl)
      simp only [List.getElem?_toArray, List.getElem?_cons_succ, List.getElem?_cons_zero] at o1
      clear hold hpre
      rw [if_pos (by simp [Region.wanted, yielded, s71])]
      go_simp
      exact hK.out _ _ (Ext.refl _) rfl
     ·clear hl
      refine stp rfl ?_
      intro ac wi eI hold hpre K hK
      obtain ⟨x71, s71, j71⟩ := hpre 2 (by kernel_rfl) 71 rfl
      obtain rfl : x71 = (.bool true) := j71
      obtain ⟨x72, s72, j72⟩ := hpre 3 (by kernel_rfl) 72 rfl
      obtain rfl : x72 = (.slice A4 nx c4) := j72
      clear hold hpre
      rw [if_pos (by simp [Region.wanted, yielded, s71])]
      go_simp
      exact hK.out _ _ (Ext.refl _) rfl
     ·clear hl
      refine stp rfl ?_
      intro ac wi eI hold hpre K hK
      obtain ⟨x71, s71, j71⟩ := hpre 2 (by kernel_rfl) 71 rfl
      obtain rfl : x71 = (.bool true) := j71
      have o2 := hold 2 (by kernel_rfl)
      simp only [List.getElem?_toArray, List.getElem?_cons_succ, List.getElem?_cons_zero] at o2
      clear hold hpre
      rw [if_pos (by simp [Region.wanted, yielded, s71])]
      go_simp
      exact hK.out _ _ (Ext.refl _) rfl
     ·clear hl
      refine stp rfl ?_
      intro ac wi eI hold hpre K hK
      obtain ⟨x71, s71, j71⟩ := hpre 2 (by kernel_rfl) 71 rfl
      obtain rfl : x71 = (.bool true) := j71
      obtain ⟨x74, s74, j74⟩ := hpre 5 (by kernel_rfl) 74 rfl
      obtain rfl : x74 = (.pointer (some ⟨w.heap.size, 0, none⟩)) := j74
      clear hold hpre
      rw [if_pos (by simp [Region.wanted, yielded, s71])]
      have cc0 := eI.cell a0
      have cc1 := eI.cell a1
      have cc2 := eI.cell a2
      have cc3 := eI.cell o0
      have cc4 := eI.cell d0
      have cc5 := eI.cell d1
      have cc6 := eI.cell d2
      have cc7 := eI.cell d3
      go_simp
      exact hK.out _ _ (Ext.refl _) rfl
     ·clear hl
      refine stp rfl ?_
      intro ac wi eI hold hpre K hK
      obtain ⟨x71, s71, j71⟩ := hpre 2 (by kernel_rfl) 71 rfl
      obtain rfl : x71 = (.bool true) := j71
      obtain ⟨x75, s75, j75⟩ := hpre 6 (by kernel_rfl) 75 rfl
      obtain rfl : x75 = (.slice (some ⟨b, off, none⟩) m c1) := j75
      clear hold hpre
      rw [if_pos (by simp [Region.wanted, yielded, s71])]
      go_simp
      exact hK.out _ _ (Ext.refl _) rfl
     ·clear hl
      refine stp rfl ?_
      intro ac wi eI hold hpre K hK
      obtain ⟨x71, s71, j71⟩ := hpre 2 (by kernel_rfl) 71 rfl
      obtain rfl : x71 = (.bool true) := j71
      obtain ⟨x76, s76, j76⟩ := hpre 7 (by kernel_rfl) 76 rfl
      obtain rfl : x76 = (.pointer (some ⟨b, off, none⟩)) := j76
      clear hold hpre
      rw [if_pos (by simp [Region.wanted, yielded, s71])]
      have cc0 := eI.cell a0
      have cc1 := eI.cell a1
      have cc2 := eI.cell a2
      have cc3 := eI.cell o0
      have cc4 := eI.cell d0
      have cc5 := eI.cell d1
      have cc6 := eI.cell d2
      have cc7 := eI.cell d3
      go_simp
      exact hK.out _ _ (Ext.refl _) rfl
     ·clear hl
      refine stp rfl ?_
      intro ac wi eI hold hpre K hK
      obtain ⟨x71, s71, j71⟩ := hpre 2 (by kernel_rfl) 71 rfl
      obtain rfl : x71 = (.bool true) := j71
      obtain ⟨x77, s77, j77⟩ := hpre 8 (by kernel_rfl) 77 rfl
      obtain rfl : x77 = (.slice AL nx cL) := j77
      clear hold hpre
      rw [if_pos (by simp [Region.wanted, yielded, s71])]
      go_simp
      exact hK.out _ _ (Ext.refl _) rfl
     ·clear hl
      refine stp rfl ?_
      intro ac wi eI hold hpre K hK
      obtain ⟨x71, s71, j71⟩ := hpre 2 (by kernel_rfl) 71 rfl
      obtain rfl : x71 = (.bool true) := j71
      obtain ⟨x73, s73, j73⟩ := hpre 4 (by kernel_rfl) 73 rfl
      obtain rfl : x73 = (.int .i64 (nx : Int)) := j73
      obtain ⟨x78, s78, j78⟩ := hpre 9 (by kernel_rfl) 78 rfl
      obtain rfl : x78 = (.int .i64 (nx : Int)) := j78
      clear hold hpre
      rw [if_pos (by simp [Region.wanted, yielded, s71])]
      go_simp
      exact hK.out _ _ (Ext.refl _) rfl
     ·clear hl
      refine stp rfl ?_
      intro ac wi eI hold hpre K hK
      obtain ⟨x71, s71, j71⟩ := hpre 2 (by kernel_rfl) 71 rfl
      obtain rfl : x71 = (.bool true) := j71
      obtain ⟨x79, s79, j79⟩ := hpre 10 (by kernel_rfl) 79 rfl
      obtain rfl : x79 = (.bool true) := j79
      clear hold hpre
      go_simp
      exact hK.out _ _ (Ext.refl _) rfl
     ·clear hl
      refine stp rfl ?_
      intro ac wi eI hold hpre K hK
      obtain ⟨x80, s80, j80⟩ := hpre 11 (by kernel_rfl) 80 rfl
      obtain rfl : x80 = (.bool true) := j80
      clear hold hpre
      go_simp
      exact hK.out _ _ (Ext.refl _) rfl
     ·clear hl
      refine stp rfl ?_
      intro ac wi eI hold hpre K hK
      obtain ⟨x81, s81, j81⟩ := hpre 12 (by kernel_rfl) 81 rfl
      obtain rfl : x81 = (.bool true) := j81
      have o10 := hold 10 (by kernel_rfl)
      simp only [List.getElem?_toArray, List.getElem?_cons_succ, List.getElem?_cons_zero] at o10
      clear hold hpre
      rw [if_pos (by simp [Region.wanted, yielded, s81])]
      have cc0 := eI.cell a0
      have cc1 := eI.cell a1
      have cc2 := eI.cell a2
      have cc3 := eI.cell o0
      have cc4 := eI.cell d0
      have cc5 := eI.cell d1
      have cc6 := eI.cell d2
      have cc7 := eI.cell d3
      go_simp
      exact hK.out _ _ (Ext.refl _) ((RatV.mk hb9 g9 g10).ext eI)
     ·clear hl
      refine stp rfl ?_
      intro ac wi eI hold hpre K hK
      obtain ⟨x81, s81, j81⟩ := hpre 12 (by kernel_rfl) 81 rfl
      obtain rfl : x81 = (.bool true) := j81
      have o2 := hold 2 (by kernel_rfl)
      simp only [List.getElem?_toArray, List.getElem?_cons_succ, List.getElem?_cons_zero] at o2
      clear hold hpre
      rw [if_pos (by simp [Region.wanted, yielded, s81])]
      have cc0 := eI.cell a0
      have cc1 := eI.cell a1
      have cc2 := eI.cell a2
      have cc3 := eI.cell o0
      have cc4 := eI.cell d0
      have cc5 := eI.cell d1
      have cc6 := eI.cell d2
      have cc7 := eI.cell d3
      go_simp
      exact hK.out _ _ (Ext.refl _) rfl
     ·clear hl
      refine stp rfl ?_
      intro ac wi eI hold hpre K hK
      obtain ⟨x81, s81, j81⟩ := hpre 12 (by kernel_rfl) 81 rfl
      obtain rfl : x81 = (.bool true) := j81
      have o2 := hold 2 (by kernel_rfl)
      simp only [List.getElem?_toArray, List.getElem?_cons_succ, List.getElem?_cons_zero] at o2
      clear hold hpre
      rw [if_pos (by simp [Region.wanted, yielded, s81])]
      have cc0 := eI.cell a0
      have cc1 := eI.cell a1
      have cc2 := eI.cell a2
      have cc3 := eI.cell o0
      have cc4 := eI.cell d0
      have cc5 := eI.cell d1
      have cc6 := eI.cell d2
      have cc7 := eI.cell d3
      go_simp
      exact hK.out _ _ (Ext.refl _) rfl
     ·clear hl
      refine stp rfl ?_
      intro ac wi eI hold hpre K hK
      obtain ⟨x81, s81, j81⟩ := hpre 12 (by kernel_rfl) 81 rfl
      obtain rfl : x81 = (.bool true) := j81
      have o1 := hold 1 (by kernel_rfl)
      simp only [List.getElem?_toArray, List.getElem?_cons_succ, List.getElem?_cons_zero] at o1
      clear hold hpre
      rw [if_pos (by simp [Region.wanted, yielded, s81])]
      go_simp
      exact hK.out _ _ (Ext.refl _) rfl
     ·clear hl
      refine stp rfl ?_
      intro ac wi eI hold hpre K hK
      obtain ⟨x81, s81, j81⟩ := hpre 12 (by kernel_rfl) 81 rfl
      obtain rfl : x81 = (.bool true) := j81
      obtain ⟨x84, s84, j84⟩ := hpre 15 (by kernel_rfl) 84 rfl
      obtain rfl : x84 = (.agg #[.slice (some ⟨b, off, none⟩) m c1, .slice A2 m c2, .slice A3 m c3]) := j84
      obtain ⟨x85, s85, j85⟩ := hpre 16 (by kernel_rfl) 85 rfl
      obtain rfl : x85 = (.slice A4 nx c4) := j85
      clear hold hpre
      rw [if_pos (by simp [Region.wanted, yielded, s81])]
      go_simp
      refine (l37_residuals (h1.ext (hE.trans eI)) (h2.ext (hE.trans eI)) (h3.ext (hE.trans eI)) (hXV.ext eI) (by omega) hn0 (by omega) HX.out HY.out HXR.out (by omega)).mono ?_
      rintro e wj ⟨Aj, cj, rfl, hj, ej⟩
      go_wp2_with fail
      exact hK.out _ _ ej (LsR.wide hj (Nat.zero_le _) (Nat.le_refl _) (Nat.le_refl _))
     ·clear hl
      refine stp rfl ?_
      intro ac wi eI hold hpre K hK
      obtain ⟨x81, s81, j81⟩ := hpre 12 (by kernel_rfl) 81 rfl
      obtain rfl : x81 = (.bool true) := j81
      obtain ⟨x83, s83, j83⟩ := hpre 14 (by kernel_rfl) 83 rfl
      obtain rfl : x83 = (.agg #[.slice (some ⟨b, off, none⟩) m c1, .slice A2 m c2, .slice A3 m c3]) := j83
      obtain ⟨x86, s86, j86⟩ := hpre 17 (by kernel_rfl) 86 rfl
      replace j86 : Mn.p (Mn.ls N m (fun i => av nx X xr i - y i)) x86 wi := j86
      clear hold hpre
      rw [if_pos (by simp [Region.wanted, yielded, s81])]
      go_simp
      refine (l37_total (h1.ext (hE.trans eI)) (h2.ext (hE.trans eI)) (h3.ext (hE.trans eI)) j86 hm0 (by omega) HP.out HRH.out (by omega)).mono ?_
      rintro e wj ⟨vj, rfl, hj, ej⟩
      go_wp2_with fail
      rw [← hT2.out] at hj
      exact hK.out _ _ ej hj
     ·clear hl
      refine stp rfl ?_
      intro ac wi eI hold hpre K hK
      obtain ⟨x81, s81, j81⟩ := hpre 12 (by kernel_rfl) 81 rfl
      obtain rfl : x81 = (.bool true) := j81
      obtain ⟨x82, s82, j82⟩ := hpre 13 (by kernel_rfl) 82 rfl
      replace j82 : Mn.p (Mn.rat N T) x82 wi := j82
      obtain ⟨x87, s87, j87⟩ := hpre 18 (by kernel_rfl) 87 rfl
      replace j87 : Mn.p (Mn.rat N T2) x87 wi := j87
      clear hold hpre
      rw [if_pos (by simp [Region.wanted, yielded, s81])]
      go_simp
      refine (r2_compare j82 j87 (HTH.out.sz (by omega)) (HT2.out.sz (by omega)) HSD.out).mono ?_
      rintro e wj ⟨rfl, ej⟩
      rw [← hsg.out]
      go_wp2_with fail
      exact hK.out _ _ ej rfl
     ·clear hl
      refine stp rfl ?_
      intro ac wi eI hold hpre K hK
      obtain ⟨x81, s81, j81⟩ := hpre 12 (by kernel_rfl) 81 rfl
      obtain rfl : x81 = (.bool true) := j81
      obtain ⟨x88, s88, j88⟩ := hpre 19 (by kernel_rfl) 88 rfl
      obtain rfl : x88 = (.int .i64 sg) := j88
      clear hold hpre
      rw [if_pos (by simp [Region.wanted, yielded, s81])]
      go_simp
      exact hK.out _ _ (Ext.refl _) rfl
     ·clear hl
      refine stp rfl ?_
      intro ac wi eI hold hpre K hK
      obtain ⟨x81, s81, j81⟩ := hpre 12 (by kernel_rfl) 81 rfl
      obtain rfl : x81 = (.bool true) := j81
      obtain ⟨x89, s89, j89⟩ := hpre 20 (by kernel_rfl) 89 rfl
      obtain rfl : x89 = (.bool false) := j89
      clear hold hpre
      go_simp
      exact hK.out _ _ (Ext.refl _) rfl
    intro vals wz eZ hJ
    have J69 : Mn.p (Mn.eq (.slice A4 nx c4)) (vals 0) wz := hJ 0 (by decide) (by decide)
    have J70 : Mn.p (Mn.eq (.bool true)) (vals 1) wz := hJ 1 (by decide) (by decide)
    have J71 : Mn.p (Mn.eq (.bool true)) (vals 2) wz := hJ 2 (by decide) (by decide)
    have J72 : Mn.p (Mn.eq (.slice A4 nx c4)) (vals 3) wz := hJ 3 (by decide) (by decide)
    have J73 : Mn.p (Mn.eq (.int .i64 (nx : Int))) (vals 4) wz := hJ 4 (by decide) (by decide)
    have J74 : Mn.p (Mn.eq (.pointer (some ⟨w.heap.size, 0, none⟩))) (vals 5) wz := hJ 5 (by decide) (by decide)
    have J75 : Mn.p (Mn.eq (.slice (some ⟨b, off, none⟩) m c1)) (vals 6) wz := hJ 6 (by decide) (by decide)
    have J76 : Mn.p (Mn.eq (.pointer (some ⟨b, off, none⟩))) (vals 7) wz := hJ 7 (by decide) (by decide)
    have J77 : Mn.p (Mn.eq (.slice AL nx cL)) (vals 8) wz := hJ 8 (by decide) (by decide)
    have J78 : Mn.p (Mn.eq (.int .i64 (nx : Int))) (vals 9) wz := hJ 9 (by decide) (by decide)
    have J79 : Mn.p (Mn.eq (.bool true)) (vals 10) wz := hJ 10 (by decide) (by decide)
    have J80 : Mn.p (Mn.eq (.bool true)) (vals 11) wz := hJ 11 (by decide) (by decide)
    have J81 : Mn.p (Mn.eq (.bool true)) (vals 12) wz := hJ 12 (by decide) (by decide)
    have J82 : Mn.p (Mn.rat N T) (vals 13) wz := hJ 13 (by decide) (by decide)
    have J83 : Mn.p (Mn.eq (.agg #[.slice (some ⟨b, off, none⟩) m c1, .slice A2 m c2, .slice A3 m c3])) (vals 14) wz := hJ 14 (by decide) (by decide)
    have J84 : Mn.p (Mn.eq (.agg #[.slice (some ⟨b, off, none⟩) m c1, .slice A2 m c2, .slice A3 m c3])) (vals 15) wz := hJ 15 (by decide) (by decide)
    have J85 : Mn.p (Mn.eq (.slice A4 nx c4)) (vals 16) wz := hJ 16 (by decide) (by decide)
    have J86 : Mn.p (Mn.ls N m (fun i => av nx X xr i - y i)) (vals 17) wz := hJ 17 (by decide) (by decide)
    have J87 : Mn.p (Mn.rat N T2) (vals 18) wz := hJ 18 (by decide) (by decide)
    have J88 : Mn.p (Mn.eq (.int .i64 sg)) (vals 19) wz := hJ 19 (by decide) (by decide)
    have J89 : Mn.p (Mn.eq (.bool false)) (vals 20) wz := hJ 20 (by decide) (by decide)
    have J90 : Mn.p (Mn.eq (.bool false)) (vals 21) wz := hJ 21 (by decide) (by decide)
    clear hJ
    simp only [putAll, if_true, Bool.false_eq_true, if_false, Act.put, Nat.zero_add, Nat.reduceAdd, List.setIfInBounds_toArray, List.set_cons_zero, List.set_cons_succ]
    generalize vals 0 = z69 at J69 ⊢
    obtain rfl : z69 = (.slice A4 nx c4) := J69
    generalize vals 1 = z70 at J70 ⊢
    obtain rfl : z70 = (.bool true) := J70
    generalize vals 2 = z71 at J71 ⊢
    obtain rfl : z71 = (.bool true) := J71
    generalize vals 3 = z72 at J72 ⊢
    obtain rfl : z72 = (.slice A4 nx c4) := J72
    generalize vals 4 = z73 at J73 ⊢
    obtain rfl : z73 = (.int .i64 (nx : Int)) := J73
    generalize vals 5 = z74 at J74 ⊢
    obtain rfl : z74 = (.pointer (some ⟨w.heap.size, 0, none⟩)) := J74
    generalize vals 6 = z75 at J75 ⊢
    obtain rfl : z75 = (.slice (some ⟨b, off, none⟩) m c1) := J75
    generalize vals 7 = z76 at J76 ⊢
    obtain rfl : z76 = (.pointer (some ⟨b, off, none⟩)) := J76
    generalize vals 8 = z77 at J77 ⊢
    obtain rfl : z77 = (.slice AL nx cL) := J77
    generalize vals 9 = z78 at J78 ⊢
    obtain rfl : z78 = (.int .i64 (nx : Int)) := J78
    generalize vals 10 = z79 at J79 ⊢
    obtain rfl : z79 = (.bool true) := J79
    generalize vals 11 = z80 at J80 ⊢
    obtain rfl : z80 = (.bool true) := J80
    generalize vals 12 = z81 at J81 ⊢
    obtain rfl : z81 = (.bool true) := J81
    generalize vals 13 = z82 at J82 ⊢
    generalize vals 14 = z83 at J83 ⊢
    obtain rfl : z83 = (.agg #[.slice (some ⟨b, off, none⟩) m c1, .slice A2 m c2, .slice A3 m c3]) := J83
    generalize vals 15 = z84 at J84 ⊢
    obtain rfl : z84 = (.agg #[.slice (some ⟨b, off, none⟩) m c1, .slice A2 m c2, .slice A3 m c3]) := J84
    generalize vals 16 = z85 at J85 ⊢
    obtain rfl : z85 = (.slice A4 nx c4) := J85
    generalize vals 17 = z86 at J86 ⊢
    generalize vals 18 = z87 at J87 ⊢
    generalize vals 19 = z88 at J88 ⊢
    obtain rfl : z88 = (.int .i64 sg) := J88
    generalize vals 20 = z89 at J89 ⊢
    obtain rfl : z89 = (.bool false) := J89
    generalize vals 21 = z90 at J90 ⊢
    obtain rfl : z90 = (.bool false) := J90
    refine stepL_done (by kernel_rfl) ?_ _
    go_wp2_with fail
    go_meet
    exact ⟨rfl, eZ⟩
   ·have t1 : ((nx : Int) == (n : Int)) = false := beq_eq_false_iff_ne.2 (by omega)
    refine region_inv [Mn.eq (.slice A4 nx c4), Mn.eq (.bool true), Mn.eq (.bool true), Mn.eq (.slice A4 nx c4), Mn.eq (.int .i64 (nx : Int)), Mn.eq (.pointer (some ⟨w.heap.size, 0, none⟩)), Mn.eq (.slice (some ⟨b, off, none⟩) m c1), Mn.eq (.pointer (some ⟨b, off, none⟩)), Mn.eq (.slice AL n cL), Mn.eq (.int .i64 (n : Int)), Mn.eq (.bool false), Mn.eq (.bool false), Mn.eq (.bool false), Mn.any, Mn.any, Mn.any, Mn.any, Mn.any, Mn.any, Mn.any, Mn.any, Mn.eq (.bool false)] [some 69, some 70, some 71, some 72, some 73, some 74, some 75, some 76, some 77, some 78, some 79, some 80, some 81, some 82, some 83, some 84, some 85, some 86, some 87, some 88, some 89, some 90] [] [true, true, true, true, true, true, true, true, true, true, true, true, true, true, true, true, true, true, true, true, true, true] 0 (by kernel_rfl) (by kernel_rfl) (by kernel_rfl) (by kernel_rfl) (by kernel_rfl) (by kernel_rfl) (by kernel_rfl) (by kernel_rfl) ?_ ?_
    ·intro i hi hl
     have hi' : i = 0 ∨ i = 1 ∨ i = 2 ∨ i = 3 ∨ i = 4 ∨ i = 5 ∨ i = 6 ∨ i = 7 ∨ i = 8 ∨ i = 9 ∨ i = 10 ∨ i = 11 ∨ i = 12 ∨ i = 13 ∨ i = 14 ∨ i = 15 ∨ i = 16 ∨ i = 17 ∨ i = 18 ∨ i = 19 ∨ i = 20 ∨ i = 21 := by have h9 : i < 22 := hi; omega
     clear hi
     rcases hi' with rfl | rfl | rfl | rfl | rfl | rfl | rfl | rfl | rfl | rfl | rfl | rfl | rfl | rfl | rfl | rfl | rfl | rfl | rfl | rfl | rfl | rfl
     ·clear hl
      refine stp rfl ?_
      intro ac wi eI hold hpre K hK
      have o1 := hold 1 (by kernel_rfl)
      simp only [List.getElem?_toArray, List.getElem?_cons_succ, List.getElem?_cons_zero] at o1
      clear hold hpre
      go_simp
      exact hK.out _ _ (Ext.refl _) rfl
     ·clear hl
      refine stp rfl ?_
      intro ac wi eI hold hpre K hK
      obtain ⟨x69, s69, j69⟩ := hpre 0 (by kernel_rfl) 69 rfl
      obtain rfl : x69 = (.slice A4 nx c4) := j69
      clear hold hpre
      go_simp
      refine (r2_validList (hXE.ext eI) (fun i hi => (brief_raw (HBR.out i hi)).1)).mono ?_
      rintro e wj ⟨rfl, ej⟩
      rw [← hsv.out]
      go_wp2_with fail
      exact hK.out _ _ ej rfl
     ·clear hl
      refine stp rfl ?_
      intro ac wi eI hold hpre K hK
      obtain ⟨x70, s70, j70⟩ := hpre 1 (by kernel_rfl) 70 rfl
      obtain rfl : x70 = (.bool true) := j70
      clear hold hpre
      go_simp
      exact hK.out _ _ (Ext.refl _) rfl
     ·clear hl
      refine stp rfl ?_
      intro ac wi eI hold hpre K hK
      obtain ⟨x71, s71, j71⟩ := hpre 2 (by kernel_rfl) 71 rfl
      obtain rfl : x71 = (.bool true) := j71
      have o1 := hold 1 (by kernel_rfl)
      simp only [List.getElem?_toArray, List.getElem?_cons_succ, List.getElem?_cons_zero] at o1
      clear hold hpre
      rw [if_pos (by simp [Region.wanted, yielded, s71])]
      go_simp
      exact hK.out _ _ (Ext.refl _) rfl
     ·clear hl
      refine stp rfl ?_
      intro ac wi eI hold hpre K hK
      obtain ⟨x71, s71, j71⟩ := hpre 2 (by kernel_rfl) 71 rfl
      obtain rfl : x71 = (.bool true) := j71
      obtain ⟨x72, s72, j72⟩ := hpre 3 (by kernel_rfl) 72 rfl
      obtain rfl : x72 = (.slice A4 nx c4) := j72
      clear hold hpre
      rw [if_pos (by simp [Region.wanted, yielded, s71])]
      go_simp
      exact hK.out _ _ (Ext.refl _) rfl
     ·clear hl
      refine stp rfl ?_
      intro ac wi eI hold hpre K hK
      obtain ⟨x71, s71, j71⟩ := hpre 2 (by kernel_rfl) 71 rfl
      obtain rfl : x71 = (.bool true) := j71
      have o2 := hold 2 (by kernel_rfl)
      simp only [List.getElem?_toArray, List.getElem?_cons_succ, List.getElem?_cons_zero] at o2
      clear hold hpre
      rw [if_pos (by simp [Region.wanted, yielded, s71])]
      go_simp
      exact hK.out _ _ (Ext.refl _) rfl
     ·clear hl
      refine stp rfl ?_
      intro ac wi eI hold hpre K hK
      obtain ⟨x71, s71, j71⟩ := hpre 2 (by kernel_rfl) 71 rfl
      obtain rfl : x71 = (.bool true) := j71
      obtain ⟨x74, s74, j74⟩ := hpre 5 (by kernel_rfl) 74 rfl
      obtain rfl : x74 = (.pointer (some ⟨w.heap.size, 0, none⟩)) := j74
      clear hold hpre
      rw [if_pos (by simp [Region.wanted, yielded, s71])]
      have cc0 := eI.cell a0
      have cc1 := eI.cell a1
      have cc2 := eI.cell a2
      have cc3 := eI.cell o0
      have cc4 := eI.cell d0
      have cc5 := eI.cell d1
      have cc6 := eI.cell d2
      have cc7 := eI.cell d3
      go_simp
      exact hK.out _ _ (Ext.refl _) rfl
     ·clear hl
      refine stp rfl ?_
      intro ac wi eI hold hpre K hK
      obtain ⟨x71, s71, j71⟩ := hpre 2 (by kernel_rfl) 71 rfl
      obtain rfl : x71 = (.bool true) := j71
      obtain ⟨x75, s75, j75⟩ := hpre 6 (by kernel_rfl) 75 rfl
      obtain rfl : x75 = (.slice (some ⟨b, off, none⟩) m c1) := j75
      clear hold hpre
      rw [if_pos (by simp [Region.wanted, yielded, s71])]
      go_simp
      exact hK.out _ _ (Ext.refl _) rfl
     ·clear hl
      refine stp rfl ?_
      intro ac wi eI hold hpre K hK
      obtain ⟨x71, s71, j71⟩ := hpre 2 (by kernel_rfl) 71 rfl
      obtain rfl : x71 = (.bool true) := j71
      obtain ⟨x76, s76, j76⟩ := hpre 7 (by kernel_rfl) 76 rfl
      obtain rfl : x76 = (.pointer (some ⟨b, off, none⟩)) := j76
      clear hold hpre
      rw [if_pos (by simp [Region.wanted, yielded, s71])]
      have cc0 := eI.cell a0
      have cc1 := eI.cell a1
      have cc2 := eI.cell a2
      have cc3 := eI.cell o0
      have cc4 := eI.cell d0
      have cc5 := eI.cell d1
      have cc6 := eI.cell d2
      have cc7 := eI.cell d3
      go_simp
      exact hK.out _ _ (Ext.refl _) rfl
     ·clear hl
      refine stp rfl ?_
      intro ac wi eI hold hpre K hK
      obtain ⟨x71, s71, j71⟩ := hpre 2 (by kernel_rfl) 71 rfl
      obtain rfl : x71 = (.bool true) := j71
      obtain ⟨x77, s77, j77⟩ := hpre 8 (by kernel_rfl) 77 rfl
      obtain rfl : x77 = (.slice AL n cL) := j77
      clear hold hpre
      rw [if_pos (by simp [Region.wanted, yielded, s71])]
      go_simp
      exact hK.out _ _ (Ext.refl _) rfl
     ·clear hl
      refine stp rfl ?_
      intro ac wi eI hold hpre K hK
      obtain ⟨x71, s71, j71⟩ := hpre 2 (by kernel_rfl) 71 rfl
      obtain rfl : x71 = (.bool true) := j71
      obtain ⟨x73, s73, j73⟩ := hpre 4 (by kernel_rfl) 73 rfl
      obtain rfl : x73 = (.int .i64 (nx : Int)) := j73
      obtain ⟨x78, s78, j78⟩ := hpre 9 (by kernel_rfl) 78 rfl
      obtain rfl : x78 = (.int .i64 (n : Int)) := j78
      clear hold hpre
      rw [if_pos (by simp [Region.wanted, yielded, s71])]
      go_simp
      exact hK.out _ _ (Ext.refl _) rfl
     ·clear hl
      refine stp rfl ?_
      intro ac wi eI hold hpre K hK
      obtain ⟨x71, s71, j71⟩ := hpre 2 (by kernel_rfl) 71 rfl
      obtain rfl : x71 = (.bool true) := j71
      obtain ⟨x79, s79, j79⟩ := hpre 10 (by kernel_rfl) 79 rfl
      obtain rfl : x79 = (.bool false) := j79
      clear hold hpre
      go_simp
      exact hK.out _ _ (Ext.refl _) rfl
     ·clear hl
      refine stp rfl ?_
      intro ac wi eI hold hpre K hK
      obtain ⟨x80, s80, j80⟩ := hpre 11 (by kernel_rfl) 80 rfl
      obtain rfl : x80 = (.bool false) := j80
      clear hold hpre
      go_simp
      exact hK.out _ _ (Ext.refl _) rfl
     ·clear hl
      refine stp rfl ?_
      intro ac wi eI hold hpre K hK
      obtain ⟨x81, s81, j81⟩ := hpre 12 (by kernel_rfl) 81 rfl
      obtain rfl : x81 = (.bool false) := j81
      have o10 := hold 10 (by kernel_rfl)
      simp only [List.getElem?_toArray, List.getElem?_cons_succ, List.getElem?_cons_zero] at o10
      clear hold hpre
      rw [if_neg (by simp [Region.wanted, yielded, s81])]
      exact hK.out _ _ (Ext.refl _) trivial
     ·clear hl
      refine stp rfl ?_
      intro ac wi eI hold hpre K hK
      obtain ⟨x81, s81, j81⟩ := hpre 12 (by kernel_rfl) 81 rfl
      obtain rfl : x81 = (.bool false) := j81
      have o2 := hold 2 (by kernel_rfl)
      simp only [List.getElem?_toArray, List.getElem?_cons_succ, List.getElem?_cons_zero] at o2
      clear hold hpre
      rw [if_neg (by simp [Region.wanted, yielded, s81])]
      exact hK.out _ _ (Ext.refl _) trivial
     ·clear hl
      refine stp rfl ?_
      intro ac wi eI hold hpre K hK
      obtain ⟨x81, s81, j81⟩ := hpre 12 (by kernel_rfl) 81 rfl
      obtain rfl : x81 = (.bool false) := j81
      have o2 := hold 2 (by kernel_rfl)
      simp only [List.getElem?_toArray, List.getElem?_cons_succ, List.getElem?_cons_zero] at o2
      clear hold hpre
      rw [if_neg (by simp [Region.wanted, yielded, s81])]
      exact hK.out _ _ (Ext.refl _) trivial
     ·clear hl
      refine stp rfl ?_
      intro ac wi eI hold hpre K hK
      obtain ⟨x81, s81, j81⟩ := hpre 12 (by kernel_rfl) 81 rfl
      obtain rfl : x81 = (.bool false) := j81
      have o1 := hold 1 (by kernel_rfl)
      simp only [List.getElem?_toArray, List.getElem?_cons_succ, List.getElem?_cons_zero] at o1
      clear hold hpre
      rw [if_neg (by simp [Region.wanted, yielded, s81])]
      exact hK.out _ _ (Ext.refl _) trivial
     ·clear hl
      refine stp rfl ?_
      intro ac wi eI hold hpre K hK
      obtain ⟨x81, s81, j81⟩ := hpre 12 (by kernel_rfl) 81 rfl
      obtain rfl : x81 = (.bool false) := j81
      obtain ⟨x84, s84, j84⟩ := hpre 15 (by kernel_rfl) 84 rfl
      replace j84 : Mn.p (Mn.any) x84 wi := j84
      obtain ⟨x85, s85, j85⟩ := hpre 16 (by kernel_rfl) 85 rfl
      replace j85 : Mn.p (Mn.any) x85 wi := j85
      clear hold hpre
      rw [if_neg (by simp [Region.wanted, yielded, s81])]
      exact hK.out _ _ (Ext.refl _) trivial
     ·clear hl
      refine stp rfl ?_
      intro ac wi eI hold hpre K hK
      obtain ⟨x81, s81, j81⟩ := hpre 12 (by kernel_rfl) 81 rfl
      obtain rfl : x81 = (.bool false) := j81
      obtain ⟨x83, s83, j83⟩ := hpre 14 (by kernel_rfl) 83 rfl
      replace j83 : Mn.p (Mn.any) x83 wi := j83
      obtain ⟨x86, s86, j86⟩ := hpre 17 (by kernel_rfl) 86 rfl
      replace j86 : Mn.p (Mn.any) x86 wi := j86
      clear hold hpre
      rw [if_neg (by simp [Region.wanted, yielded, s81])]
      exact hK.out _ _ (Ext.refl _) trivial
     ·clear hl
      refine stp rfl ?_
      intro ac wi eI hold hpre K hK
      obtain ⟨x81, s81, j81⟩ := hpre 12 (by kernel_rfl) 81 rfl
      obtain rfl : x81 = (.bool false) := j81
      obtain ⟨x82, s82, j82⟩ := hpre 13 (by kernel_rfl) 82 rfl
      replace j82 : Mn.p (Mn.any) x82 wi := j82
      obtain ⟨x87, s87, j87⟩ := hpre 18 (by kernel_rfl) 87 rfl
      replace j87 : Mn.p (Mn.any) x87 wi := j87
      clear hold hpre
      rw [if_neg (by simp [Region.wanted, yielded, s81])]
      exact hK.out _ _ (Ext.refl _) trivial
     ·clear hl
      refine stp rfl ?_
      intro ac wi eI hold hpre K hK
      obtain ⟨x81, s81, j81⟩ := hpre 12 (by kernel_rfl) 81 rfl
      obtain rfl : x81 = (.bool false) := j81
      obtain ⟨x88, s88, j88⟩ := hpre 19 (by kernel_rfl) 88 rfl
      replace j88 : Mn.p (Mn.any) x88 wi := j88
      clear hold hpre
      rw [if_neg (by simp [Region.wanted, yielded, s81])]
      exact hK.out _ _ (Ext.refl _) trivial
     ·clear hl
      refine stp rfl ?_
      intro ac wi eI hold hpre K hK
      obtain ⟨x81, s81, j81⟩ := hpre 12 (by kernel_rfl) 81 rfl
      obtain rfl : x81 = (.bool false) := j81
      obtain ⟨x89, s89, j89⟩ := hpre 20 (by kernel_rfl) 89 rfl
      replace j89 : Mn.p (Mn.any) x89 wi := j89
      clear hold hpre
      go_simp
      exact hK.out _ _ (Ext.refl _) rfl
    intro vals wz eZ hJ
    have J69 : Mn.p (Mn.eq (.slice A4 nx c4)) (vals 0) wz := hJ 0 (by decide) (by decide)
    have J70 : Mn.p (Mn.eq (.bool true)) (vals 1) wz := hJ 1 (by decide) (by decide)
    have J71 : Mn.p (Mn.eq (.bool true)) (vals 2) wz := hJ 2 (by decide) (by decide)
    have J72 : Mn.p (Mn.eq (.slice A4 nx c4)) (vals 3) wz := hJ 3 (by decide) (by decide)
    have J73 : Mn.p (Mn.eq (.int .i64 (nx : Int))) (vals 4) wz := hJ 4 (by decide) (by decide)
    have J74 : Mn.p (Mn.eq (.pointer (some ⟨w.heap.size, 0, none⟩))) (vals 5) wz := hJ 5 (by decide) (by decide)
    have J75 : Mn.p (Mn.eq (.slice (some ⟨b, off, none⟩) m c1)) (vals 6) wz := hJ 6 (by decide) (by decide)
    have J76 : Mn.p (Mn.eq (.pointer (some ⟨b, off, none⟩))) (vals 7) wz := hJ 7 (by decide) (by decide)
    have J77 : Mn.p (Mn.eq (.slice AL n cL)) (vals 8) wz := hJ 8 (by decide) (by decide)
    have J78 : Mn.p (Mn.eq (.int .i64 (n : Int))) (vals 9) wz := hJ 9 (by decide) (by decide)
    have J79 : Mn.p (Mn.eq (.bool false)) (vals 10) wz := hJ 10 (by decide) (by decide)
    have J80 : Mn.p (Mn.eq (.bool false)) (vals 11) wz := hJ 11 (by decide) (by decide)
    have J81 : Mn.p (Mn.eq (.bool false)) (vals 12) wz := hJ 12 (by decide) (by decide)
    have J82 : Mn.p (Mn.any) (vals 13) wz := hJ 13 (by decide) (by decide)
    have J83 : Mn.p (Mn.any) (vals 14) wz := hJ 14 (by decide) (by decide)
    have J84 : Mn.p (Mn.any) (vals 15) wz := hJ 15 (by decide) (by decide)
    have J85 : Mn.p (Mn.any) (vals 16) wz := hJ 16 (by decide) (by decide)
    have J86 : Mn.p (Mn.any) (vals 17) wz := hJ 17 (by decide) (by decide)
    have J87 : Mn.p (Mn.any) (vals 18) wz := hJ 18 (by decide) (by decide)
    have J88 : Mn.p (Mn.any) (vals 19) wz := hJ 19 (by decide) (by decide)
    have J89 : Mn.p (Mn.any) (vals 20) wz := hJ 20 (by decide) (by decide)
    have J90 : Mn.p (Mn.eq (.bool false)) (vals 21) wz := hJ 21 (by decide) (by decide)
    clear hJ
    simp only [putAll, if_true, Bool.false_eq_true, if_false, Act.put, Nat.zero_add, Nat.reduceAdd, List.setIfInBounds_toArray, List.set_cons_zero, List.set_cons_succ]
    generalize vals 0 = z69 at J69 ⊢
    obtain rfl : z69 = (.slice A4 nx c4) := J69
    generalize vals 1 = z70 at J70 ⊢
    obtain rfl : z70 = (.bool true) := J70
    generalize vals 2 = z71 at J71 ⊢
    obtain rfl : z71 = (.bool true) := J71
    generalize vals 3 = z72 at J72 ⊢
    obtain rfl : z72 = (.slice A4 nx c4) := J72
    generalize vals 4 = z73 at J73 ⊢
    obtain rfl : z73 = (.int .i64 (nx : Int)) := J73
    generalize vals 5 = z74 at J74 ⊢
    obtain rfl : z74 = (.pointer (some ⟨w.heap.size, 0, none⟩)) := J74
    generalize vals 6 = z75 at J75 ⊢
    obtain rfl : z75 = (.slice (some ⟨b, off, none⟩) m c1) := J75
    generalize vals 7 = z76 at J76 ⊢
    obtain rfl : z76 = (.pointer (some ⟨b, off, none⟩)) := J76
    generalize vals 8 = z77 at J77 ⊢
    obtain rfl : z77 = (.slice AL n cL) := J77
    generalize vals 9 = z78 at J78 ⊢
    obtain rfl : z78 = (.int .i64 (n : Int)) := J78
    generalize vals 10 = z79 at J79 ⊢
    obtain rfl : z79 = (.bool false) := J79
    generalize vals 11 = z80 at J80 ⊢
    obtain rfl : z80 = (.bool false) := J80
    generalize vals 12 = z81 at J81 ⊢
    obtain rfl : z81 = (.bool false) := J81
    generalize vals 13 = z82 at J82 ⊢
    generalize vals 14 = z83 at J83 ⊢
    generalize vals 15 = z84 at J84 ⊢
    generalize vals 16 = z85 at J85 ⊢
    generalize vals 17 = z86 at J86 ⊢
    generalize vals 18 = z87 at J87 ⊢
    generalize vals 19 = z88 at J88 ⊢
    generalize vals 20 = z89 at J89 ⊢
    generalize vals 21 = z90 at J90 ⊢
    obtain rfl : z90 = (.bool false) := J90
    refine stepL_done (by kernel_rfl) ?_ _
    go_wp2_with fail
    go_meet
    exact ⟨rfl, eZ⟩
 case rest =>
  obtain ⟨rfl, eW⟩ := hcut
  replace B6 := eW.block B6
  replace B10 := eW.block B10
  replace e67 := e67.trans eW
  replace g9 := g9.ext eW
  replace g10 := g10.ext eW
  clear d0 d1 d2 d3
  replace hE := hE.trans eW
  replace B0 := eW.block B0
  replace hsz := blk_lt B0
  clear a0 a1 a2
  obtain ⟨a0, a1, a2, -⟩ := cells3 B0
  clear eW
  go_upto_region 15 with (fail)
  have HFR : Hid ((m : Int) - (rk : Int) = (fr : Int)) := by rw [Hid, hfr.out]; omega
  refine region_inv [Mn.eq (.pointer (some ⟨w.heap.size, 0, none⟩)), Mn.eq (.slice A1 m c1), Mn.eq (.int .i64 (m : Int)), Mn.eq (.pointer (some ⟨w.heap.size, 0, none⟩)), Mn.eq (.slice A1 m c1), Mn.eq (.int .i64 (rk : Int)), Mn.eq (.int .i64 (fr : Int)), Mn.eq (.int .i64 (fr : Int))] [some 91, some 92, some 93, some 94, some 95, some 96, some 97, some 11] [] [true, true, true, true, true, true, true, true] 0 (by kernel_rfl) (by kernel_rfl) (by kernel_rfl) (by kernel_rfl) (by kernel_rfl) (by kernel_rfl) (by kernel_rfl) (by kernel_rfl) ?_ ?_
  ·intro i hi hl
   have hi' : i = 0 ∨ i = 1 ∨ i = 2 ∨ i = 3 ∨ i = 4 ∨ i = 5 ∨ i = 6 ∨ i = 7 := by have h9 : i < 8 := hi; omega
   clear hi
   rcases hi' with rfl | rfl | rfl | rfl | rfl | rfl | rfl | rfl
   ·clear hl
    refine stp rfl ?_
    intro ac wi eI hold hpre K hK
    have o2 := hold 2 (by kernel_rfl)
    simp only [List.getElem?_toArray, List.getElem?_cons_succ, List.getElem?_cons_zero] at o2
    clear hold hpre
    go_simp
    exact hK.out _ _ (Ext.refl _) rfl
   ·clear hl
    refine stp rfl ?_
    intro ac wi eI hold hpre K hK
    obtain ⟨x91, s91, j91⟩ := hpre 0 (by kernel_rfl) 91 rfl
    obtain rfl : x91 = (.pointer (some ⟨w.heap.size, 0, none⟩)) := j91
    clear hold hpre
    have cc0 := eI.cell a0
    go_simp
    exact hK.out _ _ (Ext.refl _) rfl
   ·clear hl
    refine stp rfl ?_
    intro ac wi eI hold hpre K hK
    obtain ⟨x92, s92, j92⟩ := hpre 1 (by kernel_rfl) 92 rfl
    obtain rfl : x92 = (.slice A1 m c1) := j92
    clear hold hpre
    go_simp
    exact hK.out _ _ (Ext.refl _) rfl
   ·clear hl
    refine stp rfl ?_
    intro ac wi eI hold hpre K hK
    have o2 := hold 2 (by kernel_rfl)
    simp only [List.getElem?_toArray, List.getElem?_cons_succ, List.getElem?_cons_zero] at o2
    clear hold hpre
    go_simp
    exact hK.out _ _ (Ext.refl _) rfl
   ·clear hl
    refine stp rfl ?_
    intro ac wi eI hold hpre K hK
    obtain ⟨x94, s94, j94⟩ := hpre 3 (by kernel_rfl) 94 rfl
    obtain rfl : x94 = (.pointer (some ⟨w.heap.size, 0, none⟩)) := j94
    clear hold hpre
    have cc0 := eI.cell a0
    go_simp
    exact hK.out _ _ (Ext.refl _) rfl
   ·clear hl
    refine stp rfl ?_
    intro ac wi eI hold hpre K hK
    obtain ⟨x95, s95, j95⟩ := hpre 4 (by kernel_rfl) 95 rfl
    obtain rfl : x95 = (.slice A1 m c1) := j95
    clear hold hpre
    go_simp
    refine (r5_rank (P := 4) (h1.ext (hE.trans eI)) hm0 (by omega) hn0 (by omega) HX.out (.inr hn) (by decide)).mono ?_
    rintro e wj ⟨rfl, ej⟩
    rw [← hrk.out]
    go_wp2_with fail
    exact hK.out _ _ ej rfl
   ·clear hl
    refine stp rfl ?_
    intro ac wi eI hold hpre K hK
    obtain ⟨x93, s93, j93⟩ := hpre 2 (by kernel_rfl) 93 rfl
    obtain rfl : x93 = (.int .i64 (m : Int)) := j93
    obtain ⟨x96, s96, j96⟩ := hpre 5 (by kernel_rfl) 96 rfl
    obtain rfl : x96 = (.int .i64 (rk : Int)) := j96
    clear hold hpre
    go_simp
    refine hK.out _ _ (Ext.refl _) ?_
    show Value.int .i64 _ = Value.int .i64 _
    rw [HFR.out]
    have hfb : fr ≤ 6 := by have := hfr.out; omega
    rw [Go.IntWalk.i64_in _ (by omega)]
   ·clear hl
    refine stp rfl ?_
    intro ac wi eI hold hpre K hK
    obtain ⟨x97, s97, j97⟩ := hpre 6 (by kernel_rfl) 97 rfl
    obtain rfl : x97 = (.int .i64 (fr : Int)) := j97
    clear hold hpre
    go_simp
    exact hK.out _ _ (Ext.refl _) rfl
  intro vals wz eZ hJ
  have J91 : Mn.p (Mn.eq (.pointer (some ⟨w.heap.size, 0, none⟩))) (vals 0) wz := hJ 0 (by decide) (by decide)
  have J92 : Mn.p (Mn.eq (.slice A1 m c1)) (vals 1) wz := hJ 1 (by decide) (by decide)
  have J93 : Mn.p (Mn.eq (.int .i64 (m : Int))) (vals 2) wz := hJ 2 (by decide) (by decide)
  have J94 : Mn.p (Mn.eq (.pointer (some ⟨w.heap.size, 0, none⟩))) (vals 3) wz := hJ 3 (by decide) (by decide)
  have J95 : Mn.p (Mn.eq (.slice A1 m c1)) (vals 4) wz := hJ 4 (by decide) (by decide)
  have J96 : Mn.p (Mn.eq (.int .i64 (rk : Int))) (vals 5) wz := hJ 5 (by decide) (by decide)
  have J97 : Mn.p (Mn.eq (.int .i64 (fr : Int))) (vals 6) wz := hJ 6 (by decide) (by decide)
  have J11 : Mn.p (Mn.eq (.int .i64 (fr : Int))) (vals 7) wz := hJ 7 (by decide) (by decide)
  clear hJ
  simp only [putAll, if_true, Bool.false_eq_true, if_false, Act.put, Nat.zero_add, Nat.reduceAdd, List.setIfInBounds_toArray, List.set_cons_zero, List.set_cons_succ]
  generalize vals 0 = z91 at J91 ⊢
  obtain rfl : z91 = (.pointer (some ⟨w.heap.size, 0, none⟩)) := J91
  generalize vals 1 = z92 at J92 ⊢
  obtain rfl : z92 = (.slice A1 m c1) := J92
  generalize vals 2 = z93 at J93 ⊢
  obtain rfl : z93 = (.int .i64 (m : Int)) := J93
  generalize vals 3 = z94 at J94 ⊢
  obtain rfl : z94 = (.pointer (some ⟨w.heap.size, 0, none⟩)) := J94
  generalize vals 4 = z95 at J95 ⊢
  obtain rfl : z95 = (.slice A1 m c1) := J95
  generalize vals 5 = z96 at J96 ⊢
  obtain rfl : z96 = (.int .i64 (rk : Int)) := J96
  generalize vals 6 = z97 at J97 ⊢
  obtain rfl : z97 = (.int .i64 (fr : Int)) := J97
  generalize vals 7 = z11 at J11 ⊢
  obtain rfl : z11 = (.int .i64 (fr : Int)) := J11
  refine stepL_done (by kernel_rfl) ?_ _
  replace B6 := eZ.block B6
  replace B10 := eZ.block B10
  replace e67 := e67.trans eZ
  replace g9 := g9.ext eZ
  replace g10 := g10.ext eZ
  replace hE := hE.trans eZ
  replace B0 := eZ.block B0
  replace hsz := blk_lt B0
  clear a0 a1 a2
  obtain ⟨a0, a1, a2, -⟩ := cells3 B0
  clear eZ
  by_cases hf0 : fr = 0
  ·subst hf0
   rcases HFAC.out with ⟨-, rfl, rfl, rfl, rfl, rfl, rfl, rfl, rfl⟩ | ⟨h0, -⟩
   ·clear a0 a1 a2
    obtain ⟨a0, a1, a2, a3, -⟩ := cells4 B6
    go_wp2_with (go_at_call 15; refine Hid.out ?_)
    refine r2_zero.mono ?_
    rintro e w8 ⟨rfl, e8⟩
    go_wp2
    go_ret
    exact ⟨rfl, hE.trans e8⟩
   ·exact absurd rfl h0
  ·rcases HFAC.out with ⟨h0, -⟩ | ⟨-, rfl, h6⟩
   ·exact absurd h0 hf0
   ·have hf1 : ((fr : Int) == 0) = false := beq_eq_false_iff_ne.2 (by omega)
    have h6' := h6.ext e67
    have HNE := Lib.hid (nat_ne hf0)
    have hfb : fr ≤ 6 := by have := hfr.out; omega
    have HSF : Hid (Sz (((fr : Nat) : Int) : Rat)) := (ht_nat fr 4 (Nat.lt_of_lt_of_le (by omega : fr < 16) (by decide)) (by omega)).sz (by omega)
    clear a0 a1 a2 h6 hf0
    obtain ⟨d0, d1, d2, d3, -⟩ := cells4 B10
    have hN2 : N ≤ wz.heap.size := by have := hE.size; omega
    go_upto_region 18 with (fail)
    go_cut [12] (fun pb wx => ∃ g : Nat, pb = .pointer (some ⟨g, 0, none⟩) ∧ wz.heap.size ≤ g ∧ g < wx.heap.size ∧ BoxR N wx g (T / (((fr : Nat) : Int) : Rat)) ∧ Ext wz wx)
    case first =>
     have eC := (Ext.refl wz).drew
     refine region_late (fun w' => w'.cell? ⟨gT, 0, none⟩ = some (.bool b9) ∧ w'.cell? ⟨gT, 1, none⟩ = some (.slice A9 k9 c9) ∧ w'.cell? ⟨gT, 2, none⟩ = some (.bool false) ∧ w'.cell? ⟨gT, 3, none⟩ = some (.slice A10 k10 c10)) [8] (by kernel_rfl) (by exact ⟨eC.cell d0, eC.cell d1, eC.cell d2, eC.cell d3⟩) (fun hHeld => ?_)
     refine stepL_take (i := 0) (v := ?_) rfl (by kernel_rfl) (by kernel_rfl) (by kernel_rfl) (by kernel_rfl) (fun _ _ _ h => h) (Or.inl ⟨by rfl, ?_⟩) (by assumption) ?_
     rotate_left
     ·(intro w hSw; (try dsimp only at hSw); go_simp; (try (rw [if_pos (by omega)])); (try with_reducible rfl))
     try simp only [nr]
     refine stepL_pure (i := 1) (v := ?_) rfl (by kernel_rfl) (by kernel_rfl) (by kernel_rfl) (fun _ _ _ h => h) (Or.inl ⟨by rfl, ?_⟩) ?_
     rotate_left
     ·(intro w hSw; (try dsimp only at hSw); go_simp; (try (rw [if_pos (by omega)])); (try with_reducible rfl))
     try simp only [nr]
     refine stepL_two (i := 2) (j := 7) rfl rfl (by kernel_rfl) (fun K hK => ?_) (fun K hK => ?_)
     ·go_simp
      refine (r2_Whole (N := N) (by have h8 := eC.size; have h9 : wz.drew.heap.size = wz.heap.size := rfl; omega) (fr : Int) (by omega) (by omega)).mono ?_
      rintro e w14 ⟨v14, rfl, h14, e14⟩
      replace eC := eC.trans e14
      (try replace eA2 := eA2.trans e14)
      go_wp2_with fail
      refine hK.out _ _ (by exact ⟨eC.cell d0, eC.cell d1, eC.cell d2, eC.cell d3⟩) (fun hH => ?_)
      clear hHeld hK K
      have hHeld := hH
      clear hH
      try simp only [nr]
      refine stepL_two (i := 3) (j := 7) rfl rfl (by kernel_rfl) (fun K hK => ?_) (fun K hK => ?_)
      ·go_simp
       refine (r2_divide (x := T) (y := (((fr : Nat) : Int) : Rat)) (by exact (RatV.mk hb9 g9 g10).ext eC) (by first | exact h14 | exact h14.ext eA) (HTH.out.sz (by omega)) HSF.out HNE.out).mono ?_
       intro e w15 hh
       obtain ⟨b11, A11, k11, c11, A12, k12, c12, rfl, hb11, g11, g12, e15⟩ := hh.form
       replace eC := eC.trans e15
       (try replace eA2 := eA2.trans e15)
       go_wp2_with fail
       refine hK.out _ _ (by exact ⟨eC.cell d0, eC.cell d1, eC.cell d2, eC.cell d3⟩) (fun hH => ?_)
       clear hHeld hK K
       have hHeld := hH
       clear hH
       try simp only [nr]
       refine stepL_pure (i := 4) (v := ?_) rfl (by kernel_rfl) (by kernel_rfl) (by kernel_rfl) (fun _ _ _ h => h) (Or.inl ⟨by rfl, ?_⟩) ?_
       rotate_left
       ·(intro w hSw; (try dsimp only at hSw); go_simp; (try (rw [if_pos (by omega)])); (try with_reducible rfl))
       try simp only [nr]
       refine stepL_pure (i := 5) (v := ?_) rfl (by kernel_rfl) (by kernel_rfl) (by kernel_rfl) (fun _ _ _ h => h) (Or.inl ⟨by rfl, ?_⟩) ?_
       rotate_left
       ·(intro w hSw; (try dsimp only at hSw); go_simp; (try (rw [if_pos (by omega)])); (try with_reducible rfl))
       try simp only [nr]
       refine stepL_pure (i := 6) (v := ?_) rfl (by kernel_rfl) (by kernel_rfl) (by kernel_rfl) (fun _ _ _ h => h) (Or.inl ⟨by rfl, ?_⟩) ?_
       rotate_left
       ·(intro w hSw; (try dsimp only at hSw); go_simp; (try (rw [if_pos (by omega)])); (try with_reducible rfl))
       try simp only [nr]
       refine stepL_only (i := 7) rfl (by kernel_rfl) (fun K hK => ?_)
       go_simp
       first | refine boxes1 ?_ | refine boxesD1 ?_
       intro wA eA hszA BA
       have hgl : wz.heap.size ≤ _ := eC.size
       replace eC : Ext wz wA := by first | exact eC.trans eA | exact eA
       have eA2 := Ext.refl wA
       (try replace g11 := g11.ext eA)
       (try replace g12 := g12.ext eA)
       refine hK.out _ _ (by exact ⟨eC.cell d0, eC.cell d1, eC.cell d2, eC.cell d3⟩) (fun hH => ?_)
       clear hHeld hK K
       have hHeld := hH
       clear hH
       try simp only [nr]
       refine stepL_late (i := 8) rfl (by kernel_rfl) (by kernel_rfl) (fun K hK => ?_)
       obtain ⟨u0, u1, u2, u3, u4, u5, u6, u7⟩ := cells4 (eA2.block BA)
       go_simp
       refine hK.out _ _ ?_
       clear hK K
       try simp only [nr]
       refine stepL_pure (i := 9) (v := ?_) rfl (by kernel_rfl) (by kernel_rfl) (by kernel_rfl) (fun _ _ _ h => h) (Or.inl ⟨by rfl, ?_⟩) ?_
       rotate_left
       ·(intro w hSw; (try dsimp only at hSw); go_simp; (try (rw [if_pos (by omega)])); (try with_reducible rfl))
       try simp only [nr]
       refine stepL_done (by kernel_rfl) ?_ _
       clear hHeld
       go_wp2_with fail
       go_meet
       obtain ⟨w17, E17, hB17, K17, hs17⟩ := boxSet (q := T / (((fr : Nat) : Int) : Rat)) (eA2.block BA) (by have h9 : wz.drew.heap.size = wz.heap.size := rfl; omega) hb11 g11 g12
       rw [E17]
       exact ⟨_, rfl, hgl, by have h8 := eA2.size; omega, hB17, K17.ext eC hgl⟩
      ·go_simp
       first | refine boxes1 ?_ | refine boxesD1 ?_
       intro wA eA hszA BA
       have hgl : wz.heap.size ≤ _ := eC.size
       replace eC : Ext wz wA := by first | exact eC.trans eA | exact eA
       have eA2 := Ext.refl wA
       (try replace g11 := g11.ext eA)
       (try replace g12 := g12.ext eA)
       refine hK.out _ _ (by exact ⟨eC.cell d0, eC.cell d1, eC.cell d2, eC.cell d3⟩) (fun hH => ?_)
       clear hHeld hK K
       have hHeld := hH
       clear hH
       try simp only [nr]
       refine stepL_only (i := 3) rfl (by kernel_rfl) (fun K hK => ?_)
       go_simp
       refine (r2_divide (x := T) (y := (((fr : Nat) : Int) : Rat)) (by exact (RatV.mk hb9 g9 g10).ext eC) (by first | exact h14 | exact h14.ext eA) (HTH.out.sz (by omega)) HSF.out HNE.out).mono ?_
       intro e w15 hh
       obtain ⟨b11, A11, k11, c11, A12, k12, c12, rfl, hb11, g11, g12, e15⟩ := hh.form
       replace eC := eC.trans e15
       (try replace eA2 := eA2.trans e15)
       go_wp2_with fail
       refine hK.out _ _ (by exact ⟨eC.cell d0, eC.cell d1, eC.cell d2, eC.cell d3⟩) (fun hH => ?_)
       clear hHeld hK K
       have hHeld := hH
       clear hH
       try simp only [nr]
       refine stepL_pure (i := 4) (v := ?_) rfl (by kernel_rfl) (by kernel_rfl) (by kernel_rfl) (fun _ _ _ h => h) (Or.inl ⟨by rfl, ?_⟩) ?_
       rotate_left
       ·(intro w hSw; (try dsimp only at hSw); go_simp; (try (rw [if_pos (by omega)])); (try with_reducible rfl))
       try simp only [nr]
       refine stepL_pure (i := 5) (v := ?_) rfl (by kernel_rfl) (by kernel_rfl) (by kernel_rfl) (fun _ _ _ h => h) (Or.inl ⟨by rfl, ?_⟩) ?_
       rotate_left
       ·(intro w hSw; (try dsimp only at hSw); go_simp; (try (rw [if_pos (by omega)])); (try with_reducible rfl))
       try simp only [nr]
       refine stepL_pure (i := 6) (v := ?_) rfl (by kernel_rfl) (by kernel_rfl) (by kernel_rfl) (fun _ _ _ h => h) (Or.inl ⟨by rfl, ?_⟩) ?_
       rotate_left
       ·(intro w hSw; (try dsimp only at hSw); go_simp; (try (rw [if_pos (by omega)])); (try with_reducible rfl))
       try simp only [nr]
       refine stepL_late (i := 8) rfl (by kernel_rfl) (by kernel_rfl) (fun K hK => ?_)
       obtain ⟨u0, u1, u2, u3, u4, u5, u6, u7⟩ := cells4 (eA2.block BA)
       go_simp
       refine hK.out _ _ ?_
       clear hK K
       try simp only [nr]
       refine stepL_pure (i := 9) (v := ?_) rfl (by kernel_rfl) (by kernel_rfl) (by kernel_rfl) (fun _ _ _ h => h) (Or.inl ⟨by rfl, ?_⟩) ?_
       rotate_left
       ·(intro w hSw; (try dsimp only at hSw); go_simp; (try (rw [if_pos (by omega)])); (try with_reducible rfl))
       try simp only [nr]
       refine stepL_done (by kernel_rfl) ?_ _
       clear hHeld
       go_wp2_with fail
       go_meet
       obtain ⟨w17, E17, hB17, K17, hs17⟩ := boxSet (q := T / (((fr : Nat) : Int) : Rat)) (eA2.block BA) (by have h9 : wz.drew.heap.size = wz.heap.size := rfl; omega) hb11 g11 g12
       rw [E17]
       exact ⟨_, rfl, hgl, by have h8 := eA2.size; omega, hB17, K17.ext eC hgl⟩
     ·go_simp
      first | refine boxes1 ?_ | refine boxesD1 ?_
      intro wA eA hszA BA
      have hgl : wz.heap.size ≤ _ := eC.size
      replace eC : Ext wz wA := by first | exact eC.trans eA | exact eA
      have eA2 := Ext.refl wA
      (try replace g11 := g11.ext eA)
      (try replace g12 := g12.ext eA)
      refine hK.out _ _ (by exact ⟨eC.cell d0, eC.cell d1, eC.cell d2, eC.cell d3⟩) (fun hH => ?_)
      clear hHeld hK K
      have hHeld := hH
      clear hH
      try simp only [nr]
      refine stepL_only (i := 2) rfl (by kernel_rfl) (fun K hK => ?_)
      go_simp
      refine (r2_Whole (N := N) (by have h8 := eC.size; have h9 : wz.drew.heap.size = wz.heap.size := rfl; omega) (fr : Int) (by omega) (by omega)).mono ?_
      rintro e w14 ⟨v14, rfl, h14, e14⟩
      replace eC := eC.trans e14
      (try replace eA2 := eA2.trans e14)
      go_wp2_with fail
      refine hK.out _ _ (by exact ⟨eC.cell d0, eC.cell d1, eC.cell d2, eC.cell d3⟩) (fun hH => ?_)
      clear hHeld hK K
      have hHeld := hH
      clear hH
      try simp only [nr]
      refine stepL_only (i := 3) rfl (by kernel_rfl) (fun K hK => ?_)
      go_simp
      refine (r2_divide (x := T) (y := (((fr : Nat) : Int) : Rat)) (by exact (RatV.mk hb9 g9 g10).ext eC) (by first | exact h14 | exact h14.ext eA) (HTH.out.sz (by omega)) HSF.out HNE.out).mono ?_
      intro e w15 hh
      obtain ⟨b11, A11, k11, c11, A12, k12, c12, rfl, hb11, g11, g12, e15⟩ := hh.form
      replace eC := eC.trans e15
      (try replace eA2 := eA2.trans e15)
      go_wp2_with fail
      refine hK.out _ _ (by exact ⟨eC.cell d0, eC.cell d1, eC.cell d2, eC.cell d3⟩) (fun hH => ?_)
      clear hHeld hK K
      have hHeld := hH
      clear hH
      try simp only [nr]
      refine stepL_pure (i := 4) (v := ?_) rfl (by kernel_rfl) (by kernel_rfl) (by kernel_rfl) (fun _ _ _ h => h) (Or.inl ⟨by rfl, ?_⟩) ?_
      rotate_left
      ·(intro w hSw; (try dsimp only at hSw); go_simp; (try (rw [if_pos (by omega)])); (try with_reducible rfl))
      try simp only [nr]
      refine stepL_pure (i := 5) (v := ?_) rfl (by kernel_rfl) (by kernel_rfl) (by kernel_rfl) (fun _ _ _ h => h) (Or.inl ⟨by rfl, ?_⟩) ?_
      rotate_left
      ·(intro w hSw; (try dsimp only at hSw); go_simp; (try (rw [if_pos (by omega)])); (try with_reducible rfl))
      try simp only [nr]
      refine stepL_pure (i := 6) (v := ?_) rfl (by kernel_rfl) (by kernel_rfl) (by kernel_rfl) (fun _ _ _ h => h) (Or.inl ⟨by rfl, ?_⟩) ?_
      rotate_left
      ·(intro w hSw; (try dsimp only at hSw); go_simp; (try (rw [if_pos (by omega)])); (try with_reducible rfl))
      try simp only [nr]
      refine stepL_late (i := 8) rfl (by kernel_rfl) (by kernel_rfl) (fun K hK => ?_)
      obtain ⟨u0, u1, u2, u3, u4, u5, u6, u7⟩ := cells4 (eA2.block BA)
      go_simp
      refine hK.out _ _ ?_
      clear hK K
      try simp only [nr]
      refine stepL_pure (i := 9) (v := ?_) rfl (by kernel_rfl) (by kernel_rfl) (by kernel_rfl) (fun _ _ _ h => h) (Or.inl ⟨by rfl, ?_⟩) ?_
      rotate_left
      ·(intro w hSw; (try dsimp only at hSw); go_simp; (try (rw [if_pos (by omega)])); (try with_reducible rfl))
      try simp only [nr]
      refine stepL_done (by kernel_rfl) ?_ _
      clear hHeld
      go_wp2_with fail
      go_meet
      obtain ⟨w17, E17, hB17, K17, hs17⟩ := boxSet (q := T / (((fr : Nat) : Int) : Rat)) (eA2.block BA) (by have h9 : wz.drew.heap.size = wz.heap.size := rfl; omega) hb11 g11 g12
      rw [E17]
      exact ⟨_, rfl, hgl, by have h8 := eA2.size; omega, hB17, K17.ext eC hgl⟩
    case rest =>
     obtain ⟨gB, rfl, hg1, hg2, hB, e18⟩ := hcut
     obtain ⟨q1, Q1, Q2, Q3, Q4, Q5, Q6, r0, r1, r2, r3, -, -, -, -, hRB, -⟩ := hB.open
     replace B6 := e18.block B6
     have h66 := h6'.ext e18
     obtain ⟨s0, s1, s2, s3, -⟩ := cells4 B6
     clear d0 d1 d2 d3 hB
     go_wp2_with (go_at_call 25; refine Hid.out ?_)
     refine (r2_same h66 hRB ?_ rfl).mono ?_
     ·exact (HTH.out.div (ht_nat fr 4 (Nat.lt_of_lt_of_le (by omega : fr < 16) (by decide)) (by omega))).sz (by omega)
     rintro e w20 ⟨rfl, e20⟩
     go_wp2
     go_ret
     exact ⟨rfl, (hE.trans e18).trans e20⟩
end Go.Proofs.YtghpfnhmlpfgcaaGreat
