import Derived.Test.YtghpfnhmlpfgcaaGreatWb01
import Derived.Test.YtghpfnhmlpfgcaaGreatWb02
import Derived.Test.YtghpfnhmlpfgcaaGreatWb03
import Derived.Test.YtghpfnhmlpfgcaaGreatWb04
import Derived.Test.YtghpfnhmlpfgcaaGreatWb05
import Derived.Test.YtghpfnhmlpfgcaaGreatWb06
import Derived.Test.YtghpfnhmlpfgcaaGreatWb07
import Derived.Test.YtghpfnhmlpfgcaaGreatWb08
import Derived.Test.YtghpfnhmlpfgcaaGreatWb09
import Derived.Test.YtghpfnhmlpfgcaaGreatWb10
import Derived.Test.YtghpfnhmlpfgcaaGreatWb11
import Derived.Test.YtghpfnhmlpfgcaaGreatWb12
import Derived.Test.YtghpfnhmlpfgcaaGreatWb13
import Derived.Test.YtghpfnhmlpfgcaaGreatWb14
import Derived.Test.YtghpfnhmlpfgcaaGreatWb15
import Derived.Test.YtghpfnhmlpfgcaaGreatWb16
import Derived.Test.YtghpfnhmlpfgcaaGreatWb17
import Derived.Test.YtghpfnhmlpfgcaaGreatWb18
import Derived.Test.YtghpfnhmlpfgcaaGreatWb19
import Derived.Test.YtghpfnhmlpfgcaaGreatWb20
import Derived.Test.YtghpfnhmlpfgcaaGreatWb21
import Derived.Test.YtghpfnhmlpfgcaaGreatWb22
import Derived.Test.YtghpfnhmlpfgcaaGreatWb23
import Derived.Test.YtghpfnhmlpfgcaaGreatWb24
import Derived.Test.YtghpfnhmlpfgcaaGreatWb25
import Derived.Test.YtghpfnhmlpfgcaaGreatWb26
import Derived.Test.YtghpfnhmlpfgcaaGreatWb27
import Derived.Test.YtghpfnhmlpfgcaaGreatWb28
import Derived.Test.YtghpfnhmlpfgcaaGreatWb29
import Derived.Test.YtghpfnhmlpfgcaaGreatWb30
import Derived.Test.YtghpfnhmlpfgcaaGreatWb31
import Derived.Test.YtghpfnhmlpfgcaaGreatWb32
import Derived.Test.YtghpfnhmlpfgcaaGreatWb33
import Derived.Test.YtghpfnhmlpfgcaaGreatWb34
import Derived.Test.YtghpfnhmlpfgcaaGreatWb35
import Derived.Test.YtghpfnhmlpfgcaaGreatWb36
import Derived.Test.YtghpfnhmlpfgcaaGreatWb37
import Derived.Test.YtghpfnhmlpfgcaaGreatWb38
import Derived.Test.YtghpfnhmlpfgcaaGreatWb39
import Derived.Test.YtghpfnhmlpfgcaaGreatWb40
import Derived.Test.YtghpfnhmlpfgcaaGreatWb41
import Derived.Test.YtghpfnhmlpfgcaaGreatWb42
import Derived.Deep.RegionHeld3
import Derived.Deep.AppendLies
import Derived.WalkKit
import Derived.WalkSpells
import Derived.WalkLawsBesides
import Derived.Lib.Hide
import Derived.Deep.QuietTactic
import Derived.BigQuiet
import Derived.Maps.AppendAt
import Derived.Deep.DeepCutAuto
import Derived.Deep.RegionWith
import Derived.Deep.DeepMust
import Derived.Deep.CutBlock
import Derived.OrdersIn
import Derived.RegionTactic
import Derived.RangeFuncNested
import Derived.RangeFuncBound
import Derived.RangeFuncCalls
import Derived.RangeFuncLeaves
import Derived.RangeFuncBox
import Derived.Shelf.Abstract
import Derived.OwnWalkIn
import Derived.TacticsInMore
import Derived.LoopNIn
import Derived.LoopIn
import Derived.Laws.IdiomCopy
import Derived.Shelf.Bits.Mul64
import Derived.Deep.RegionLaw
import Derived.Lib.SliceRun
set_option linter.all false
namespace Go.Proofs.YtghpfnhmlpfgcaaGreat
open Go.RowKit
set_option maxHeartbeats 4000000 in
theorem r2_dot {N lo hi lo' hi' : Nat} {w : World} {v v' : Value} {n : Nat} {x y : Nat → Rat} (h : LsV N lo hi w v n x) (h' : LsV N lo' hi' w v' n y) {k k' : Nat} (hk : HtL n k x) (hk' : HtL n k' y) (hK : n * (k + k' + 1) + 1 ≤ 29000000000) :
  Calls Tryz.prog 48 #[v, v'] w (RetRC N w (sum n (fun j => x j * y j))) := by
 obtain ⟨A, c, rfl, hnc, hcm⟩ := h.form
 obtain ⟨A', c', rfl, hnc', hcm'⟩ := h'.form
 unfold maxLen at hcm hcm'
 have hN := h.le
 have hI := h
 have hI' := h'
 have HZ : Hid (∀ i, i < n → Sz (x i) ∧ Sz (y i) ∧ Sz (x i * y i)) := fun i hi => by
  have h1 := Nat.le_mul_of_pos_left (k + k' + 1) (show 0 < n by omega)
  exact ⟨(hk i hi).sz (by omega), (hk' i hi).sz (by omega), ((hk i hi).mul (hk' i hi)).sz (by omega)⟩
 have HS : Hid (∀ i, i ≤ n → Sz (sum i (fun j => x j * y j))) := fun i hi => (sum_ht (k := k + k') (fun j hj => (hk j hj).mul (hk' j hj)) hi hK).sz (Nat.le_refl _)
 obtain ⟨q, hq⟩ := hid_eq (sum n (fun j => x j * y j))
 rw [← hq.out]
 clear h h' hk hk' hK
 go_enter Tryz.func48, Tryz.ntmps48
 go_wp2_with (go_at_call 24; refine Hid.out ?_)
 refine boxesC1 ?_
 intro W hE hsz B0
 refine (r2_Whole (N := N) (by have := hE.size; omega) 0 (by omega) (by omega)).mono ?_
 intro e w1 hh
 obtain ⟨b1, A1, k1, c1, A2, k2, c2, rfl, hb1, g1, g2, e1⟩ := hh.form
 replace hE := hE.trans e1
 replace B0 := e1.block B0
 replace hsz := Nat.le_trans hsz e1.size
 go_upto_region 4 with (fail)
 refine boxes1 ?_
 intro w2 e2 hsz2 BS
 have hB : BoxR N w2 w1.heap.size (sum 0 (fun j => x j * y j)) := BoxR.mk BS hb1 (g1.ext e2) (g2.ext e2)
 replace hE := hE.trans e2
 replace B0 := e2.block B0
 clear g1 g2 hb1 BS e2 e1
 go_wp2
 go_loopw [7] (fun i wr => ∃ k : Nat, k ≤ n ∧ i = .int .i64 k ∧ Ext w wr ∧ w1.heap.size < wr.heap.size ∧ wr.heap[w.heap.size]? = some (.cells #[.bool false, .slice none 0 0, .bool false, .slice none 0 0] 37 (0, 0)) ∧ BoxR N wr w1.heap.size (sum k (fun j => x j * y j))) (fun i _ => n - (intOf i).toNat)
 case atStart => exact ⟨0, Nat.zero_le _, rfl, hE, by omega, B0, hB⟩
 case round =>
  clear hB hE B0 hsz2
  obtain ⟨k, hk, rfl, hE, hsz2, B0, hB⟩ := hrel
  obtain ⟨b1, A1, k1, c1, A2, k2, c2, BS, hb1, g1, g2⟩ := hB
  obtain ⟨s0, s1, s2, s3, s4, s5, s6, s7⟩ := cells4 BS
  have hv := RatV.mk hb1 g1 g2
  by_cases hlt : k < n
  ·obtain ⟨b, off, rfl, -, -, hx⟩ := (hI.ext hE).addr (by omega)
   obtain ⟨b', off', rfl, -, -, hx'⟩ := (hI'.ext hE).addr (by omega)
   obtain ⟨A3, n3, c3, A4, n4, c4, p0, p1, p2, p3, hv'⟩ := (hx k hlt).val
   obtain ⟨A5, n5, c5, A6, n6, c6, q0, q1, q2, q3, hv''⟩ := (hx' k hlt).val
   clear hx hx'
   go_wp2
   have eC := (Ext.refl wr).drew
   refine region_late (fun w' => w'.cell? ⟨w1.heap.size, 0, none⟩ = some (.bool b1) ∧ w'.cell? ⟨w1.heap.size, 1, none⟩ = some (.slice A1 k1 c1) ∧ w'.cell? ⟨w1.heap.size, 2, none⟩ = some (.bool false) ∧ w'.cell? ⟨w1.heap.size, 3, none⟩ = some (.slice A2 k2 c2) ∧ w'.cell? ⟨b, off + k * 4, none⟩ = some (.bool (raw (x k)).b1) ∧ w'.cell? ⟨b, off + k * 4 + 1, none⟩ = some (.slice A3 n3 c3) ∧ w'.cell? ⟨b, off + k * 4 + 2, none⟩ = some (.bool (raw (x k)).b2) ∧ w'.cell? ⟨b, off + k * 4 + 3, none⟩ = some (.slice A4 n4 c4) ∧ w'.cell? ⟨b', off' + k * 4, none⟩ = some (.bool (raw (y k)).b1) ∧ w'.cell? ⟨b', off' + k * 4 + 1, none⟩ = some (.slice A5 n5 c5) ∧ w'.cell? ⟨b', off' + k * 4 + 2, none⟩ = some (.bool (raw (y k)).b2) ∧ w'.cell? ⟨b', off' + k * 4 + 3, none⟩ = some (.slice A6 n6 c6)) [11] (by kernel_rfl) (by exact ⟨eC.cell s0, eC.cell s1, eC.cell s2, eC.cell s3, eC.cell p0, eC.cell p1, eC.cell p2, eC.cell p3, eC.cell q0, eC.cell q1, eC.cell q2, eC.cell q3⟩) (fun hHeld => ?_)
   refine sT 0 (h := ?_)
   try simp only [nr]
   refine sP 1 (h := ?_)
   try simp only [nr]
   refine sP 2 (h := ?_)
   try simp only [nr]
   refine sP 3 (h := ?_)
   try simp only [nr]
   refine sT 4 (h := ?_)
   try simp only [nr]
   refine sP 5 (h := ?_)
   try simp only [nr]
   refine sP 6 (h := ?_)
   try simp only [nr]
   refine sP 7 (h := ?_)
   try simp only [nr]
   refine sT 8 (h := ?_)
   try simp only [nr]
   refine stepL_only (i := 9) rfl (by kernel_rfl) (fun K hK => ?_)
   go_simp
   refine (r2_mul (x := x k) (y := y k) (by exact hv'.ext eC) (by exact hv''.ext eC) (HZ.out k hlt).1 (HZ.out k hlt).2.1).mono ?_
   rintro e w4 ⟨v4, rfl, h4, e4⟩
   replace eC := eC.trans e4
   go_wp2_with fail
   clear hHeld
   refine hK.out _ _ (by exact ⟨eC.cell s0, eC.cell s1, eC.cell s2, eC.cell s3, eC.cell p0, eC.cell p1, eC.cell p2, eC.cell p3, eC.cell q0, eC.cell q1, eC.cell q2, eC.cell q3⟩) fun hHeld => ?_
   clear hK K
   try simp only [nr]
   refine stepL_only (i := 10) rfl (by kernel_rfl) (fun K hK => ?_)
   go_simp
   refine (r2_add (x := sum k (fun j => x j * y j)) (y := x k * y k) (by exact hv.ext eC) (by exact h4) (HS.out k (by omega)) (HZ.out k hlt).2.2).mono ?_
   intro e w5 hh
   obtain ⟨b5, A5, k5, c5, A6, k6, c6, rfl, hb5, g5, g6, e5⟩ := hh.form
   replace eC := eC.trans e5
   have D0 := eC.block BS
   obtain ⟨t0, t1, t2, t3, t4, t5, t6, t7⟩ := cells4 D0
   go_wp2_with fail
   clear hHeld
   refine hK.out _ _ (by exact ⟨eC.cell s0, eC.cell s1, eC.cell s2, eC.cell s3, eC.cell p0, eC.cell p1, eC.cell p2, eC.cell p3, eC.cell q0, eC.cell q1, eC.cell q2, eC.cell q3⟩) fun hHeld => ?_
   clear hK K
   try simp only [nr]
   refine stepL_late (i := 11) rfl (by kernel_rfl) (by kernel_rfl) (fun K hK => ?_)
   go_simp
   refine hK.out _ _ ?_
   clear hK K
   try simp only [nr]
   refine stepL_done (by kernel_rfl) ?_ _
   clear hHeld
   obtain ⟨w6, E6, hB6, K6, hs6⟩ := boxSet D0 (by omega) (q := sum (k + 1) (fun j => x j * y j)) hb5 g5 g6
   rw [E6]
   clear E6
   go_wp2
   go_roundw
   case rel => exact ⟨k + 1, by omega, by go_num, K6.ext (hE.trans eC) (by omega), by have := eC.size; omega, K6.blk (eC.block B0) (by omega), hB6⟩
   case measure => simp [intOf]; omega
  ·obtain rfl : k = n := by omega
   obtain ⟨r0, r1, r2, r3, r4, r5, r6, r7⟩ := cells4 B0
   go_wp2
   rw [← hq.out] at hb1 g1 g2
   exact fin_ratC rfl rfl rfl rfl hE B0 (by omega) hN g1 g2 hb1
end Go.Proofs.YtghpfnhmlpfgcaaGreat
namespace Go.Proofs.YtghpfnhmlpfgcaaGreat
variable {m n : Nat} {A M X M' : Nat → Nat → Rat} {P : Nat → Rat} {p p' : List Nat}
theorem without_nsol {P L x : Nat → Rat} {i : Nat} (hi : i < m + 1) (h : Nsol m n (fun j c => A (skip i j) c) (fun j => P (skip i j)) (fun j => L (skip i j)) x) :
  Nsol (m + 1) n A P (fun k => if k = i then av n A x i else L k) x := by
 rw [nsol_orth] at h ⊢
 intro a ha
 rw [← sum_skip hi]
 have h1 := h a ha
 have e : ∀ j, A (skip i j) a * (P (skip i j) * (av n A x (skip i j) - if skip i j = i then av n A x i else L (skip i j))) = A (skip i j) a * (P (skip i j) * (av n (fun j c => A (skip i j) c) x j - L (skip i j))) := by
  intro j; rw [if_neg (skip_ne i j)]; rfl
 simp only [e, h1, if_true]
 grind
theorem alone (h : Model (m + 1) n A M X P p) {L x : Nat → Rat} {i : Nat} (hi : i < m + 1) (hx : Nsol m n (fun j c => A (skip i j) c) (fun j => P (skip i j)) (fun j => L (skip i j)) x) :
  (1 - hd A X P p i) * (av n A x i - L i) = sum (m + 1) (fun j => gf A X p i j * P j * L j) - L i := by
 have h1 := fits_fit h.rr h.pos h.kx (without_nsol hi hx) i hi
 have e : ∀ j, fits p.length (bas A p) X i j * P j * (if j = i then av n A x i else L j) = gf A X p i j * P j * L j + dlt i j * (gf A X p i j * P j * (av n A x i - L i)) := by
  intro j
  by_cases hj : j = i
  ·subst hj; rw [if_pos rfl, dlt_same]; unfold gf; grind
  ·rw [if_neg hj, dlt_ne (fun e => hj e.symm)]; unfold gf; grind
 rw [sum_congr (fun j _ => e j), sum_add, sum_dlt hi (fun j => gf A X p i j * P j * (av n A x i - L i))] at h1
 unfold hd
 grind
end Go.Proofs.YtghpfnhmlpfgcaaGreat
namespace Go.Proofs.YtghpfnhmlpfgcaaGreat
open Go.RowKit
set_option maxRecDepth 100000 in
set_option maxHeartbeats 2000000 in
theorem rl_Alone_bad {N lo hi : Nat} {w : World} {v : Value} {z : Int} {Z : Lin} (h : LinV N lo hi w v Z) (hs : LinSz Z) (hp : ∀ i, i < Z.np → RawS (Z.p i)) (hc : codeOf Z ≠ 0) :
  Calls Tryz.prog 47 #[v, .int .i64 z] w (RetV w (.tuple #[nilRat, .int .i64 (codeOf Z)])) := by
 have HS := Lib.hid hs
 have HP := Lib.hid hp
 have HC := Lib.hid hc
 obtain ⟨r, hr⟩ := hid_eq (codeOf Z)
 have hr0 : (r == 0) = false := by rw [hr.out]; simpa using hc
 have hr1 : (r != 0) = true := by simpa using hr0
 rw [← hr.out]
 have hI := h
 obtain ⟨A1, c1, A2, c2, A3, c3, rfl, h1, h2, h3, hm, hnl, hnp⟩ := h.parts
 clear h h1 h2 h3 hc hs hp
 go_enter Tryz.func47, Tryz.ntmps47
 go_wp2_with (go_at_call 87; refine Hid.out ?_)
 refine boxesC3 ?_
 intro W hE hsz B0 B1 B2
 refine (rl_indexed_bad (hI.ext hE) HS.out HP.out HC.out).mono ?_
 rintro e w1 ⟨rfl, e1⟩
 rw [← hr.out]
 replace B1 := e1.block B1
 obtain ⟨t0, t1, t2, t3, t4, t5, t6, t7⟩ := cells4 B1
 go_wp2
 obtain ⟨w12, E12, F2, U⟩ := ex4 B1 (.bool false) (.slice none 0 0) (.bool false) (.slice none 0 0)
 rw [E12]
 obtain ⟨z0, z1, z2, z3, -⟩ := cells4 F2
 refine bodyPost_ret (v := .tuple #[nilRat, .int .i64 r]) ?_ rfl ⟨rfl, U.ext (hE.trans e1) (by omega)⟩
 simp [results, Tryz.results47, z0, z1, z2, z3, go_sem, nilRat]
def RetAlone (N : Nat) (w : World) (m n : Nat) (X : Nat → Nat → Rat) (y p : Nat → Rat) (z : Int) (e : Ending) (w' : World) : Prop :=
 Ext w w' ∧ ((outB m z = true ∧ e = .returned (.tuple #[nilRat, .int .i64 2])) ∨
  (outB m z = false ∧ redOf m n X p z.toNat = 0 ∧ e = .returned (.tuple #[nilRat, .int .i64 13])) ∨
  (outB m z = false ∧ redOf m n X p z.toNat ≠ 0 ∧ ∃ v, e = .returned (.tuple #[v, .int .i64 0]) ∧ RatV N w' v (vvOf m n X y p z.toNat / redOf m n X p z.toNat)))
theorem anyB_one (f : Nat → Bool) : anyB 1 f = f 0 := by unfold anyB; simp [List.range_succ]
set_option maxRecDepth 100000 in
set_option maxHeartbeats 4000000 in
theorem rl_Alone {N lo hi : Nat} {w : World} {v1 v2 v3 : Value} {z : Int} {m n : Nat} {X : Nat → Nat → Rat} {y p : Nat → Rat} (h1 : MtV N lo hi w v1 m n X) (h2 : LsV N lo hi w v2 m y) (h3 : LsV N lo hi w v3 m p) (hm0 : 0 < m) (hm : m ≤ 6) (hn0 : 0 < n) (hn : n ≤ 4) (hpos : ∀ i, i < m → 0 < p i)
  (hkx : HtM m n 17 X) (hky : HtL m 17 y) (hkp : HtL m 17 p) :
  Calls Tryz.prog 47 #[.agg #[v1, v2, v3], .int .i64 z] w (RetAlone N w m n X y p z) := by
 obtain ⟨k2, k3, hB, hk3⟩ := few_bnd hm hn
 have hfh := few_fit_ht hm hn hkx hkp
 have HVH := Lib.hid (vvOf_ht hm hB hk3 hkx hky hkp)
 have HX := Lib.hid hkx
 have HY := Lib.hid hky
 have HP := Lib.hid hkp
 have HPOS := Lib.hid hpos
 have HFH := Lib.hid hfh
 have HSZ : Hid (∀ i, i < m → Sz (fitsOf m n X p i i) ∧ Sz (p i) ∧ Sz (fitsOf m n X p i i * p i) ∧ Sz (redOf m n X p i)) := fun i hi =>
  ⟨(hfh i hi i hi).sz (by omega), (hkp i hi).sz (by omega), ((hfh i hi i hi).mul (hkp i hi)).sz (by omega), (Ht.sub (k := 1) Ht.one ((hfh i hi i hi).mul (hkp i hi))).sz (by omega)⟩
 obtain ⟨Rf, hRf⟩ := hid_eq (RetAlone N w m n X y p z)
 rw [← hRf.out]
 have hN := h1.le
 obtain ⟨A1, c1, rfl, hmc, hcm⟩ := h1.form
 obtain ⟨A2, c2, rfl, hmc2, hcm2⟩ := h2.form
 obtain ⟨A3, c3, rfl, hmc3, hcm3⟩ := h3.form
 have hI1 := h1
 have hI2 := h2
 have hI3 := h3
 clear h1 h2 h3 hkx hky hkp hpos hB hfh
 go_enter Tryz.func47, Tryz.ntmps47
 go_wp2_with (go_at_call 87; refine Hid.out ?_)
 refine boxesC3 ?_
 intro W hE hsz B0 B1 B2
 have hiz : IzV N 0 0 W (.slice (some ⟨w.heap.size + 1 + 1, 0, none⟩) 1 1) 1 (fun _ => z) := ⟨rfl, _, 1, rfl, Nat.le_refl _, by unfold maxLen; omega, fun _ => ⟨_, 0, rfl, fun i hi => by
  obtain rfl : i = 0 := by omega
  exact (cells1 B2).1⟩⟩
 refine (rl_indexed (hI1.ext hE) (hI2.ext hE) (hI3.ext hE) hiz hm0 hm hn0 hn HPOS.out HX.out HY.out HP.out).mono ?_
 rintro e w1 ⟨e1, hh⟩
 rw [anyB_one, anyB_one] at hh
 replace B1 := e1.block B1
 have hE1 := hE.trans e1
 rcases hh with ⟨hA, rfl⟩ | ⟨hA, hD, rfl⟩ | ⟨hA, hD, gm, rfl, hM⟩
 ·obtain ⟨t0, t1, t2, t3, t4, t5, t6, t7⟩ := cells4 B1
  have HA := Lib.hid hA
  clear hA
  go_wp2
  obtain ⟨w12, E12, F2, U⟩ := ex4 B1 (.bool false) (.slice none 0 0) (.bool false) (.slice none 0 0)
  rw [E12]
  obtain ⟨z0, z1, z2, z3, -⟩ := cells4 F2
  refine bodyPost_ret (v := .tuple #[nilRat, .int .i64 2]) ?_ rfl ?_
  ·simp [results, Tryz.results47, z0, z1, z2, z3, go_sem, nilRat]
  ·rw [hRf.out]
   exact ⟨U.ext hE1 (by omega), .inl ⟨HA.out, rfl⟩⟩
 ·obtain ⟨t0, t1, t2, t3, t4, t5, t6, t7⟩ := cells4 B1
  have HA := Lib.hid (hA 0 (by omega))
  have HD := Lib.hid hD
  clear hA hD
  go_wp2
  obtain ⟨w12, E12, F2, U⟩ := ex4 B1 (.bool false) (.slice none 0 0) (.bool false) (.slice none 0 0)
  rw [E12]
  obtain ⟨z0, z1, z2, z3, -⟩ := cells4 F2
  refine bodyPost_ret (v := .tuple #[nilRat, .int .i64 13]) ?_ rfl ?_
  ·simp [results, Tryz.results47, z0, z1, z2, z3, go_sem, nilRat]
  ·rw [hRf.out]
   exact ⟨U.ext hE1 (by omega), .inr (.inl ⟨HA.out, of_decide_eq_true HD.out, rfl⟩)⟩
 ·have HA := Lib.hid (hA 0 (by omega))
  have HD := Lib.hid (hD 0 (by omega))
  obtain ⟨hz1, hz2⟩ := outB_false (hA 0 (by omega))
  obtain ⟨i, hi⟩ := hid_eq z.toNat
  rw [← hi.out] at hz1 hz2 HD
  obtain rfl : z = (i : Int) := hz2
  obtain ⟨RV, hRV⟩ := hid_eq (redOf m n X p i)
  obtain ⟨VV, hVV⟩ := hid_eq (vvOf m n X y p)
  have HRZ : Hid (Sz RV) := by rw [hRV.out]; exact (HSZ.out i hz1).2.2.2
  have HVZ : Hid (Sz (VV i)) := by rw [hVV.out]; exact (HVH.out i hz1).sz (by omega)
  have HRN : Hid (RV ≠ 0) := by rw [hRV.out]; exact HD.out
  have hs1 := hE1.size
  have hN1 : N ≤ w1.heap.size := by omega
  clear hA hD
  go_upto_region 4 with (fail)
  refine region_inv [Mn.eq (.pointer (some ⟨gm, 0, none⟩)), Mn.ls N m VV, Mn.eq (.int .i64 (i : Int)), Mn.at4 N (VV i), Mn.rat N (VV i), Mn.eq (.pointer (some ⟨gm, 0, none⟩)), Mn.eq (.int .i64 (i : Int)), Mn.rat N RV, Mn.rat N (VV i / RV), Mn.any, Mn.any] [some 19, some 20, some 21, some 22, some 23, some 24, some 25, some 26, some 27, none, some 5] [9, 10] [true, true, true, true, true, true, true, true, true, false, false] 2 (by kernel_rfl) (by kernel_rfl) (by kernel_rfl) (by kernel_rfl) (by kernel_rfl) (by kernel_rfl) (by kernel_rfl) (by kernel_rfl) ?_ ?_
  ·intro i hi hl
   have hi' : i = 0 ∨ i = 1 ∨ i = 2 ∨ i = 3 ∨ i = 4 ∨ i = 5 ∨ i = 6 ∨ i = 7 ∨ i = 8 ∨ i = 9 ∨ i = 10 := by have h9 : i < 11 := hi; omega
   clear hi
   rcases hi' with rfl | rfl | rfl | rfl | rfl | rfl | rfl | rfl | rfl | rfl | rfl
   ·clear hl
    refine stp rfl ?_
    intro ac wi eI hold hpre K hK
    have o6 := hold 6 (by kernel_rfl)
    simp only [List.getElem?_toArray, List.getElem?_cons_succ, List.getElem?_cons_zero] at o6
    clear hold hpre
    go_simp
    exact hK.out _ _ (Ext.refl _) rfl
   ·clear hl
    refine stp rfl ?_
    intro ac wi eI hold hpre K hK
    obtain ⟨x19, s19, j19⟩ := hpre 0 (by kernel_rfl) 19 rfl
    obtain rfl : x19 = (.pointer (some ⟨gm, 0, none⟩)) := j19
    clear hold hpre
    go_simp
    refine (rl_residuals (hM.ext eI) hm0 (by omega) HFH.out HY.out HP.out (by omega)).mono ?_
    rintro e wj ⟨Aj, cj, rfl, hj, ej⟩
    go_wp2_with fail
    refine hK.out _ _ ej ?_
    show LsV N 0 wj.heap.size wj (.slice Aj m cj) m VV
    rw [hVV.out]
    exact LsR.wide hj (Nat.zero_le _) (Nat.le_refl _) (Nat.le_refl _)
   ·clear hl
    refine stp rfl ?_
    intro ac wi eI hold hpre K hK
    have o1 := hold 1 (by kernel_rfl)
    simp only [List.getElem?_toArray, List.getElem?_cons_succ, List.getElem?_cons_zero] at o1
    clear hold hpre
    go_simp
    exact hK.out _ _ (Ext.refl _) rfl
   ·clear hl
    refine stp rfl ?_
    intro ac wi eI hold hpre K hK
    obtain ⟨x20, s20, j20⟩ := hpre 1 (by kernel_rfl) 20 rfl
    replace j20 : Mn.p (Mn.ls N m VV) x20 wi := j20
    obtain ⟨x21, s21, j21⟩ := hpre 2 (by kernel_rfl) 21 rfl
    obtain rfl : x21 = (.int .i64 (i : Int)) := j21
    clear hold hpre
    obtain ⟨Aj, cj, rfl, hjc, hjm⟩ := LsV.form j20
    obtain ⟨b, off, rfl, -, -, hx⟩ := LsV.addr j20 hm0
    have hat := hx i hz1
    clear hx
    go_simp
    exact hK.out _ _ (Ext.refl _) ⟨_, _, rfl, hat⟩
   ·clear hl
    refine stp rfl ?_
    intro ac wi eI hold hpre K hK
    obtain ⟨x22, s22, j22⟩ := hpre 3 (by kernel_rfl) 22 rfl
    replace j22 : Mn.p (Mn.at4 N (VV i)) x22 wi := j22
    clear hold hpre
    obtain ⟨b, off, rfl, hat⟩ := (j22 : ∃ b o, x22 = .pointer (some ⟨b, o, none⟩) ∧ At4 N wi b o (raw (VV i)))
    obtain ⟨n1, A7, k7, c7, A8, k8, c8, p0, p1, p2, p3, hb1, g1, g2⟩ := hat.open
    go_simp
    exact hK.out _ _ (Ext.refl _) (RatV.mk hb1 g1 g2)
   ·clear hl
    refine stp rfl ?_
    intro ac wi eI hold hpre K hK
    have o6 := hold 6 (by kernel_rfl)
    simp only [List.getElem?_toArray, List.getElem?_cons_succ, List.getElem?_cons_zero] at o6
    clear hold hpre
    go_simp
    exact hK.out _ _ (Ext.refl _) rfl
   ·clear hl
    refine stp rfl ?_
    intro ac wi eI hold hpre K hK
    have o1 := hold 1 (by kernel_rfl)
    simp only [List.getElem?_toArray, List.getElem?_cons_succ, List.getElem?_cons_zero] at o1
    clear hold hpre
    go_simp
    exact hK.out _ _ (Ext.refl _) rfl
   ·clear hl
    refine stp rfl ?_
    intro ac wi eI hold hpre K hK
    obtain ⟨x24, s24, j24⟩ := hpre 5 (by kernel_rfl) 24 rfl
    obtain rfl : x24 = (.pointer (some ⟨gm, 0, none⟩)) := j24
    obtain ⟨x25, s25, j25⟩ := hpre 6 (by kernel_rfl) 25 rfl
    obtain rfl : x25 = (.int .i64 (i : Int)) := j25
    clear hold hpre
    go_simp
    refine (rl_redundancy (hM.ext eI) hz1 (by omega) (HSZ.out i hz1).1 (HSZ.out i hz1).2.1 (HSZ.out i hz1).2.2.1).mono ?_
    rintro e wj ⟨vj, rfl, hj, ej⟩
    go_wp2_with fail
    refine hK.out _ _ ej ?_
    show RatV N wj vj RV
    rw [hRV.out]
    exact hj
   ·clear hl
    refine stp rfl ?_
    intro ac wi eI hold hpre K hK
    obtain ⟨x23, s23, j23⟩ := hpre 4 (by kernel_rfl) 23 rfl
    replace j23 : Mn.p (Mn.rat N (VV i)) x23 wi := j23
    obtain ⟨x26, s26, j26⟩ := hpre 7 (by kernel_rfl) 26 rfl
    replace j26 : Mn.p (Mn.rat N RV) x26 wi := j26
    clear hold hpre
    go_simp
    refine (rl_over j23 j26 HVZ.out HRZ.out HRN.out).mono ?_
    rintro e wj ⟨vj, rfl, hj, ej⟩
    go_wp2_with fail
    exact hK.out _ _ ej hj
   ·exact absurd hl (by decide)
   ·exact absurd hl (by decide)
  intro vals wz eZ hJ
  have J19 : Mn.p (Mn.eq (.pointer (some ⟨gm, 0, none⟩))) (vals 0) wz := hJ 0 (by decide) (by decide)
  have J20 : Mn.p (Mn.ls N m VV) (vals 1) wz := hJ 1 (by decide) (by decide)
  have J21 : Mn.p (Mn.eq (.int .i64 (i : Int))) (vals 2) wz := hJ 2 (by decide) (by decide)
  have J22 : Mn.p (Mn.at4 N (VV i)) (vals 3) wz := hJ 3 (by decide) (by decide)
  have J23 : Mn.p (Mn.rat N (VV i)) (vals 4) wz := hJ 4 (by decide) (by decide)
  have J24 : Mn.p (Mn.eq (.pointer (some ⟨gm, 0, none⟩))) (vals 5) wz := hJ 5 (by decide) (by decide)
  have J25 : Mn.p (Mn.eq (.int .i64 (i : Int))) (vals 6) wz := hJ 6 (by decide) (by decide)
  have J26 : Mn.p (Mn.rat N RV) (vals 7) wz := hJ 7 (by decide) (by decide)
  have J27 : Mn.p (Mn.rat N (VV i / RV)) (vals 8) wz := hJ 8 (by decide) (by decide)
  clear hJ
  simp only [putAll, if_true, Bool.false_eq_true, if_false, Act.put, Nat.zero_add, Nat.reduceAdd, List.setIfInBounds_toArray, List.set_cons_zero, List.set_cons_succ]
  generalize vals 0 = z19 at J19 ⊢
  obtain rfl : z19 = (.pointer (some ⟨gm, 0, none⟩)) := J19
  generalize vals 1 = z20 at J20 ⊢
  generalize vals 2 = z21 at J21 ⊢
  obtain rfl : z21 = (.int .i64 (i : Int)) := J21
  generalize vals 3 = z22 at J22 ⊢
  generalize vals 4 = z23 at J23 ⊢
  generalize vals 5 = z24 at J24 ⊢
  obtain rfl : z24 = (.pointer (some ⟨gm, 0, none⟩)) := J24
  generalize vals 6 = z25 at J25 ⊢
  obtain rfl : z25 = (.int .i64 (i : Int)) := J25
  generalize vals 7 = z26 at J26 ⊢
  generalize vals 8 = z27 at J27 ⊢
  obtain ⟨b9, A15, k15, c15, A16, k16, c16, rfl, hb9, g9, g10⟩ := RatV.parts J27
  have D1 := eZ.block B1
  obtain ⟨u0, u1, u2, u3, u4, u5, u6, u7⟩ := cells4 D1
  refine stepL_late (i := 9) rfl (by kernel_rfl) (by kernel_rfl) (fun K hK => ?_)
  go_simp
  refine hK.out _ _ ?_
  clear hK K
  try simp only [nr]
  refine stepL_late (i := 10) rfl (by kernel_rfl) (by kernel_rfl) (fun K hK => ?_)
  go_simp
  refine hK.out _ _ ?_
  clear hK K
  try simp only [nr]
  refine stepL_done (by kernel_rfl) ?_ _
  obtain ⟨w12, E12, F2, U⟩ := ex4 D1 (.bool b9) (.slice A15 k15 c15) (.bool false) (.slice A16 k16 c16)
  go_wp2
  rw [E12]
  obtain ⟨z0, z1, z2, z3, -⟩ := cells4 F2
  refine bodyPost_ret (v := .tuple #[.agg #[.bool b9, .slice A15 k15 c15, .bool false, .slice A16 k16 c16], .int .i64 0]) ?_ rfl ?_
  ·simp [results, Tryz.results47, z0, z1, z2, z3, go_sem]
  ·rw [hRf.out]
   refine ⟨U.ext (hE1.trans eZ) (by omega), .inr (.inr ⟨HA.out, by rw [Int.toNat_natCast]; exact HD.out, _, rfl, ?_⟩)⟩
   rw [Int.toNat_natCast, ← hRV.out, ← hVV.out]
   exact RatV.mk hb9 (g9.upd U (by omega) (NoU.mk D1 (by decide))) (g10.upd U (by omega) (NoU.mk D1 (by decide)))
end Go.Proofs.YtghpfnhmlpfgcaaGreat
namespace Go.Proofs.YtghpfnhmlpfgcaaGreat
open Go.RowKit
set_option maxRecDepth 100000 in
set_option maxHeartbeats 4000000 in
theorem al_out {N lo hi : Nat} {w : World} {v : Value} {z : Int} {Z : Lin} (h : LinV N lo hi w v Z) (hs : fewB Z = false) :
  Calls Tryz.prog 7 #[v, .int .i64 z] w (RetV w (.bool true)) := by
 have hI := h
 obtain ⟨A1, c1, A2, c2, A3, c3, rfl, -⟩ := h.parts
 have HS := Lib.hid hs
 clear h hs
 go_enter Tryz.func7, Tryz.ntmps7
 go_wp2_with (go_at_call 9; refine Hid.out ?_)
 refine boxesC1 ?_
 intro W hE hsz B0
 refine (l37_known W).mono ?_
 rintro e w1 ⟨rfl, e1⟩
 replace hE := hE.trans e1
 replace B0 := e1.block B0
 have hs1 := e1.size
 replace hsz : w.heap.size < w1.heap.size := by omega
 clear e1 hs1
 obtain ⟨a0, a1, a2, -⟩ := cells3 B0
 go_wp2_with (go_at_call 10; refine Hid.out ?_)
 refine (l37_few (hI.ext hE)).mono ?_
 rintro e w2 ⟨rfl, e2⟩
 rw [HS.out]
 replace hE := hE.trans e2
 replace B0 := e2.block B0
 have hs2 := e2.size
 replace hsz : w.heap.size < w2.heap.size := by omega
 clear a0 a1 a2 e2 hs2
 obtain ⟨a0, a1, a2, -⟩ := cells3 B0
 go_wp2
 go_ret
 exact ⟨rfl, hE⟩
set_option maxRecDepth 100000 in
set_option maxHeartbeats 4000000 in
theorem al_bad {N lo hi : Nat} {w : World} {v : Value} {z : Int} {Z : Lin} (h : LinV N lo hi w v Z) (hs : fewB Z = true) (hc : codeOf Z ≠ 0) :
  Calls Tryz.prog 7 #[v, .int .i64 z] w (RetV w (.bool true)) := by
 have hI := h
 obtain ⟨A1, c1, A2, c2, A3, c3, rfl, -⟩ := h.parts
 obtain ⟨f1, f2, f3⟩ := few_sz hs
 have HS := Lib.hid hs
 have HC := Lib.hid hc
 have HF2 := Lib.hid f2
 have HF3 := Lib.hid f3
 have HF1 := Lib.hid f1
 obtain ⟨r, hr⟩ := hid_eq (codeOf Z)
 have hr0 : (r == 0) = false := by rw [hr.out]; simpa using hc
 have hr1 : (r != 0) = true := by simpa using hr0
 have hr2 : (r == r) = true := by simp
 clear h hs hc f1 f2 f3
 go_enter Tryz.func7, Tryz.ntmps7
 go_wp2_with (go_at_call 9; refine Hid.out ?_)
 refine boxesC1 ?_
 intro W hE hsz B0
 refine (l37_known W).mono ?_
 rintro e w1 ⟨rfl, e1⟩
 replace hE := hE.trans e1
 replace B0 := e1.block B0
 have hs1 := e1.size
 replace hsz : w.heap.size < w1.heap.size := by omega
 clear e1 hs1
 obtain ⟨a0, a1, a2, -⟩ := cells3 B0
 go_wp2_with (go_at_call 10; refine Hid.out ?_)
 refine (l37_few (hI.ext hE)).mono ?_
 rintro e w2 ⟨rfl, e2⟩
 rw [HS.out]
 replace hE := hE.trans e2
 replace B0 := e2.block B0
 have hs2 := e2.size
 replace hsz : w.heap.size < w2.heap.size := by omega
 clear a0 a1 a2 e2 hs2
 obtain ⟨a0, a1, a2, -⟩ := cells3 B0
 go_wp2_with (go_at_call 47; refine Hid.out ?_)
 refine (rl_Alone_bad (hI.ext hE) HF2.out HF3.out HC.out).mono ?_
 rintro e w4 ⟨rfl, e4⟩
 rw [← hr.out]
 unfold nilRat
 replace hE := hE.trans e4
 replace B0 := e4.block B0
 replace hsz := blk_lt B0
 clear a0 a1 a2
 obtain ⟨a0, a1, a2, -⟩ := cells3 B0
 go_upto_region 6 with (fail)
 refine boxes1 ?_
 intro w6 e6 hsz6 B6
 replace hE := hE.trans e6
 replace B0 := e6.block B0
 replace hsz := blk_lt B0
 clear a0 a1 a2
 obtain ⟨a0, a1, a2, -⟩ := cells3 B0
 go_wp2_with (go_at_call 14; refine Hid.out ?_)
 refine (l37_code (hI.ext hE) HF2.out HF3.out HF1.out).mono ?_
 rintro e w7 ⟨rfl, e7⟩
 rw [← hr.out]
 replace hE := hE.trans e7
 replace B6 := e7.block B6
 clear a0 a1 a2
 obtain ⟨a0, a1, a2, a3, -⟩ := cells4 B6
 go_wp2_with (go_at_call 15; refine Hid.out ?_)
 refine r2_zero.mono ?_
 rintro e w8 ⟨rfl, e8⟩
 go_wp2
 go_ret
 exact ⟨rfl, hE.trans e8⟩
set_option maxRecDepth 100000 in
set_option maxHeartbeats 8000000 in
theorem al_range {N lo hi : Nat} {w : World} {A1 A2 A3 : Option Addr} {c1 c2 c3 m n : Nat} {X : Nat → Nat → Rat} {y p : Nat → Rat} {Z : Lin} {z : Int}
  (hI : LinV N lo hi w (.agg #[.slice A1 m c1, .slice A2 m c2, .slice A3 m c3]) Z) (hs : fewB Z = true) (hc : codeOf Z = 0)
  (h1 : MtV N lo hi w (.slice A1 m c1) m n X) (h2 : LsV N lo hi w (.slice A2 m c2) m y) (h3 : LsV N lo hi w (.slice A3 m c3) m p) (hm0 : 0 < m) (hm : m ≤ 6) (hn0 : 0 < n) (hn : n ≤ 4) (hpos : ∀ i, i < m → 0 < p i)
  (hkx : HtM m n 17 X) (hky : HtL m 17 y) (hkp : HtL m 17 p) (hout : outB m z = true) :
  Calls Tryz.prog 7 #[.agg #[.slice A1 m c1, .slice A2 m c2, .slice A3 m c3], .int .i64 z] w (RetV w (.bool true)) := by
 have HO := Lib.hid hout
 clear hout
 obtain ⟨f1, f2, f3⟩ := few_sz hs
 have HS := Lib.hid hs
 have HC := Lib.hid hc
 have HF2 := Lib.hid f2
 have HF3 := Lib.hid f3
 have HF1 := Lib.hid f1
 have HX := Lib.hid hkx
 have HY := Lib.hid hky
 have HP := Lib.hid hkp
 have HPOS := Lib.hid hpos
 have hN := h1.le
 clear hs hc f1 f2 f3 hkx hky hkp hpos
 go_enter Tryz.func7, Tryz.ntmps7
 go_wp2_with (go_at_call 9; refine Hid.out ?_)
 refine boxesC1 ?_
 intro W hE hsz B0
 refine (l37_known W).mono ?_
 rintro e w1 ⟨rfl, e1⟩
 replace hE := hE.trans e1
 replace B0 := e1.block B0
 have hs1 := e1.size
 replace hsz : w.heap.size < w1.heap.size := by omega
 clear e1 hs1
 obtain ⟨a0, a1, a2, -⟩ := cells3 B0
 go_wp2_with (go_at_call 10; refine Hid.out ?_)
 refine (l37_few (hI.ext hE)).mono ?_
 rintro e w2 ⟨rfl, e2⟩
 rw [HS.out]
 replace hE := hE.trans e2
 replace B0 := e2.block B0
 have hs2 := e2.size
 replace hsz : w.heap.size < w2.heap.size := by omega
 clear a0 a1 a2 e2 hs2
 obtain ⟨a0, a1, a2, -⟩ := cells3 B0
 go_wp2_with (go_at_call 47; refine Hid.out ?_)
 refine (rl_Alone (h1.ext hE) (h2.ext hE) (h3.ext hE) hm0 hm hn0 hn HPOS.out HX.out HY.out HP.out).mono ?_
 rintro e w4 ⟨e4, hh⟩
 replace hE := hE.trans e4
 replace B0 := e4.block B0
 replace hsz := blk_lt B0
 clear a0 a1 a2
 obtain ⟨a0, a1, a2, -⟩ := cells3 B0
 rcases hh with ⟨-, rfl⟩ | ⟨h0, -⟩ | ⟨h0, -⟩
 ·unfold nilRat
  go_upto_region 6 with (fail)
  refine boxes1 ?_
  intro w6 e6 hsz6 B6
  replace hE := hE.trans e6
  replace B0 := e6.block B0
  replace hsz := blk_lt B0
  clear a0 a1 a2
  obtain ⟨a0, a1, a2, -⟩ := cells3 B0
  go_wp2_with (go_at_call 14; refine Hid.out ?_)
  refine (l37_code (hI.ext hE) HF2.out HF3.out HF1.out).mono ?_
  rintro e w7 ⟨rfl, e7⟩
  rw [HC.out]
  have e67 := e6.trans e7
  replace B6 := e7.block B6
  replace hE := hE.trans e7
  replace B0 := e7.block B0
  replace hsz := blk_lt B0
  clear a0 a1 a2
  obtain ⟨a0, a1, a2, -⟩ := cells3 B0
  clear e7 e6 hsz6
  by_cases h0 : z < 0
  ·obtain ⟨d0, d1, d2, d3, -⟩ := cells4 B6
   go_wp2_with (go_at_call 15; refine Hid.out ?_)
   refine r2_zero.mono ?_
   rintro e w8 ⟨rfl, e8⟩
   go_wp2
   go_ret
   exact ⟨rfl, hE.trans e8⟩
  ·have h1 : (m : Int) ≤ z := by
    have h9 := HO.out
    unfold outB at h9
    rw [decide_eq_false h0, Bool.false_or, decide_eq_true_eq] at h9
    exact h9
   obtain ⟨d0, d1, d2, d3, -⟩ := cells4 B6
   go_wp2_with (go_at_call 15; refine Hid.out ?_)
   refine r2_zero.mono ?_
   rintro e w8 ⟨rfl, e8⟩
   go_wp2
   go_ret
   exact ⟨rfl, hE.trans e8⟩
 ·rw [HO.out] at h0; cases h0
 ·rw [HO.out] at h0; cases h0
set_option maxRecDepth 100000 in
set_option maxHeartbeats 8000000 in
theorem al_deg {N lo hi : Nat} {w : World} {A1 A2 A3 : Option Addr} {c1 c2 c3 m n : Nat} {X : Nat → Nat → Rat} {y p : Nat → Rat} {Z : Lin} {i : Nat}
  (hI : LinV N lo hi w (.agg #[.slice A1 m c1, .slice A2 m c2, .slice A3 m c3]) Z) (hs : fewB Z = true) (hc : codeOf Z = 0)
  (h1 : MtV N lo hi w (.slice A1 m c1) m n X) (h2 : LsV N lo hi w (.slice A2 m c2) m y) (h3 : LsV N lo hi w (.slice A3 m c3) m p) (hm0 : 0 < m) (hm : m ≤ 6) (hn0 : 0 < n) (hn : n ≤ 4) (hpos : ∀ i, i < m → 0 < p i)
  (hkx : HtM m n 17 X) (hky : HtL m 17 y) (hkp : HtL m 17 p) (hi' : i < m) (hz : redOf m n X p i = 0) :
  Calls Tryz.prog 7 #[.agg #[.slice A1 m c1, .slice A2 m c2, .slice A3 m c3], .int .i64 (i : Int)] w (RetV w (.bool true)) := by
 have HZ := Lib.hid hz
 have hfh := few_fit_ht hm hn hkx hkp
 obtain ⟨RD, hRD⟩ := hid_eq (redOf m n X p)
 have HSI : Hid (Sz (RD i)) := by
  rw [Hid, hRD.out]
  exact (Ht.sub (k := 1) Ht.one ((hfh i hi' i hi').mul (hkp i hi'))).sz (by omega)
 have HOB : Hid (outB m (i : Int) = false) := by
  rw [Hid]; unfold outB; rw [decide_eq_false (by omega), decide_eq_false (by omega)]; rfl
 clear hz hfh
 obtain ⟨f1, f2, f3⟩ := few_sz hs
 have HS := Lib.hid hs
 have HC := Lib.hid hc
 have HF2 := Lib.hid f2
 have HF3 := Lib.hid f3
 have HF1 := Lib.hid f1
 have HX := Lib.hid hkx
 have HY := Lib.hid hky
 have HP := Lib.hid hkp
 have HPOS := Lib.hid hpos
 have hN := h1.le
 clear hs hc f1 f2 f3 hkx hky hkp hpos
 go_enter Tryz.func7, Tryz.ntmps7
 go_wp2_with (go_at_call 9; refine Hid.out ?_)
 refine boxesC1 ?_
 intro W hE hsz B0
 refine (l37_known W).mono ?_
 rintro e w1 ⟨rfl, e1⟩
 replace hE := hE.trans e1
 replace B0 := e1.block B0
 have hs1 := e1.size
 replace hsz : w.heap.size < w1.heap.size := by omega
 clear e1 hs1
 obtain ⟨a0, a1, a2, -⟩ := cells3 B0
 go_wp2_with (go_at_call 10; refine Hid.out ?_)
 refine (l37_few (hI.ext hE)).mono ?_
 rintro e w2 ⟨rfl, e2⟩
 rw [HS.out]
 replace hE := hE.trans e2
 replace B0 := e2.block B0
 have hs2 := e2.size
 replace hsz : w.heap.size < w2.heap.size := by omega
 clear a0 a1 a2 e2 hs2
 obtain ⟨a0, a1, a2, -⟩ := cells3 B0
 go_wp2_with (go_at_call 47; refine Hid.out ?_)
 refine (rl_Alone (h1.ext hE) (h2.ext hE) (h3.ext hE) hm0 hm hn0 hn HPOS.out HX.out HY.out HP.out).mono ?_
 rintro e w4 ⟨e4, hh⟩
 replace hE := hE.trans e4
 replace B0 := e4.block B0
 replace hsz := blk_lt B0
 clear a0 a1 a2
 obtain ⟨a0, a1, a2, -⟩ := cells3 B0
 rcases hh with ⟨h0, -⟩ | ⟨-, -, rfl⟩ | ⟨-, h0, -⟩
 ·rw [HOB.out] at h0; cases h0
 ·unfold nilRat
  go_upto_region 6 with (fail)
  refine boxes1 ?_
  intro w6 e6 hsz6 B6
  replace hE := hE.trans e6
  replace B0 := e6.block B0
  replace hsz := blk_lt B0
  clear a0 a1 a2
  obtain ⟨a0, a1, a2, -⟩ := cells3 B0
  go_wp2_with (go_at_call 14; refine Hid.out ?_)
  refine (l37_code (hI.ext hE) HF2.out HF3.out HF1.out).mono ?_
  rintro e w7 ⟨rfl, e7⟩
  rw [HC.out]
  have e67 := e6.trans e7
  replace B6 := e7.block B6
  replace hE := hE.trans e7
  replace B0 := e7.block B0
  replace hsz := blk_lt B0
  clear a0 a1 a2
  obtain ⟨a0, a1, a2, -⟩ := cells3 B0
  clear e7 e6 hsz6
  go_wp2_with (go_at_call 27; refine Hid.out ?_)
  refine (l37_redundancy (h1.ext hE) (h2.ext hE) (h3.ext hE) hm0 hm hn0 hn HPOS.out HX.out HP.out).mono ?_
  rintro e w8 ⟨A8, c8, rfl, h8, e8⟩
  rw [← hRD.out] at h8
  replace B6 := e8.block B6
  replace hE := hE.trans e8
  replace B0 := e8.block B0
  replace hsz := blk_lt B0
  clear a0 a1 a2
  obtain ⟨a0, a1, a2, -⟩ := cells3 B0
  obtain ⟨b, off, rfl, -, -, hx⟩ := LsV.addr h8 hm0
  obtain ⟨n1, A9, k9, c9, A10, k10, c10, p0, p1, p2, p3, hb1, g1, g2⟩ := (hx i hi').open
  clear hx h8
  go_wp2_with (go_at_call 28; refine Hid.out ?_)
  refine (r2_sign (RatV.mk hb1 g1 g2) HSI.out).mono ?_
  rintro e w9 ⟨rfl, e9⟩
  have HSG : Hid ((RD i).num.sign = 0) := by rw [Hid, hRD.out, HZ.out]; rfl
  rw [HSG.out]
  replace B6 := e9.block B6
  clear p0 p1 p2 p3 a0 a1 a2
  obtain ⟨d0, d1, d2, d3, -⟩ := cells4 B6
  go_wp2_with (go_at_call 15; refine Hid.out ?_)
  refine r2_zero.mono ?_
  rintro e w10 ⟨rfl, e10⟩
  go_wp2
  go_ret
  exact ⟨rfl, (hE.trans e9).trans e10⟩
 ·rw [Int.toNat_natCast] at h0
  exact absurd HZ.out h0
end Go.Proofs.YtghpfnhmlpfgcaaGreat
namespace Go.Proofs.YtghpfnhmlpfgcaaGreat
open Go.RowKit
theorem alone_mul {m n : Nat} {X : Nat → Nat → Rat} {y p x : Nat → Rat} (hp : ∀ i, i < m + 1 → 0 < p i) {i : Nat} (hi : i < m + 1) (hx : Nsol m n (fun j c => X (skip i j) c) (fun j => p (skip i j)) (fun j => y (skip i j)) x) :
  redOf (m + 1) n X p i * (av n X x i - y i) = vvOf (m + 1) n X y p i := by
 have h := alone (model_of (m + 1) n X hp) hi hx
 rw [red_hd, h]
 unfold vvOf
 have h2 : sum (m + 1) (fun j => gf X (invM (rref (m + 1) X n).2.length (nmat (bas X (rref (m + 1) X n).2) p (m + 1))) (rref (m + 1) X n).2 i j * p j * y j) = sum (m + 1) (fun j => fitsOf (m + 1) n X p i j * p j * y j) := rfl
 rw [h2]
 grind
theorem alone_div {m n : Nat} {X : Nat → Nat → Rat} {y p x : Nat → Rat} (hp : ∀ i, i < m + 1 → 0 < p i) {i : Nat} (hi : i < m + 1) (hx : Nsol m n (fun j c => X (skip i j) c) (fun j => p (skip i j)) (fun j => y (skip i j)) x) (hr : redOf (m + 1) n X p i ≠ 0) :
  vvOf (m + 1) n X y p i / redOf (m + 1) n X p i = - y i + av n X x i := by
 have h := alone_mul hp hi hx
 rw [← h]
 grind
theorem alone_one {n : Nat} {X : Nat → Nat → Rat} {y p : Nat → Rat} (hp : ∀ i, i < 1 → 0 < p i) (hr : redOf 1 n X p 0 ≠ 0) : vvOf 1 n X y p 0 / redOf 1 n X p 0 = - y 0 := by
 have hl := (rref_len 1 X n).1
 have h1 : (rref 1 X n).2.length ≠ 1 := fun h => hr ((red_zero1 hp).2 h)
 have h0 : (rref 1 X n).2.length = 0 := by omega
 have hF : fitsOf 1 n X p 0 0 = 0 := by
  unfold fitsOf fits
  rw [h0]
  rfl
 have h2 : vvOf 1 n X y p 0 = - y 0 := by
  unfold vvOf
  show - y 0 + ((0 : Rat) + fitsOf 1 n X p 0 0 * p 0 * y 0) = - y 0
  rw [hF]
  grind
 have h3 : redOf 1 n X p 0 = 1 := by
  unfold redOf
  rw [hF]
  have : ((1 : Int) : Rat) = 1 := rfl
  rw [this]
  grind
 rw [h2, h3]
 grind
theorem few_sol2 {m : Nat} (hm : m ≤ 6) : 5 * (5 ^ 4 * (m * (m * (17 + 17 + 1) + 1 + 17 + 1) + 1)) ≤ 29000000000 := by
 have h : m = 0 ∨ m = 1 ∨ m = 2 ∨ m = 3 ∨ m = 4 ∨ m = 5 ∨ m = 6 := by omega
 rcases h with rfl | rfl | rfl | rfl | rfl | rfl | rfl <;> decide
theorem div_mul_back {a b : Rat} (h : b ≠ 0) : a / b * b = a := by grind
end Go.Proofs.YtghpfnhmlpfgcaaGreat
