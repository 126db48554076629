import Derived.Test.YtghpfnhmlpfgcaaGreatWb37
import Derived.Test.YtghpfnhmlpfgcaaGreatWb36
set_option linter.all false
namespace Go.Proofs.YtghpfnhmlpfgcaaGreat
open Go.RowKit
theorem MdlV.ext {N : Nat} {w w' : World} {gm m n : Nat} {X : Nat → Nat → Rat} {y p : Nat → Rat} {pv : List Nat} {F : Nat → Nat → Rat} (h : MdlV N w gm m n X y p pv F) (e : Ext w w') : MdlV N w' gm m n X y p pv F := by
 obtain ⟨A1, c1, A2, c2, A3, c3, A4, c4, s5, s6, A7, c7, B, h1, h2, h3, h4, h5⟩ := h
 have hs := e.size
 exact ⟨A1, c1, A2, c2, A3, c3, A4, c4, s5, s6, A7, c7, e.block B, MtR.wide (h1.ext e) (Nat.le_refl _) hs (Nat.le_refl _), LsR.wide (h2.ext e) (Nat.le_refl _) hs (Nat.le_refl _), LsR.wide (h3.ext e) (Nat.le_refl _) hs (Nat.le_refl _), (h4.ext e).wide (Nat.le_refl _) hs (Nat.le_refl _), MtR.wide (h5.ext e) (Nat.le_refl _) hs (Nat.le_refl _)⟩
set_option maxRecDepth 100000 in
set_option maxHeartbeats 4000000 in
theorem rl_projected {N : Nat} {w : World} {gm m n : Nat} {X : Nat → Nat → Rat} {y p : Nat → Rat} {pv : List Nat} {F : Nat → Nat → Rat} (h : MdlV N w gm m n X y p pv F) {i j : Nat} (hi : i < m) (hj : j < m) (hm : m < 1000000) (hz : Sz (F i j)) (hz' : Sz (p j)) :
  Calls Tryz.prog 86 #[.pointer (some ⟨gm, 0, none⟩), .int .i64 (i : Int), .int .i64 (j : Int)] w (RetR N w (F i j * p j)) := by
 obtain ⟨q, hq⟩ := hid_eq (F i j * p j)
 rw [← hq.out]
 obtain ⟨A1, c1, A2, c2, A3, c3, A4, c4, s5, s6, A7, c7, B, h1, h2, h3, h4, h5⟩ := h
 have hN := h1.le
 have HZ := Lib.hid hz
 have HZ' := Lib.hid hz'
 obtain ⟨b, off, rfl, -, -, hx⟩ := h5.addr (by omega)
 obtain ⟨A5, c5, o0, -, -, hrow⟩ := hx i hi
 obtain ⟨b2, off2, rfl, -, -, hx2⟩ := hrow.addr (by omega)
 obtain ⟨n1, A6, k6, c6, A8, k8, c8, p0, p1, p2, p3, hb1, g1, g2⟩ := (hx2 j hj).open
 obtain ⟨b3, off3, rfl, -, -, hx3⟩ := h3.addr (by omega)
 obtain ⟨n2, A9, k9, c9, A10, k10, c10, t0, t1, t2, t3, hb2, g3, g4⟩ := (hx3 j hj).open
 obtain ⟨r0, r1, r2, r3, r4, r5, r6⟩ := cells7 B
 clear hx hx2 hx3 hrow h1 h2 h3 h4 h5 hz hz' B
 go_enter Tryz.func86, Tryz.ntmps86
 go_upto_region 1 with (fail)
 refine boxes1 ?_
 intro W hE hsz B0
 replace r2 := hE.cell r2
 replace r6 := hE.cell r6
 replace o0 := hE.cell o0
 replace p0 := hE.cell p0
 replace p1 := hE.cell p1
 replace p2 := hE.cell p2
 replace p3 := hE.cell p3
 replace t0 := hE.cell t0
 replace t1 := hE.cell t1
 replace t2 := hE.cell t2
 replace t3 := hE.cell t3
 have eC := (Ext.refl W).drew
 refine region_late (fun w' => w'.cell? ⟨gm, 6, none⟩ = some (.slice (some ⟨b, off, none⟩) m c7) ∧ w'.cell? ⟨gm, 2, none⟩ = some (.slice (some ⟨b3, off3, none⟩) m c3) ∧ w'.cell? ⟨b, off + i, none⟩ = some (.slice (some ⟨b2, off2, none⟩) m c5) ∧ w'.cell? ⟨b2, off2 + j * 4, none⟩ = some (.bool n1) ∧ w'.cell? ⟨b2, off2 + j * 4 + 1, none⟩ = some (.slice A6 k6 c6) ∧ w'.cell? ⟨b2, off2 + j * 4 + 2, none⟩ = some (.bool false) ∧ w'.cell? ⟨b2, off2 + j * 4 + 3, none⟩ = some (.slice A8 k8 c8) ∧ w'.cell? ⟨b3, off3 + j * 4, none⟩ = some (.bool n2) ∧ w'.cell? ⟨b3, off3 + j * 4 + 1, none⟩ = some (.slice A9 k9 c9) ∧ w'.cell? ⟨b3, off3 + j * 4 + 2, none⟩ = some (.bool false) ∧ w'.cell? ⟨b3, off3 + j * 4 + 3, none⟩ = some (.slice A10 k10 c10)) [19] (by kernel_rfl) (by exact ⟨eC.cell r6, eC.cell r2, eC.cell o0, eC.cell p0, eC.cell p1, eC.cell p2, eC.cell p3, eC.cell t0, eC.cell t1, eC.cell t2, eC.cell t3⟩) (fun hHeld => ?_)
 refine sP 0 (h := ?_)
 try simp only [nr]
 refine sP 1 (h := ?_)
 try simp only [nr]
 refine sP 2 (h := ?_)
 try simp only [nr]
 refine sT 3 (h := ?_)
 try simp only [nr]
 refine sP 4 (h := ?_)
 try simp only [nr]
 refine sP 5 (h := ?_)
 try simp only [nr]
 refine sT 6 (h := ?_)
 try simp only [nr]
 refine sP 7 (h := ?_)
 try simp only [nr]
 refine sP 8 (h := ?_)
 try simp only [nr]
 refine sT 9 (h := ?_)
 try simp only [nr]
 refine sP 10 (h := ?_)
 try simp only [nr]
 refine sP 11 (h := ?_)
 try simp only [nr]
 refine sP 12 (h := ?_)
 try simp only [nr]
 refine sP 13 (h := ?_)
 try simp only [nr]
 refine sT 14 (h := ?_)
 try simp only [nr]
 refine sP 15 (h := ?_)
 try simp only [nr]
 refine sP 16 (h := ?_)
 try simp only [nr]
 refine sT 17 (h := ?_)
 try simp only [nr]
 refine stepL_only (i := 18) rfl (by kernel_rfl) (fun K hK => ?_)
 go_simp
 refine (rl_mul (x := F i j) (y := p j) (by exact (RatV.mk hb1 g1 g2).ext (hE.trans eC)) (by exact (RatV.mk hb2 g3 g4).ext (hE.trans eC)) HZ.out HZ'.out).mono ?_
 rw [← hq.out]
 intro e w5 hh
 obtain ⟨b9, A11, k11, c11, A12, k12, c12, rfl, hb9, g9, g10, e5⟩ := hh.form
 replace eC := eC.trans e5
 have D0 := eC.block B0
 obtain ⟨u0, u1, u2, u3, u4, u5, u6, u7⟩ := cells4 D0
 go_wp2_with fail
 clear hHeld
 refine hK.out _ _ (by exact ⟨eC.cell r6, eC.cell r2, eC.cell o0, eC.cell p0, eC.cell p1, eC.cell p2, eC.cell p3, eC.cell t0, eC.cell t1, eC.cell t2, eC.cell t3⟩) fun hHeld => ?_
 clear hK K
 try simp only [nr]
 refine stepL_late (i := 19) rfl (by kernel_rfl) (by kernel_rfl) (fun K hK => ?_)
 go_simp
 refine hK.out _ _ ?_
 clear hK K
 try simp only [nr]
 refine stepL_done (by kernel_rfl) ?_ _
 clear hHeld
 go_wp2
 exact fin_rat rfl rfl rfl (hE.trans eC) D0 (by omega) hN g9 g10 hb9
set_option maxRecDepth 100000 in
set_option maxHeartbeats 4000000 in
theorem rl_residuals {N : Nat} {w : World} {gm m n : Nat} {X : Nat → Nat → Rat} {y p : Nat → Rat} {pv : List Nat} {F : Nat → Nat → Rat} (h : MdlV N w gm m n X y p pv F) (hm0 : 0 < m) (hm : m < 1000000)
  {kf k : Nat} (hF : HtM m m kf F) (hy : HtL m k y) (hp : HtL m k p) (hK : m * (kf + k + k + 1) + k + 2 ≤ 29000000000) :
  Calls Tryz.prog 58 #[.pointer (some ⟨gm, 0, none⟩)] w (RetL N w m (fun i => - y i + sum m (fun j => F i j * p j * y j))) := by
 have HF := Lib.hid hF
 have HY := Lib.hid hy
 have HP := Lib.hid hp
 have HK := Lib.hid hK
 have hI := h
 obtain ⟨A1, c1, A2, c2, A3, c3, A4, c4, s5, s6, A7, c7, B, h1, h2, h3, h4, h5⟩ := h
 have hN := h1.le
 have HSS : Hid (∀ i, i < m → ∀ j, j < m → Sz (F i j) ∧ Sz (p j) ∧ Sz (y j) ∧ Sz (F i j * p j) ∧ Sz (F i j * p j * y j) ∧ Sz (- y i + sum j (fun j => F i j * p j * y j))) := fun i hi j hj => by
  have h9 := Nat.le_mul_of_pos_left (kf + k + k + 1) hm0
  have hf := hF i hi j hj
  exact ⟨hf.sz (by omega), (hp j hj).sz (by omega), (hy j hj).sz (by omega), (hf.mul (hp j hj)).sz (by omega), ((hf.mul (hp j hj)).mul (hy j hj)).sz (by omega), ((hy i hi).neg.add (sum_ht (n := m) (k := kf + k + k) (K := m * (kf + k + k + 1) + 1) (fun t ht => ((hF i hi t ht).mul (hp t ht)).mul (hy t ht)) (by omega) (Nat.le_refl _))).sz (by omega)⟩
 have hmc := h2.form
 clear hF hy hp hK h1 h3 h4 h5
 obtain ⟨r0, r1, r2, r3, r4, r5, r6⟩ := cells7 B
 go_enter Tryz.func58, Tryz.ntmps58
 go_wp2
 clear r0 r1 r2 r3 r4 r5 r6
 go_loopw [3, 15] (fun v i wr => ∃ a : Nat, a ≤ m ∧ i = .int .i64 a ∧ Ext w wr ∧ ∃ A' c', v = .slice A' a c' ∧ Grow N w.heap.size wr (.slice A' a c') a (fun i => - y i + sum m (fun j => F i j * p j * y j))) (fun _ i _ => m - (intOf i).toNat)
 case atStart => exact ⟨0, Nat.zero_le _, rfl, Ext.refl w, _, _, rfl, Grow.nil hN (Nat.le_refl _) _⟩
 case round =>
  obtain ⟨a, ha, rfl, hE, A', c', rfl, hG⟩ := hrel
  have hsE := hE.size
  by_cases hlt : a < m
  ·obtain ⟨b, off, rfl, -, -, hx⟩ := (h2.ext hE).addr (by omega)
   obtain ⟨n1, A6, k6, c6, A8, k8, c8, p0, p1, p2, p3, hb1, g1, g2⟩ := (hx a hlt).open
   clear hx
   go_upto_region 5 with (fail)
   refine boxes1 ?_
   intro w1 e1 hsz1 B1
   replace hE := hE.trans e1
   replace hG := hG.ext e1
   obtain ⟨z0, z1, z2, z3, -⟩ := cells4 B1
   clear p0 p1 p2 p3
   go_wp2_with (go_at_call 89; refine Hid.out ?_)
   refine (f_neg ((RatV.mk hb1 g1 g2).ext e1) (HSS.out a hlt a hlt).2.2.1).mono ?_
   intro e w2 hh
   obtain ⟨b3, A9, k9, c9, A10, k10, c10, rfl, hb3, g3, g4, e2⟩ := hh.form
   replace hE := hE.trans e2
   replace hG := hG.ext e2
   clear z0 z1 z2 z3 B1 g1 g2 hb1 e1 e2
   go_upto_region 6 with (fail)
   refine boxes1 ?_
   intro w3 e3 hsz3 B3
   have HS0 : Hid (- y a = - y a + sum 0 (fun j => F a j * p j * y j)) := by rw [Hid]; show - y a = - y a + 0; grind
   rw [HS0.out] at hb3 g3 g4
   have hB : BoxR N w3 w2.heap.size (- y a + sum 0 (fun j => F a j * p j * y j)) := BoxR.mk B3 hb3 (g3.ext e3) (g4.ext e3)
   have BM3 := e3.block (hE.block B)
   obtain ⟨r0, r1, r2, r3, r4, r5, r6⟩ := cells7 BM3
   have hs2 := hE.size
   clear B3 g3 g4 hb3 hsz1
   go_wp2
   clear r0 r1 r2 r3 r4 r5 r6
   go_loopw [28] (fun i wr => ∃ j : Nat, j ≤ m ∧ i = .int .i64 j ∧ Ext w2 wr ∧ w2.heap.size < wr.heap.size ∧ BoxR N wr w2.heap.size (- y a + sum j (fun j => F a j * p j * y j))) (fun i _ => m - (intOf i).toNat)
   case atStart => exact ⟨0, Nat.zero_le _, rfl, e3, by omega, hB⟩
   case round =>
    clear e3 hB hsz3
    obtain ⟨j, hj, rfl, e3, hsz3, hB⟩ := hrel
    by_cases hltj : j < m
    ·obtain ⟨b', off', hA, -, -, hx⟩ := ((h2.ext hE).ext e3).addr (by omega)
     obtain ⟨rfl, rfl⟩ : b = b' ∧ off = off' := by injection hA with hA; injection hA with e1 e2; exact ⟨e1, e2⟩
     obtain ⟨n1, A6, k6, c6, A8, k8, c8, p0, p1, p2, p3, hb1, g1, g2⟩ := (hx j hltj).open
     clear hx hA
     go_upto_region 9 with (fail)
     refine boxes1 ?_
     intro w5 e5 hsz5 B5
     obtain ⟨b3, A9, k9, c9, A10, k10, c10, BS, hb3, g3, g4⟩ := hB.ext e5
     obtain ⟨s0, s1, s2, s3, -⟩ := cells4 BS
     obtain ⟨t0, t1, t2, t3, -⟩ := cells4 B5
     have hI5 := (hI.ext hE).ext (e3.trans e5)
     have e35 := e3.trans e5
     replace g1 := g1.ext e5
     replace g2 := g2.ext e5
     obtain ⟨hS1, hS2, hS3, hS4, hS5, hS6⟩ := HSS.out a hlt j hltj
     have HS1 := Lib.hid hS1
     have HS2 := Lib.hid hS2
     have HS3 := Lib.hid hS3
     have HS4 := Lib.hid hS4
     have HS5 := Lib.hid hS5
     have HS6 := Lib.hid hS6
     obtain ⟨gz, hgz⟩ : ∃ gz, gz = wr.heap.size := ⟨_, rfl⟩
     rw [← hgz] at t0 t1 t2 t3 hsz5 hsz3 ⊢
     clear p0 p1 p2 p3 B5 hB e3 e5 hS1 hS2 hS3 hS4 hS5 hS6 hgz
     have eC := (Ext.refl w5).drew
     refine region_late (fun w' => w'.cell? ⟨w2.heap.size, 0, none⟩ = some (.bool b3) ∧ w'.cell? ⟨w2.heap.size, 1, none⟩ = some (.slice A9 k9 c9) ∧ w'.cell? ⟨w2.heap.size, 2, none⟩ = some (.bool false) ∧ w'.cell? ⟨w2.heap.size, 3, none⟩ = some (.slice A10 k10 c10) ∧ w'.cell? ⟨gz, 0, none⟩ = some (.bool n1) ∧ w'.cell? ⟨gz, 1, none⟩ = some (.slice A6 k6 c6) ∧ w'.cell? ⟨gz, 2, none⟩ = some (.bool false) ∧ w'.cell? ⟨gz, 3, none⟩ = some (.slice A8 k8 c8)) [8] (by kernel_rfl) (by exact ⟨eC.cell s0, eC.cell s1, eC.cell s2, eC.cell s3, eC.cell t0, eC.cell t1, eC.cell t2, eC.cell t3⟩) (fun hHeld => ?_)
     refine sT 0 (h := ?_)
     try simp only [nr]
     refine sP 1 (h := ?_)
     try simp only [nr]
     refine sP 2 (h := ?_)
     try simp only [nr]
     refine sP 3 (h := ?_)
     try simp only [nr]
     refine sT 5 (h := ?_)
     try simp only [nr]
     refine stepL_only (i := 4) rfl (by kernel_rfl) (fun K hK => ?_)
     go_simp
     refine (rl_projected (i := a) (j := j) (by exact hI5.ext eC) hlt hltj hm HS1.out HS2.out).mono ?_
     rintro e w6 ⟨v6, rfl, h6, e6⟩
     replace eC := eC.trans e6
     go_wp2_with fail
     clear hHeld
     refine hK.out _ _ (by exact ⟨eC.cell s0, eC.cell s1, eC.cell s2, eC.cell s3, eC.cell t0, eC.cell t1, eC.cell t2, eC.cell t3⟩) fun hHeld => ?_
     clear hK K
     try simp only [nr]
     refine stepL_only (i := 6) rfl (by kernel_rfl) (fun K hK => ?_)
     go_simp
     refine (rl_mul (x := F a j * p j) (y := y j) (by exact h6) (by exact (RatV.mk hb1 g1 g2).ext eC) HS4.out HS3.out).mono ?_
     rintro e w7 ⟨v7, rfl, h7, e7⟩
     replace eC := eC.trans e7
     go_wp2_with fail
     clear hHeld
     refine hK.out _ _ (by exact ⟨eC.cell s0, eC.cell s1, eC.cell s2, eC.cell s3, eC.cell t0, eC.cell t1, eC.cell t2, eC.cell t3⟩) fun hHeld => ?_
     clear hK K
     try simp only [nr]
     refine stepL_only (i := 7) rfl (by kernel_rfl) (fun K hK => ?_)
     go_simp
     refine (f_add (x := - y a + sum j (fun j => F a j * p j * y j)) (y := F a j * p j * y j) (by exact (RatV.mk hb3 g3 g4).ext eC) (by exact h7) HS6.out HS5.out).mono ?_
     intro e w8 hh
     obtain ⟨b9, A11, k11, c11, A12, k12, c12, rfl, hb9, g9, g10, e8⟩ := hh.form
     replace eC := eC.trans e8
     have D0 := eC.block BS
     obtain ⟨u0, u1, u2, u3, u4, u5, u6, u7⟩ := cells4 D0
     go_wp2_with fail
     clear hHeld
     refine hK.out _ _ (by exact ⟨eC.cell s0, eC.cell s1, eC.cell s2, eC.cell s3, eC.cell t0, eC.cell t1, eC.cell t2, eC.cell t3⟩) fun hHeld => ?_
     clear hK K
     try simp only [nr]
     refine stepL_late (i := 8) rfl (by kernel_rfl) (by kernel_rfl) (fun K hK => ?_)
     go_simp
     refine hK.out _ _ ?_
     clear hK K
     try simp only [nr]
     refine stepL_done (by kernel_rfl) ?_ _
     clear hHeld
     have HSU : Hid (- y a + sum j (fun j => F a j * p j * y j) + F a j * p j * y j = - y a + sum (j + 1) (fun j => F a j * p j * y j)) := by rw [Hid, sum_succ]; grind
     rw [HSU.out] at hb9 g9 g10
     obtain ⟨w9, E9, hB9, K9, hs9⟩ := boxSet D0 (by omega) hb9 g9 g10
     rw [E9]
     have e9 := K9.ext (e35.trans eC) (Nat.le_refl _)
     have hs10 : w2.heap.size < w9.heap.size := by have := eC.size; omega
     clear E9 K9 D0 s0 s1 s2 s3 t0 t1 t2 t3 u0 u1 u2 u3 u4 u5 u6 u7 BS g1 g2 g3 g4 g9 g10 hb1 hb3 hb9 hI5
     go_wp2
     go_roundw
     case rel => exact ⟨j + 1, by omega, by go_num, e9, hs10, hB9⟩
     case measure => simp [intOf]; omega
    ·obtain rfl : m = j := by omega
     obtain ⟨b3, A9, k9, c9, A10, k10, c10, BS, hb3, g3, g4⟩ := hB
     obtain ⟨s0, s1, s2, s3, -⟩ := cells4 BS
     go_wp2_with (at_builtin; refine Hid.out ?_)
     refine boxes1 ?_
     intro w8 e8 hsz8 BX
     replace hG := (hG.ext e3).ext e8
     replace hE := (hE.trans e3).trans e8
     refine wpList_append_rat rfl _ _ 24 Tryz.underlying24 rfl rfl hG rfl BX hb3 (g3.ext e8) (g4.ext e8) (by omega) ?_
     rintro g cap' w9 hG3 ⟨g', hg', c9', -⟩ -
     replace hE := c9'.ext hE (by omega)
     replace hG3 := hG3.congr (y := fun i => - y i + sum m (fun j => F i j * p j * y j)) (fun j _ => by unfold upd; split <;> simp_all)
     clear hG c9' BX e8 g3 g4 hb3 s0 s1 s2 s3 BS
     go_wp2
     go_roundw
     case rel => exact ⟨a + 1, by omega, by go_num, hE, _, _, rfl, hG3⟩
     case measure => simp [intOf]; omega
  ·obtain rfl : a = m := by omega
   go_wp2
   go_ret
   exact ⟨A', c', rfl, hG.lsv (Nat.le_refl _) rfl, hE⟩
end Go.Proofs.YtghpfnhmlpfgcaaGreat
namespace Go.Proofs.YtghpfnhmlpfgcaaGreat
open Go.RowKit
structure Bnd (m n k P k2 k3 : Nat) : Prop where
 hP : n ≤ P
 hK0 : 5 * (5 ^ P * k) ≤ 29000000000
 hK1 : m * (3 * k + 1) + 3 * k + 2 ≤ 29000000000
 hk2 : k2 = 5 ^ P * (m * (3 * k + 1) + 2)
 hK2 : 5 * k2 ≤ 29000000000
 hk3 : k3 = P * (k2 + k + 1) + 1
 hK4 : P * (k + k3 + 1) + 1 ≤ 29000000000
theorem fitsOf_ht {m n k P k2 k3 : Nat} {X : Nat → Nat → Rat} {p : Nat → Rat} (h : Bnd m n k P k2 k3) (hkx : HtM m n k X) (hkp : HtL m k p) : HtM m m (P * (k + k3 + 1) + 1) (fitsOf m n X p) := by
 intro i hi j hj
 have HLEN : (rref m X n).2.length ≤ n := by
  rcases Nat.lt_or_ge n (rref m X n).2.length with h9 | h9
  ·have h8 := inc_ge (rref_ok m X n).inc n h9
   have h7 := (rref_ok m X n).low n h9
   omega
  ·exact h9
 have HLOW := (rref_ok m X n).low
 unfold fitsOf fits
 generalize (rref m X n).2 = pv at *
 have hB : HtM m pv.length k (bas X pv) := fun i hi s hs => hkx i hi _ (HLOW s hs)
 have hPn : pv.length ≤ P := by have := h.hP; omega
 have hKB : HtM pv.length pv.length (m * (3 * k + 1) + 1) (nmat (bas X pv) p m) := nmat_ht hB hkp (Nat.le_refl _) (Nat.le_refl _)
 have hIB : 5 ^ pv.length * (m * (3 * k + 1) + 1 + 1) ≤ k2 := by rw [h.hk2]; exact Nat.mul_le_mul (Nat.pow_le_pow_right (by omega) hPn) (Nat.le_refl _)
 have hIV : HtM pv.length pv.length k2 (invM pv.length (nmat (bas X pv) p m)) := fun i hi j hj => ((rref_ht' (htM_augI hKB) (by omega) (.inl (Nat.le_refl _))) i hi (pv.length + j) (by omega)).mono hIB
 have h3 : pv.length * (k2 + k + 1) + 1 ≤ k3 := by rw [h.hk3]; have := Nat.mul_le_mul_right (k2 + k + 1) hPn; omega
 refine (sum_ht (n := pv.length) (k := k + k3) (K := pv.length * (k + k3 + 1) + 1) (fun s hs => (hB i hi s hs).mul (sum_ht (n := pv.length) (k := k2 + k) (fun t ht => (hIV s hs t ht).mul (hB j hj t ht)) (Nat.le_refl _) h3)) (Nat.le_refl _) (Nat.le_refl _)).mono ?_
 have := Nat.mul_le_mul_right (k + k3 + 1) hPn
 omega
set_option maxRecDepth 100000 in
set_option maxHeartbeats 2000000 in
theorem rl_Residuals {N lo hi : Nat} {w : World} {v1 v2 v3 : Value} {m n : Nat} {X : Nat → Nat → Rat} {y p : Nat → Rat} (h1 : MtV N lo hi w v1 m n X) (h2 : LsV N lo hi w v2 m y) (h3 : LsV N lo hi w v3 m p) (hm0 : 0 < m) (hm : m ≤ 64) (hn0 : 0 < n) (hn : n ≤ 24) (hp : ∀ i, i < m → 0 < p i)
  {k P k2 k3 : Nat} (hB : Bnd m n k P k2 k3) (hkx : HtM m n k X) (hky : HtL m k y) (hkp : HtL m k p) (hK : m * (P * (k + k3 + 1) + 1 + k + k + 1) + k + 2 ≤ 29000000000) :
  Calls Tryz.prog 12 #[.agg #[v1, v2, v3]] w (RetL2 N w m (fun i => - y i + sum m (fun j => fitsOf m n X p i j * p j * y j))) := by
 have HX := Lib.hid hkx
 have HY := Lib.hid hky
 have HP := Lib.hid hkp
 have HB := Lib.hid hB
 have HK := Lib.hid hK
 have HPOS := Lib.hid hp
 obtain ⟨Rf, hRf⟩ := hid_eq (RetL2 N w m (fun i => - y i + sum m (fun j => fitsOf m n X p i j * p j * y j)))
 rw [← hRf.out]
 have hN := h1.le
 obtain ⟨A1, c1, rfl, hmc, hcm⟩ := h1.form
 obtain ⟨A2, c2, rfl, hmc2, hcm2⟩ := h2.form
 obtain ⟨A3, c3, rfl, hmc3, hcm3⟩ := h3.form
 have hI1 := h1
 have hI2 := h2
 have hI3 := h3
 clear h1 h2 h3 hkx hky hkp hK hB hp
 go_enter Tryz.func12, Tryz.ntmps12
 go_wp2_with (go_at_call 57; refine Hid.out ?_)
 refine boxesC1 ?_
 intro W hE hsz B0
 refine (rl_open (hI1.ext hE) (hI2.ext hE) (hI3.ext hE) hm0 hm hn0 hn HPOS.out HB.out.hP HX.out HY.out HP.out HB.out.hK0 HB.out.hK1 HB.out.hk2 HB.out.hK2 HB.out.hk3 HB.out.hK4).mono ?_
 rintro e w1 ⟨gm, rfl, hM, e1⟩
 have hs1 := hE.size
 have hs2 := e1.size
 go_wp2_with (go_at_call 58; refine Hid.out ?_)
 refine (rl_residuals hM hm0 (by omega) (fitsOf_ht HB.out HX.out HP.out) HY.out HP.out HK.out).mono ?_
 rintro e w2 ⟨A4, c4, rfl, h4, e2⟩
 go_wp2
 first | go_ret2 | skip
 rw [hRf.out]
 exact ⟨A4, c4, rfl, LsR.wide h4 (by omega) (Nat.le_refl _) (Nat.le_refl _), (hE.trans e1).trans e2⟩
end Go.Proofs.YtghpfnhmlpfgcaaGreat
namespace Go.Proofs.YtghpfnhmlpfgcaaGreat
open Go.RowKit
set_option maxHeartbeats 2000000 in
theorem rl_over {N : Nat} {w : World} {v v' : Value} {x y : Rat} (h : RatV N w v x) (h' : RatV N w v' y) (hz : Sz x) (hz' : Sz y) (hy : y ≠ 0) :
  Calls Tryz.prog 62 #[v, v'] w (RetR N w (x / y)) := by
 obtain ⟨q, hq⟩ := hid_eq (x / y)
 rw [← hq.out]
 have HY := Lib.hid hy
 clear hy
 have hN := h.le
 have hI := h
 have hI' := h'
 have HZ := Lib.hid hz
 have HZ' := Lib.hid hz'
 obtain ⟨m1, X1, i1, d1, X2, i2, d2, rfl, hm1, gx1, gx2⟩ := h.parts
 obtain ⟨m2, Y1, i3, d3, Y2, i4, d4, rfl, hm2, gy1, gy2⟩ := h'.parts
 clear hz hz' h h' gx1 gx2 gy1 gy2
 go_enter Tryz.func62, Tryz.ntmps62
 go_wp2_with (go_at_call 114; refine Hid.out ?_)
 refine boxesC3 ?_
 intro W hE hsz B0 B1 B2
 refine (f_divide (hI.ext hE) (hI'.ext hE) HZ.out HZ'.out HY.out).mono ?_
 rw [← hq.out]
 intro e w1 hh
 obtain ⟨n3, A3, k3, c3, A4, k4, c4, rfl, hb3, g3, g4, e1⟩ := hh.form
 replace hE := hE.trans e1
 replace B2 := e1.block B2
 have hsz1 := Nat.le_trans hsz e1.size
 go_upto_region 2 with (fail)
 refine boxes1 ?_
 intro w2 e2 hsz2 BX
 replace hE := hE.trans e2
 replace B2 := e2.block B2
 obtain ⟨s0, s1, s2, s3, -⟩ := cells4 BX
 obtain ⟨t0, t1, t2, t3, t4, t5, t6, t7⟩ := cells4 B2
 go_wp2
 exact fin_rat rfl rfl rfl hE B2 (by omega) hN (g3.ext e2) (g4.ext e2) hb3
theorem nat_ne {a : Nat} (h : a ≠ 0) : (((a : Nat) : Int) : Rat) ≠ 0 := by
 intro e
 have h2 := congrArg Rat.num e
 rw [Rat.num_intCast] at h2
 have h3 : (0 : Rat).num = 0 := rfl
 omega
def nilRat : Value := .agg #[.bool false, .slice none 0 0, .bool false, .slice none 0 0]
def RetFac (N : Nat) (w : World) (fr : Nat) (S : Rat) (e : Ending) (w' : World) : Prop :=
 Ext w w' ∧ ((fr = 0 ∧ e = .returned (.tuple #[nilRat, .int .i64 13])) ∨ (fr ≠ 0 ∧ ∃ v, e = .returned (.tuple #[v, .int .i64 0]) ∧ RatV N w' v (S / ((fr : Int) : Rat))))
set_option maxRecDepth 100000 in
set_option maxHeartbeats 8000000 in
theorem rl_Factor {N lo hi : Nat} {w : World} {v1 v2 v3 : Value} {m n : Nat} {X : Nat → Nat → Rat} {y p : Nat → Rat} (h1 : MtV N lo hi w v1 m n X) (h2 : LsV N lo hi w v2 m y) (h3 : LsV N lo hi w v3 m p) (hm0 : 0 < m) (hm : m ≤ 64) (hn0 : 0 < n) (hn : n ≤ 24) (hp : ∀ i, i < m → 0 < p i)
  {k P k2 k3 kv : Nat} (hB : Bnd m n k P k2 k3) (hkx : HtM m n k X) (hky : HtL m k y) (hkp : HtL m k p) (hK : m * (P * (k + k3 + 1) + 1 + k + k + 1) + k + 2 ≤ kv) (hKs : m * (k + kv + kv + 1) + 100 ≤ 29000000000) (vv : Nat → Rat) (hvv : vv = fun i => - y i + sum m (fun j => fitsOf m n X p i j * p j * y j)) :
  Calls Tryz.prog 13 #[.agg #[v1, v2, v3]] w (RetFac N w (m - (rref m X n).2.length) (sum m (fun i => p i * (vv i * vv i)))) := by
 have h9 := Nat.le_mul_of_pos_left (k + kv + kv + 1) hm0
 have HX := Lib.hid hkx
 have HY := Lib.hid hky
 have HP := Lib.hid hkp
 have HB := Lib.hid hB
 have HK : Hid (m * (P * (k + k3 + 1) + 1 + k + k + 1) + k + 2 ≤ 29000000000) := by rw [Hid]; omega
 have HPOS := Lib.hid hp
 have HV : Hid (HtL m kv vv) := by
  intro i hi
  rw [hvv]
  exact ((hky i hi).neg.add (sum_ht (n := m) (k := P * (k + k3 + 1) + 1 + k + k) (K := m * (P * (k + k3 + 1) + 1 + k + k + 1) + 1) (fun t ht => ((fitsOf_ht hB hkx hkp i hi t ht).mul (hkp t ht)).mul (hky t ht)) (Nat.le_refl _) (Nat.le_refl _))).mono (by omega)
 have HSS : Hid (∀ i, i < m → Sz (vv i) ∧ Sz (p i) ∧ Sz (vv i * vv i) ∧ Sz (p i * (vv i * vv i))) := fun i hi =>
  ⟨(HV.out i hi).sz (by omega), (hkp i hi).sz (by omega), ((HV.out i hi).mul (HV.out i hi)).sz (by omega), ((hkp i hi).mul ((HV.out i hi).mul (HV.out i hi))).sz (by omega)⟩
 have HSU : Hid (∀ i, i ≤ m → Sz (sum i (fun i => p i * (vv i * vv i)))) := fun i hi => (sum_ht (n := m) (k := k + (kv + kv)) (K := 29000000000) (fun t ht => (hkp t ht).mul ((HV.out t ht).mul (HV.out t ht))) hi (by have h8 : k + (kv + kv) + 1 = k + kv + kv + 1 := (by omega); rw [h8]; omega)).sz (Nat.le_refl _)
 have HVV := Lib.hid hvv
 obtain ⟨r, hr⟩ := hid_eq (rref m X n).2.length
 have hrm : r ≤ m := by rw [hr.out]; exact (rref_ok m X n).len
 obtain ⟨S, hS⟩ := hid_eq (sum m (fun i => p i * (vv i * vv i)))
 rw [← hr.out, ← hS.out]
 obtain ⟨Rf, hRf⟩ := hid_eq (RetFac N w (m - r) S)
 rw [← hRf.out]
 have hN := h1.le
 obtain ⟨A1, c1, rfl, hmc, hcm⟩ := h1.form
 obtain ⟨A2, c2, rfl, hmc2, hcm2⟩ := h2.form
 obtain ⟨A3, c3, rfl, hmc3, hcm3⟩ := h3.form
 have hI1 := h1
 have hI2 := h2
 have hI3 := h3
 have hw1 : IntKind.i64.wrap ((m : Int) - (r : Int)) = (m : Int) - (r : Int) := IntWalk.i64_in _ (by omega)
 clear h1 h2 h3 hkx hky hkp hK hKs hB hp h9 hvv
 go_enter Tryz.func13, Tryz.ntmps13
 go_wp2_with (go_at_call 57; refine Hid.out ?_)
 refine boxesC2 ?_
 intro W hE hsz B0 B1
 refine (rl_open (hI1.ext hE) (hI2.ext hE) (hI3.ext hE) hm0 hm hn0 hn HPOS.out HB.out.hP HX.out HY.out HP.out HB.out.hK0 HB.out.hK1 HB.out.hk2 HB.out.hK2 HB.out.hk3 HB.out.hK4).mono ?_
 rintro e w1 ⟨gm, rfl, hM, e1⟩
 have hMd := hM
 obtain ⟨A4, c4, A5, c5, A6, c6, A7, c7, s5, s6, A8, c8, BM, -⟩ := hM
 rw [← hr.out] at BM
 obtain ⟨r0, r1, r2, r3, r4, r5, r6⟩ := cells7 BM
 have hs1 := hE.size
 have hs2 := e1.size
 replace hE := hE.trans e1
 replace B0 := e1.block B0
 replace B1 := e1.block B1
 obtain ⟨a0, a1, a2, -⟩ := cells3 B0
 go_upto_region 4 with (fail)
 have eC := (Ext.refl w1).drew
 refine region_late (fun w' => w'.cell? ⟨w.heap.size, 0, none⟩ = some (.slice A1 m c1) ∧ w'.cell? ⟨gm, 3, none⟩ = some (.slice A7 r c7)) [] (by kernel_rfl) (by exact ⟨eC.cell a0, eC.cell r3⟩) (fun hHeld => ?_)
 refine sP 0 (h := ?_)
 try simp only [nr]
 refine sT 1 (h := ?_)
 try simp only [nr]
 refine sP 2 (h := ?_)
 try simp only [nr]
 refine sP 3 (h := ?_)
 try simp only [nr]
 refine sP 4 (h := ?_)
 try simp only [nr]
 refine sP 5 (h := ?_)
 try simp only [nr]
 refine sT 6 (h := ?_)
 try simp only [nr]
 refine sP 7 (h := ?_)
 try simp only [nr]
 refine sP 8 (h := ?_)
 try simp only [nr]
 refine sP 9 (h := ?_)
 try simp only [nr]
 refine stepL_done (by kernel_rfl) ?_ _
 clear hHeld
 clear r0 r1 r2 r3 r4 r5 r6 a0 a1 a2 BM hs2 e1
 replace B0 := eC.block B0
 replace B1 := eC.block B1
 replace hE := hE.trans eC
 replace hMd := hMd.ext eC
 generalize w1.drew = w1d at *
 by_cases hfr : m = r
 ·obtain ⟨t0, t1, t2, t3, t4, t5, t6, t7⟩ := cells4 B1
  have hb0 : ((m : Int) - (r : Int) == 0) = true := by rw [hfr]; simp
  go_wp2
  obtain ⟨w12, E12, F2, U⟩ := ex4 B1 (.bool false) (.slice none 0 0) (.bool false) (.slice none 0 0)
  rw [E12]
  obtain ⟨z0, z1, z2, z3, -⟩ := cells4 F2
  refine bodyPost_ret (v := .tuple #[nilRat, .int .i64 13]) ?_ rfl ?_
  ·simp [results, Tryz.results13, z0, z1, z2, z3, go_sem, nilRat]
  rw [hRf.out]
  exact ⟨U.ext hE (by omega), .inl ⟨by omega, rfl⟩⟩
 ·have hb0 : ((m : Int) - (r : Int) == 0) = false := by simp; omega
  have hs3 := hE.size
  go_wp2_with (go_at_call 59; refine Hid.out ?_)
  refine (rl_whole (N := N) (by omega) 0 (by omega) (by omega)).mono ?_
  intro e w2 hh
  obtain ⟨b3, A9, k9, c9, A10, k10, c10, rfl, hb3, g3, g4, e2⟩ := hh.form
  replace hE := hE.trans e2
  replace B0 := e2.block B0
  replace B1 := e2.block B1
  replace hMd := hMd.ext e2
  have hs4 := Nat.le_trans hs3 e2.size
  have hb1 : w.heap.size + 1 < w2.heap.size := blk_lt B1
  clear e2
  go_upto_region 8 with (fail)
  refine boxes1 ?_
  intro w3 e3 hsz3 B3
  have HS0 : Hid (((0 : Int) : Rat) = sum 0 (fun i => p i * (vv i * vv i))) := rfl
  rw [HS0.out] at hb3 g3 g4
  have hBx : BoxR N w3 w2.heap.size (sum 0 (fun i => p i * (vv i * vv i))) := BoxR.mk B3 hb3 (g3.ext e3) (g4.ext e3)
  have hMd3 := hMd.ext e3
  have hE3 := hE.trans e3
  replace B0 := e3.block B0
  replace B1 := e3.block B1
  clear B3 g3 g4 hb3
  go_wp2_with (go_at_call 58; refine Hid.out ?_)
  refine (rl_residuals hMd3 hm0 (by omega) (fitsOf_ht HB.out HX.out HP.out) HY.out HP.out HK.out).mono ?_
  rintro e w4 ⟨A11, c11, rfl, hres, e4⟩
  rw [← HVV.out] at hres
  replace hBx := hBx.ext e4
  replace B0 := e4.block B0
  replace B1 := e4.block B1
  have hE4 := hE3.trans e4
  have hs5 := e4.size
  clear e4 hE3 hMd3 hMd
  go_wp2
  go_loopw [35] (fun i wr => ∃ a : Nat, a ≤ m ∧ i = .int .i64 a ∧ Chg w2.heap.size (w2.heap.size + 1) w4 wr ∧ BoxR N wr w2.heap.size (sum a (fun i => p i * (vv i * vv i)))) (fun i _ => m - (intOf i).toNat)
  case atStart => exact ⟨0, Nat.zero_le _, rfl, Chg.refl _ _ _, hBx⟩
  case round =>
   clear hBx
   obtain ⟨a, ha, rfl, hC, hBx⟩ := hrel
   have hsC := hC.size
   have B0r := hC.blk B0 (.inl (by omega))
   have B1r := hC.blk B1 (.inl (by omega))
   obtain ⟨a0, a1, a2, -⟩ := cells3 B0r
   by_cases hlt : a < m
   ·have hrs := hres.chg hC (by omega) (.inr (by omega))
    have hl3 := (hI3.ext hE4).chg hC (by omega) (.inl (by have := hI3.2.1; omega))
    obtain ⟨b, off, rfl, -, -, hx⟩ := hrs.addr (by omega)
    obtain ⟨n1, A6, k6, c6, A12, k12, c12, p0, p1, p2, p3, hb1, g1, g2⟩ := (hx a hlt).open
    obtain ⟨b5, off5, rfl, -, -, hx5⟩ := hl3.addr (by omega)
    obtain ⟨n5, A13, k13, c13, A14, k14, c14, q0, q1, q2, q3, hb5, g5, g6⟩ := (hx5 a hlt).open
    clear hx hx5 hrs hl3
    go_upto_region 11 with (fail)
    refine boxes1 ?_
    intro w5 e5 hsz5 B5
    obtain ⟨b3, A9, k9, c9, A10, k10, c10, BS, hb3, g3, g4⟩ := hBx.ext e5
    obtain ⟨s0, s1, s2, s3, -⟩ := cells4 BS
    obtain ⟨t0, t1, t2, t3, -⟩ := cells4 B5
    replace a2 := e5.cell a2
    replace q0 := e5.cell q0
    replace q1 := e5.cell q1
    replace q2 := e5.cell q2
    replace q3 := e5.cell q3
    replace g1 := g1.ext e5
    replace g2 := g2.ext e5
    replace g5 := g5.ext e5
    replace g6 := g6.ext e5
    have hC5 := hC.trans (e5.chg _ _)
    obtain ⟨hS1, hS2, hS3, hS4⟩ := HSS.out a hlt
    have HS1 := Lib.hid hS1
    have HS2 := Lib.hid hS2
    have HS3 := Lib.hid hS3
    have HS4 := Lib.hid hS4
    have HS5 := Lib.hid (HSU.out a ha)
    obtain ⟨gz, hgz⟩ : ∃ gz, gz = wr.heap.size := ⟨_, rfl⟩
    rw [← hgz] at t0 t1 t2 t3 hsz5 hsC ⊢
    clear p0 p1 p2 p3 B5 hBx e5 hS1 hS2 hS3 hS4 a0 a1 hgz B0r B1r
    have eC := (Ext.refl w5).drew
    refine region_late (fun w' => w'.cell? ⟨w2.heap.size, 0, none⟩ = some (.bool b3) ∧ w'.cell? ⟨w2.heap.size, 1, none⟩ = some (.slice A9 k9 c9) ∧ w'.cell? ⟨w2.heap.size, 2, none⟩ = some (.bool false) ∧ w'.cell? ⟨w2.heap.size, 3, none⟩ = some (.slice A10 k10 c10) ∧ w'.cell? ⟨gz, 0, none⟩ = some (.bool n1) ∧ w'.cell? ⟨gz, 1, none⟩ = some (.slice A6 k6 c6) ∧ w'.cell? ⟨gz, 2, none⟩ = some (.bool false) ∧ w'.cell? ⟨gz, 3, none⟩ = some (.slice A12 k12 c12) ∧ w'.cell? ⟨w.heap.size, 2, none⟩ = some (.slice (some ⟨b5, off5, none⟩) m c3) ∧ w'.cell? ⟨b5, off5 + a * 4, none⟩ = some (.bool n5) ∧ w'.cell? ⟨b5, off5 + a * 4 + 1, none⟩ = some (.slice A13 k13 c13) ∧ w'.cell? ⟨b5, off5 + a * 4 + 2, none⟩ = some (.bool false) ∧ w'.cell? ⟨b5, off5 + a * 4 + 3, none⟩ = some (.slice A14 k14 c14)) [11] (by kernel_rfl) (by exact ⟨eC.cell s0, eC.cell s1, eC.cell s2, eC.cell s3, eC.cell t0, eC.cell t1, eC.cell t2, eC.cell t3, eC.cell a2, eC.cell q0, eC.cell q1, eC.cell q2, eC.cell q3⟩) (fun hHeld => ?_)
    refine sT 0 (h := ?_)
    try simp only [nr]
    refine sP 1 (h := ?_)
    try simp only [nr]
    refine sT 2 (h := ?_)
    try simp only [nr]
    refine sP 3 (h := ?_)
    try simp only [nr]
    refine sP 4 (h := ?_)
    try simp only [nr]
    refine sT 5 (h := ?_)
    try simp only [nr]
    refine sT 6 (h := ?_)
    try simp only [nr]
    refine sT 7 (h := ?_)
    try simp only [nr]
    refine stepL_only (i := 8) rfl (by kernel_rfl) (fun K hK => ?_)
    go_simp
    refine (rl_mul (x := vv a) (y := vv a) (by exact (RatV.mk hb1 g1 g2).ext eC) (by exact (RatV.mk hb1 g1 g2).ext eC) HS1.out HS1.out).mono ?_
    rintro e w6 ⟨v6, rfl, h6, e6⟩
    replace eC := eC.trans e6
    go_wp2_with fail
    clear hHeld
    refine hK.out _ _ (by exact ⟨eC.cell s0, eC.cell s1, eC.cell s2, eC.cell s3, eC.cell t0, eC.cell t1, eC.cell t2, eC.cell t3, eC.cell a2, eC.cell q0, eC.cell q1, eC.cell q2, eC.cell q3⟩) fun hHeld => ?_
    clear hK K
    try simp only [nr]
    refine stepL_only (i := 9) rfl (by kernel_rfl) (fun K hK => ?_)
    go_simp
    refine (rl_mul (x := p a) (y := vv a * vv a) (by exact (RatV.mk hb5 g5 g6).ext eC) (by exact h6) HS2.out HS3.out).mono ?_
    rintro e w7 ⟨v7, rfl, h7, e7⟩
    replace eC := eC.trans e7
    go_wp2_with fail
    clear hHeld
    refine hK.out _ _ (by exact ⟨eC.cell s0, eC.cell s1, eC.cell s2, eC.cell s3, eC.cell t0, eC.cell t1, eC.cell t2, eC.cell t3, eC.cell a2, eC.cell q0, eC.cell q1, eC.cell q2, eC.cell q3⟩) fun hHeld => ?_
    clear hK K
    try simp only [nr]
    refine stepL_only (i := 10) rfl (by kernel_rfl) (fun K hK => ?_)
    go_simp
    refine (f_add (x := sum a (fun i => p i * (vv i * vv i))) (y := p a * (vv a * vv a)) (by exact (RatV.mk hb3 g3 g4).ext eC) (by exact h7) HS5.out HS4.out).mono ?_
    intro e w8 hh
    obtain ⟨b9, A15, k15, c15, A16, k16, c16, rfl, hb9, g9, g10, e8⟩ := hh.form
    replace eC := eC.trans e8
    have D0 := eC.block BS
    obtain ⟨u0, u1, u2, u3, u4, u5, u6, u7⟩ := cells4 D0
    go_wp2_with fail
    clear hHeld
    refine hK.out _ _ (by exact ⟨eC.cell s0, eC.cell s1, eC.cell s2, eC.cell s3, eC.cell t0, eC.cell t1, eC.cell t2, eC.cell t3, eC.cell a2, eC.cell q0, eC.cell q1, eC.cell q2, eC.cell q3⟩) fun hHeld => ?_
    clear hK K
    try simp only [nr]
    refine stepL_late (i := 11) rfl (by kernel_rfl) (by kernel_rfl) (fun K hK => ?_)
    go_simp
    refine hK.out _ _ ?_
    clear hK K
    try simp only [nr]
    refine stepL_done (by kernel_rfl) ?_ _
    clear hHeld
    obtain ⟨w9, E9, hB9, K9, hs9⟩ := boxSet (q := sum (a + 1) (fun i => p i * (vv i * vv i))) D0 (by omega) hb9 g9 g10
    rw [E9]
    have hC9 := (hC5.trans (eC.chg _ _)).trans K9
    clear E9 K9 D0 s0 s1 s2 s3 t0 t1 t2 t3 u0 u1 u2 u3 u4 u5 u6 u7 BS g1 g2 g3 g4 g9 g10 hb1 hb3 hb9 hb5 g5 g6 q0 q1 q2 q3 a2
    go_wp2
    go_roundw
    case rel => exact ⟨a + 1, by omega, by go_num, hC9, hB9⟩
    case measure => simp [intOf]; omega
   ·obtain rfl : m = a := by omega
    obtain ⟨b3, A9, k9, c9, A10, k10, c10, BS, hb3, g3, g4⟩ := hBx
    obtain ⟨s0, s1, s2, s3, -⟩ := cells4 BS
    have hE5 := hC.ext hE4 (by omega)
    clear a0 a1 a2 B0r
    have HSS5 := Lib.hid (HSU.out m ha)
    have hfz : (m : Int) - (r : Int) = ((m - r : Nat) : Int) := by omega
    have HFS : Hid (Sz (((m - r : Nat) : Int) : Rat)) := (ht_nat (m - r) 7 (by omega) (by omega)).sz (by omega)
    have HFN : Hid ((((m - r : Nat) : Int) : Rat) ≠ 0) := by rw [Hid]; exact nat_ne (by omega)
    go_upto_region 13 with (fail)
    have eC := (Ext.refl wr).drew
    refine region_late (fun w' => w'.cell? ⟨w2.heap.size, 0, none⟩ = some (.bool b3) ∧ w'.cell? ⟨w2.heap.size, 1, none⟩ = some (.slice A9 k9 c9) ∧ w'.cell? ⟨w2.heap.size, 2, none⟩ = some (.bool false) ∧ w'.cell? ⟨w2.heap.size, 3, none⟩ = some (.slice A10 k10 c10)) [4] (by kernel_rfl) (by exact ⟨eC.cell s0, eC.cell s1, eC.cell s2, eC.cell s3⟩) (fun hHeld => ?_)
    refine sT 0 (h := ?_)
    try simp only [nr]
    refine sP 1 (h := ?_)
    try simp only [nr]
    refine stepL_only (i := 2) rfl (by kernel_rfl) (fun K hK => ?_)
    go_simp
    refine (rl_whole (N := N) (by have h8 := eC.size; have h9 : N ≤ wr.heap.size := (by omega); omega) _ (by omega) (by omega)).mono ?_
    (try rw [hfz])
    rintro e w6 ⟨v6, rfl, h6, e6⟩
    replace eC := eC.trans e6
    go_wp2_with fail
    clear hHeld
    refine hK.out _ _ (by exact ⟨eC.cell s0, eC.cell s1, eC.cell s2, eC.cell s3⟩) fun hHeld => ?_
    clear hK K
    try simp only [nr]
    refine stepL_only (i := 3) rfl (by kernel_rfl) (fun K hK => ?_)
    go_simp
    refine (rl_over (x := sum m (fun i => p i * (vv i * vv i))) (y := (((m - r : Nat) : Int) : Rat)) (by exact (RatV.mk hb3 g3 g4).ext eC) (by exact h6) HSS5.out HFS.out HFN.out).mono ?_
    intro e w8 hh
    obtain ⟨b9, A15, k15, c15, A16, k16, c16, rfl, hb9, g9, g10, e8⟩ := hh.form
    replace eC := eC.trans e8
    have D1 := eC.block B1r
    obtain ⟨u0, u1, u2, u3, u4, u5, u6, u7⟩ := cells4 D1
    go_wp2_with fail
    clear hHeld
    refine hK.out _ _ (by exact ⟨eC.cell s0, eC.cell s1, eC.cell s2, eC.cell s3⟩) fun hHeld => ?_
    clear hK K
    try simp only [nr]
    refine stepL_late (i := 4) rfl (by kernel_rfl) (by kernel_rfl) (fun K hK => ?_)
    go_simp
    refine hK.out _ _ ?_
    clear hK K
    try simp only [nr]
    refine sP 5 (h := ?_)
    try simp only [nr]
    refine stepL_done (by kernel_rfl) ?_ _
    clear hHeld
    obtain ⟨w12, E12, F2, U⟩ := ex4 D1 (.bool b9) (.slice A15 k15 c15) (.bool false) (.slice A16 k16 c16)
    go_wp2
    rw [E12]
    obtain ⟨z0, z1, z2, z3, -⟩ := cells4 F2
    refine bodyPost_ret (v := .tuple #[.agg #[.bool b9, .slice A15 k15 c15, .bool false, .slice A16 k16 c16], .int .i64 0]) ?_ rfl ?_
    ·simp [results, Tryz.results13, z0, z1, z2, z3, go_sem]
    rw [hRf.out, hS.out]
    exact ⟨U.ext (hE5.trans eC) (by omega), .inr ⟨by omega, _, rfl, RatV.mk hb9 (g9.upd U (by omega) (NoU.mk D1 (by decide))) (g10.upd U (by omega) (NoU.mk D1 (by decide)))⟩⟩
end Go.Proofs.YtghpfnhmlpfgcaaGreat
namespace Go.Proofs.YtghpfnhmlpfgcaaGreat
open Go.RowKit
set_option maxHeartbeats 1000000 in
theorem l37_code1 {N lo hi lo' hi' : Nat} {w : World} {u : Value} {gb : Nat} {A : Option Addr} {m n c : Nat} {L : Nat → Nat} {R : Nat → Nat → Raw} {R' : Nat → Raw} (hb : w.cell? ⟨gb, 0, none⟩ = some (.slice A m c)) (h : MtR N lo hi w (.slice A m c) m L R) (h' : LsR N lo' hi' w u n R') (hm0 : 0 < m) :
  Calls Tryz.prog 63 #[u, .pointer (some ⟨gb, 0, none⟩)] w (RetV w (.bool (!decide (n = L 0)))) := by
 obtain ⟨r, hr⟩ := hid_eq (!decide (n = L 0))
 rw [← hr.out]
 obtain ⟨b, off, rfl, -, -, hx⟩ := h.addr (by omega)
 obtain ⟨A0, c0, o0, hc0, hm0', -⟩ := hx 0 (by omega)
 rw [Nat.add_zero] at o0
 obtain ⟨A1, c1, rfl, hn1, hm1⟩ := h'.form
 unfold maxLen at hm0' hm1
 obtain ⟨L0, hL0⟩ := hid_eq (L 0)
 rw [← hL0.out] at o0 hc0 hr
 clear h h' hx
 have HR : Hid (((n : Int) != (L0 : Int)) = r) := by
  rw [Hid, hr.out]
  by_cases e : n = L0
  ·subst e; simp
  ·have e2 : ((n : Int) != (L0 : Int)) = true := by rw [bne_iff_ne]; omega
   rw [e2, decide_eq_false e]; rfl
 go_enter Tryz.func63, Tryz.ntmps63
 go_wp2
 go_ret
 exact ⟨ret_bool HR.out, Ext.refl w⟩
set_option maxHeartbeats 1000000 in
theorem l37_code2 {N : Nat} {w : World} {v : Value} {q : Rat} (h : RatV N w v q) (hz : Sz q) :
  Calls Tryz.prog 64 #[v] w (RetV w (.bool (!decide (0 < q.num)))) := by
 obtain ⟨r, hr⟩ := hid_eq (!decide (0 < q.num))
 rw [← hr.out]
 have hI := h
 have HZ := Lib.hid hz
 obtain ⟨m1, X1, i1, d1, X2, i2, d2, rfl, hm1, gx1, gx2⟩ := h.parts
 clear h hz gx1 gx2
 obtain ⟨s, hs⟩ := hid_eq q.num.sign
 have HR : Hid (decide (s ≤ 0) = r) := by
  rw [Hid, hr.out, hs.out]
  by_cases e : 0 < q.num
  ·rw [decide_eq_true e, Int.sign_eq_one_of_pos e]; rfl
  ·rw [decide_eq_false e, decide_eq_true]; rfl
   rcases Int.lt_trichotomy q.num 0 with h1 | h1 | h1
   ·rw [Int.sign_eq_neg_one_of_neg h1]; omega
   ·rw [h1]; decide
   ·exact absurd h1 e
 go_enter Tryz.func64, Tryz.ntmps64
 go_wp2_with (go_at_call 28; refine Hid.out ?_)
 refine boxesC1 ?_
 intro W hE hsz B0
 refine (r2_sign (hI.ext hE) HZ.out).mono ?_
 rintro e w1 ⟨rfl, e1⟩
 rw [← hs.out]
 go_wp2
 go_ret
 exact ⟨ret_bool HR.out, hE.trans e1⟩
end Go.Proofs.YtghpfnhmlpfgcaaGreat
namespace Go.Proofs.YtghpfnhmlpfgcaaGreat
open Go.RowKit
theorem append_types {P : Program} {t t' e e' ty : TypeId} (ht : P.underlying t = some (.slice e)) (ht' : P.underlying t' = some (.slice e')) (v x : Value) (w : World) :
  (Builtin.append_ #[t, t'] ty #[v, x]).run P w = (Builtin.append_ #[t, t] ty #[v, x]).run P w := by
 unfold Builtin.append_
 simp only [List.getElem?_toArray, List.getElem?_cons_zero, List.getElem?_cons_succ, Sem.run_bind, run_underlying ht, run_underlying ht', Result.andThen_ok]
 cases v with
 | slice base n c =>
  simp only [Sem.run_bind, Sem.run_pure, run_underlying ht, run_underlying ht', Result.andThen_ok]
 | _ => rfl
theorem run_append_none {P : Program} {t e ty : TypeId} {i : TypeInfo} (ht : P.underlying t = some (.slice e)) (hi : P.info? e = some i) (b : Option Addr) (A : Option Addr) (c : Nat) (w : World) :
  (Builtin.append_ #[t, t] ty #[.slice b 0 0, .slice A 0 c]).run P w = .ok (.slice b 0 0) w := by
 cases A <;> cases b <;> simp [Builtin.append_, run_underlying ht, Builtin.lenOf, Builtin.firstCells, sizeOf, typeInfo, hi, storeCells, loadCells, loadCellsFrom]
end Go.Proofs.YtghpfnhmlpfgcaaGreat
namespace Go.Proofs.YtghpfnhmlpfgcaaGreat
open Go.RowKit
def GrowS (base : Nat) (w : World) (v : Value) (xs : List Value) : Prop := base ≤ w.heap.size ∧ w.ownsRow base 24 1 v xs.length xs
theorem GrowS.empty {base : Nat} {w : World} {g : Nat} (hb : base ≤ g) (h : w.heap[g]? = some (.cells #[] 24 (0, 0))) : GrowS base w (.slice (some ⟨g, 0, none⟩) 0 0) [] :=
 ⟨Nat.le_trans hb (Nat.le_of_lt (blk_lt h)), rfl, .inr ⟨g, 0, #[], rfl, hb, h, Nat.le_refl _, by unfold maxLen; omega, rfl, rfl⟩⟩
theorem GrowS.ext {base : Nat} {w w' : World} {v : Value} {xs : List Value} (h : GrowS base w v xs) (e : Ext w w') : GrowS base w' v xs := by
 obtain ⟨h0, h1, h2⟩ := h
 refine ⟨Nat.le_trans h0 e.size, h1, ?_⟩
 rcases h2 with h2 | ⟨g, cap, cur, hv, hb, hg, h3⟩
 ·exact .inl h2
 ·exact .inr ⟨g, cap, cur, hv, hb, e.block hg, h3⟩
theorem GrowS.noU {base : Nat} {w : World} {v : Value} {xs : List Value} (h : GrowS base w v xs) : ∃ g', base ≤ g' ∧ NoU w g' ∧ (∀ k, v.ownBlock = some k → k = g') ∧ (v.ownBlock = some g' ∨ g' = w.heap.size) := by
 obtain ⟨h0, -, h2⟩ := h
 rcases h2 with ⟨rfl, -⟩ | ⟨g, cap, cur, rfl, hb, hg, -⟩
 ·exact ⟨w.heap.size, h0, fun cs fr h => by (rw [Array.getElem?_eq_none (Nat.le_refl _)] at h; cases h), fun k hk => by simp [Value.ownBlock] at hk, .inr rfl⟩
 ·exact ⟨g, hb, NoU.mk hg (by decide), fun k hk => by simpa [Value.ownBlock] using hk.symm, .inl rfl⟩
theorem GrowS.at_ {base : Nat} {w : World} {v : Value} {xs : List Value} (h : GrowS base w v xs) (hn : 0 < xs.length) : ∃ g cap, v = .slice (some ⟨g, 0, none⟩) xs.length cap ∧ cap ≤ maxLen ∧ xs.length ≤ cap ∧ ∀ j (hj : j < xs.length), w.cell? ⟨g, j, none⟩ = some xs[j] := by
 obtain ⟨-, -, h2⟩ := h
 rcases h2 with ⟨-, h⟩ | ⟨g, cap, cur, hv, hb, hg, hnc, hcm, hcs, htk⟩
 ·omega
 ·refine ⟨g, cap, hv, hcm, hnc, fun j hj => ?_⟩
  rw [cell_blk hg]
  have h9 : (cur.toList.take (xs.length * 1))[j]? = some xs[j] := by rw [htk]; exact List.getElem?_eq_getElem hj
  rw [List.getElem?_take] at h9
  rw [if_pos (by omega)] at h9
  simpa using h9
theorem run_append_rows {base : Nat} {w : World} {v : Value} {xs news : List Value} (t t' ty e' : TypeId) (ht : Tryz.prog.underlying t = some (.slice 24)) (ht' : Tryz.prog.underlying t' = some (.slice e')) (h : GrowS base w v xs) {A : Option Addr} {c : Nat}
  (hnews : 0 < news.length → ∃ b off, A = some ⟨b, off, none⟩ ∧ ∀ j (hj : j < news.length), w.cell? ⟨b, off + j, none⟩ = some news[j]) (h1 : ∀ u ∈ news, u.oneCell' = true) (hx : (∃ b, v = .slice b 0 0) ∨ 0 < news.length) (hlen : xs.length + news.length ≤ 100000) :
  ∃ v' w', (Builtin.append_ #[t, t'] ty #[v, .slice A news.length c]).run Tryz.prog w = .ok v' w' ∧ GrowS base w' v' (xs ++ news) ∧ ∃ g', base ≤ g' ∧ (v.ownBlock = some g' ∨ g' = w.heap.size) ∧ Chg g' (g' + 1) w w' := by
 rw [append_types ht ht']
 obtain ⟨i0, hi0, hz0, hz1, hz2⟩ := info_parts info_row
 obtain ⟨g', hg', hT, hk, hw9⟩ := h.noU
 rcases Nat.eq_zero_or_pos news.length with hz | hz
 ·have hnil : news = [] := List.eq_nil_of_length_eq_zero hz
  rcases hx with ⟨b, rfl⟩ | hx
  ·refine ⟨.slice b 0 0, w, ?_, ?_, g', hg', hw9, Chg.refl _ _ _⟩
   ·rw [hz]; exact run_append_none ht hi0 b A c w
   ·rw [hnil, List.append_nil]; exact h
  ·omega
 ·obtain ⟨b, off, rfl, hn⟩ := hnews hz
  obtain ⟨h0, hown⟩ := h
  obtain ⟨g, cap, w', hrun, ho, hgr, hat, hlt⟩ := run_append_lies (P := Tryz.prog) w t ty base 24 i0 _ 1 24 ht hi0 hz0 hz1 hz2 rfl (by omega) v xs.length xs hown ⟨b, off, none⟩ news.length c news (by omega)
   (fun j u hj => by
    have hjl : j < news.length := (List.getElem?_eq_some_iff.1 hj).1
    rw [add_none, hn j hjl, ← hj]
    exact (List.getElem?_eq_getElem hjl).symm)
   h1 hz (by unfold maxLen; omega) (by omega) h0 w.heap.size rfl
  refine ⟨_, w', hrun, ⟨Nat.le_trans h0 hgr.size, ?_⟩, g', hg', hw9, grown_chg hgr hk hT⟩
  rw [List.length_append]; exact ho
theorem step_append_rows {base : Nat} {w : World} {ops : Array Oper} {o : Oper} {a : Act} {K : Act → World → Prop} {Q : Exit → Act → World → Prop} {E : Prop} (hgd : o.guard = none) {v : Value} {xs news : List Value} (s x : Operand) (t t' e' : TypeId) (ht : Tryz.prog.underlying t = some (.slice 24)) (ht' : Tryz.prog.underlying t' = some (.slice e'))
  (ho : o.op = .call { callee := .builtin .append, args := #[s, x], argTypes := #[t, t'] }) (hs : a.eval s = v) (h : GrowS base w v xs) {A : Option Addr} {c : Nat} (hxv : a.eval x = .slice A news.length c)
  (hnews : 0 < news.length → ∃ b off, A = some ⟨b, off, none⟩ ∧ ∀ j (hj : j < news.length), w.cell? ⟨b, off + j, none⟩ = some news[j]) (h1 : ∀ u ∈ news, u.oneCell' = true) (hx : (∃ b, v = .slice b 0 0) ∨ 0 < news.length) (hlen : xs.length + news.length ≤ 100000)
  (hK : ∀ v' w', GrowS base w' v' (xs ++ news) → (∃ g', base ≤ g' ∧ (v.ownBlock = some g' ∨ g' = w.heap.size) ∧ Chg g' (g' + 1) w w') → K (a.put o.dst v') w') :
  if Region.wanted o (yielded ops a.tmps) = true then Oper.wp Tryz.prog o a w K Q else E := by
 have hw : Region.wanted o (yielded ops a.tmps) = true := by simp [Region.wanted, hgd]
 rw [if_pos hw]
 obtain ⟨v', w', hrun, h2, h3⟩ := run_append_rows t t' o.type e' ht ht' h hnews h1 hx hlen (c := c)
 unfold Oper.wp execOp
 simp only [ho, resolve, invoke, builtin, Sem.run_bind, Sem.run_pure, Result.andThen_ok, List.map_toArray, List.map_cons, List.map_nil, hs, hxv, hrun]
 exact hK v' w' h2 h3
end Go.Proofs.YtghpfnhmlpfgcaaGreat
namespace Go.Proofs.YtghpfnhmlpfgcaaGreat
open Go.RowKit
def diagTo (p : Nat → Rat) (k i j : Nat) : Rat := if i = j ∧ i < k then p i else 0
theorem diagTo_succ (p : Nat → Rat) (k i j : Nat) : diagTo p (k + 1) i j = updM (diagTo p k) k (upd (diagTo p k k) k (p k)) i j := by
 unfold updM
 by_cases e : i = k
 ·subst e
  rw [if_pos rfl]
  unfold upd diagTo
  by_cases e2 : j = i
  ·subst e2; rw [if_pos (by omega), if_pos rfl]
  ·rw [if_neg e2, if_neg (by omega), if_neg (by omega)]
 ·rw [if_neg e]
  unfold diagTo
  by_cases e2 : i = j ∧ i < k
  ·rw [if_pos e2, if_pos (by omega)]
  ·rw [if_neg e2, if_neg (by omega)]
set_option maxRecDepth 100000 in
set_option maxHeartbeats 4000000 in
theorem l37_weights {N lo hi : Nat} {w : World} {v1 v2 v3 : Value} {m n : Nat} {X : Nat → Nat → Rat} {y p : Nat → Rat} (h1 : MtV N lo hi w v1 m n X) (h2 : LsV N lo hi w v2 m y) (h3 : LsV N lo hi w v3 m p) (hm0 : 0 < m) (hm : m < 1000000) :
  Calls Tryz.prog 70 #[.agg #[v1, v2, v3]] w (RetOwn N w m m (diagTo p m)) := by
 obtain ⟨Rf, hRf⟩ := hid_eq (RetOwn N w m m (diagTo p m))
 rw [← hRf.out]
 have hN := h1.le
 obtain ⟨A1, c1, rfl, hmc, hcm⟩ := h1.form
 obtain ⟨A2, c2, rfl, hmc2, hcm2⟩ := h2.form
 obtain ⟨A3, c3, rfl, hmc3, hcm3⟩ := h3.form
 have hI3 := h3
 unfold maxLen at hcm3
 clear h1 h2 h3
 go_enter Tryz.func70, Tryz.ntmps70
 go_wp2_with (go_at_call 41; refine Hid.out ?_)
 refine boxesC1 ?_
 intro W hE hsz B0
 have hs1 := hE.size
 refine (r5_zeros (N := N) (by omega) m m rfl rfl hm hm0 hm).mono ?_
 rintro e w1 ⟨h, cap, β, κ, rfl, hcap, ho, e1⟩
 have B0' := e1.block B0
 obtain ⟨a0, a1, a2, -⟩ := cells3 B0'
 have hE1 := hE.trans e1
 replace ho := ho.congr (B := diagTo p 0) (fun i _ j _ => by unfold diagTo; rw [if_neg (by omega)])
 go_wp2
 clear a0 a1 a2
 go_loopw [16] (fun i wr => ∃ k : Nat, k ≤ m ∧ i = .int .i64 k ∧ Ext W wr ∧ OwnM N W.heap.size w1.heap.size wr h cap m m β κ (diagTo p k)) (fun i _ => m - (intOf i).toNat)
 case atStart => exact ⟨0, Nat.zero_le _, rfl, e1, ho⟩
 case round =>
  clear ho
  obtain ⟨k, hk, rfl, hEr, ho⟩ := hrel
  have hsr := ho.his
  by_cases hlt : k < m
  ·obtain ⟨b, off, rfl, -, -, hx⟩ := (hI3.ext (hE.trans hEr)).addr (by omega)
   obtain ⟨n1, A6, k6, c6, A12, k12, c12, p0, p1, p2, p3, hb1, g1, g2⟩ := (hx k hlt).open
   clear hx
   go_upto_region 5 with (fail)
   refine boxes1 ?_
   intro w5 e5 hsz5 B5
   obtain ⟨t0, t1, t2, t3, -⟩ := cells4 B5
   have ho5 := ho.ext e5
   have r0 := ho5.hcell hlt
   obtain ⟨zb, zA, zn, zc, zA2, zn2, zc2, u0, u1, u2, u3, u4, u5, u6, u7, -⟩ := (ho5.row k hlt).at_ hlt
   have hl5 := ho5.lo_ k hlt
   clear p0 p1 p2 p3
   have eC := (Ext.refl w5).drew
   refine region_late (fun w' => w'.cell? ⟨wr.heap.size, 0, none⟩ = some (.bool n1) ∧ w'.cell? ⟨wr.heap.size, 1, none⟩ = some (.slice A6 k6 c6) ∧ w'.cell? ⟨wr.heap.size, 2, none⟩ = some (.bool false) ∧ w'.cell? ⟨wr.heap.size, 3, none⟩ = some (.slice A12 k12 c12) ∧ w'.cell? ⟨h, k, none⟩ = some (.slice (some ⟨β k, 0, none⟩) m (κ k))) [7] (by kernel_rfl) (by exact ⟨eC.cell t0, eC.cell t1, eC.cell t2, eC.cell t3, eC.cell r0⟩) (fun hHeld => ?_)
   refine sP 0 (h := ?_)
   try simp only [nr]
   refine sP 1 (h := ?_)
   try simp only [nr]
   refine sP 2 (h := ?_)
   try simp only [nr]
   refine sT 3 (h := ?_)
   try simp only [nr]
   refine sP 4 (h := ?_)
   try simp only [nr]
   refine sT 5 (h := ?_)
   try simp only [nr]
   refine sP 6 (h := ?_)
   try simp only [nr]
   refine stepL_late (i := 7) rfl (by kernel_rfl) (by kernel_rfl) (fun K hK => ?_)
   go_simp
   refine hK.out _ _ ?_
   clear hK K
   try simp only [nr]
   refine stepL_done (by kernel_rfl) ?_ _
   clear hHeld
   obtain ⟨w9, E9, C9, hs9, hr9⟩ := (ho5.row k hlt).set (i := k) (q := p k) (by have := (ho5.row k hlt).2.1; omega) (by omega) hb1 (g1.ext e5) (g2.ext e5)
   rw [E9]
   have ho9 := (ho5.setRow hlt C9 (hr9.less (n' := m) (by omega))).congr (B := diagTo p (k + 1)) (fun i _ j _ => (diagTo_succ p k i j).symm)
   have hE9 := C9.ext (hEr.trans e5) hl5
   clear E9 C9 hs9 hr9 ho ho5 r0 u0 u1 u2 u3 u4 u5 u6 u7 t0 t1 t2 t3 B5 g1 g2 hb1
   go_wp2
   go_roundw
   case rel => exact ⟨k + 1, by omega, by go_num, hE9.drew, ho9.ext (Ext.refl _).drew⟩
   case measure => simp [intOf]; omega
  ·obtain rfl : m = k := by omega
   go_wp2
   first | go_ret | skip
   rw [hRf.out]
   exact ⟨h, cap, β, κ, rfl, hcap, ho.wide (by omega) (by omega) (by omega) (Nat.le_refl _), hE.trans hEr⟩
end Go.Proofs.YtghpfnhmlpfgcaaGreat
namespace Go.Proofs.YtghpfnhmlpfgcaaGreat
open Go.RowKit
theorem diagTo_ht {m k : Nat} {p : Nat → Rat} (h : HtL m k p) (hk : 0 < k) : HtM m m k (diagTo p m) := by
 intro i hi j hj
 unfold diagTo
 split
 ·exact h i hi
 ·exact Ht.zero.mono hk
theorem mm_ht {m n q ka kb : Nat} {A B : Nat → Nat → Rat} (ha : HtM m n ka A) (hb : HtM n q kb B) : HtM m q (n * (ka + kb + 1) + 1) (mm n A B) := fun i hi j hj =>
 sum_ht (n := n) (k := ka + kb) (fun t ht => (ha i hi t ht).mul (hb t ht j hj)) (Nat.le_refl _) (Nat.le_refl _)
def tr (X : Nat → Nat → Rat) (i j : Nat) : Rat := X j i
def nrm37 (m : Nat) (X : Nat → Nat → Rat) (p : Nat → Rat) : Nat → Nat → Rat := mm m (mm m (tr X) (diagTo p m)) X
set_option maxRecDepth 100000 in
set_option maxHeartbeats 4000000 in
theorem l37_normal {N lo hi : Nat} {w : World} {v1 v2 v3 : Value} {m n : Nat} {X : Nat → Nat → Rat} {y p : Nat → Rat} (h1 : MtV N lo hi w v1 m n X) (h2 : LsV N lo hi w v2 m y) (h3 : LsV N lo hi w v3 m p) (hm0 : 0 < m) (hm : m < 1000000) (hn0 : 0 < n) (hn : n < 1000000)
  {k ka : Nat} (hk0 : 0 < k) (hkx : HtM m n k X) (hkp : HtL m k p) (hka : ka = m * (k + k + 1) + 1) (hK : m * (ka + k + 1) + 1 ≤ 29000000000) :
  Calls Tryz.prog 68 #[.agg #[v1, v2, v3]] w (RetOwn N w n n (nrm37 m X p)) := by
 have HX := Lib.hid hkx
 have HP := Lib.hid (diagTo_ht hkp hk0)
 have HK := Lib.hid hK
 have HKA := Lib.hid hka
 have HK1 : Hid (m * (k + k + 1) + 1 ≤ 29000000000) := by have := Nat.le_mul_of_pos_left (ka + k + 1) hm0; rw [Hid]; omega
 have HTX : Hid (HtM n m k (tr X)) := fun i hi j hj => hkx j hj i hi
 have HMM : Hid (HtM n m ka (mm m (tr X) (diagTo p m))) := by rw [hka]; exact mm_ht HTX.out HP.out
 obtain ⟨Rf, hRf⟩ := hid_eq (RetOwn N w n n (nrm37 m X p))
 rw [← hRf.out]
 have hN := h1.le
 obtain ⟨A1, c1, rfl, hmc, hcm⟩ := h1.form
 obtain ⟨A2, c2, rfl, hmc2, hcm2⟩ := h2.form
 obtain ⟨A3, c3, rfl, hmc3, hcm3⟩ := h3.form
 have hI1 := h1
 have hI2 := h2
 have hI3 := h3
 clear h1 h2 h3 hkx hkp hka hK
 go_enter Tryz.func68, Tryz.ntmps68
 go_wp2_with (go_at_call 69; refine Hid.out ?_)
 refine boxesC1 ?_
 intro W hE hsz B0
 refine (r5_transpose (hI1.ext hE) hm0 hm hn).mono ?_
 intro e w1 hh
 obtain ⟨A4, c4, rfl, h4, e1⟩ := hh.mt
 replace hE := hE.trans e1
 replace B0 := e1.block B0
 replace h4 : MtV N _ _ w1 (.slice A4 n c4) n m (tr X) := h4
 obtain ⟨a0, a1, a2, -⟩ := cells3 B0
 have hs1 := hE.size
 go_upto_region 2 with (fail)
 have eC := (Ext.refl w1).drew
 refine region_late (fun w' => w'.cell? ⟨w.heap.size, 0, none⟩ = some (.slice A1 m c1) ∧ w'.cell? ⟨w.heap.size, 1, none⟩ = some (.slice A2 m c2) ∧ w'.cell? ⟨w.heap.size, 2, none⟩ = some (.slice A3 m c3)) [] (by kernel_rfl) (by exact ⟨eC.cell a0, eC.cell a1, eC.cell a2⟩) (fun hHeld => ?_)
 refine sP 0 (h := ?_)
 try simp only [nr]
 refine sT 1 (h := ?_)
 try simp only [nr]
 refine sP 4 (h := ?_)
 try simp only [nr]
 refine sT 5 (h := ?_)
 try simp only [nr]
 refine stepL_only (i := 2) rfl (by kernel_rfl) (fun K hK => ?_)
 go_simp
 refine (l37_weights (hI1.ext (hE.trans eC)) (hI2.ext (hE.trans eC)) (hI3.ext (hE.trans eC)) hm0 hm).mono ?_
 intro e w2 hh
 obtain ⟨A5, c5, rfl, h5, e2⟩ := hh.mt
 replace eC := eC.trans e2
 go_wp2_with fail
 clear hHeld
 refine hK.out _ _ (by exact ⟨eC.cell a0, eC.cell a1, eC.cell a2⟩) fun hHeld => ?_
 clear hK K
 try simp only [nr]
 refine stepL_only (i := 3) rfl (by kernel_rfl) (fun K hK => ?_)
 go_simp
 refine (r5_mul (h4.ext eC) h5 hn hm0 hm hm0 hm HTX.out HP.out HK1.out).mono ?_
 intro e w3 hh
 obtain ⟨A6, c6, rfl, h6, e3⟩ := hh.mt
 replace eC := eC.trans e3
 go_wp2_with fail
 clear hHeld
 refine hK.out _ _ (by exact ⟨eC.cell a0, eC.cell a1, eC.cell a2⟩) fun hHeld => ?_
 clear hK K
 try simp only [nr]
 refine stepL_only (i := 6) rfl (by kernel_rfl) (fun K hK => ?_)
 go_simp
 have hsC := eC.size
 refine (r5_mul h6 (hI1.ext (hE.trans eC)) hn hm0 hm hn0 hn HMM.out HX.out HK.out).mono ?_
 rintro e w4 ⟨h7, cap7, β7, κ7, rfl, hcap7, ho7, e4⟩
 replace eC := eC.trans e4
 go_wp2_with fail
 clear hHeld
 refine hK.out _ _ (by exact ⟨eC.cell a0, eC.cell a1, eC.cell a2⟩) fun hHeld => ?_
 clear hK K
 try simp only [nr]
 refine sP 7 (h := ?_)
 try simp only [nr]
 refine stepL_done (by kernel_rfl) ?_ _
 clear hHeld
 go_wp2
 first | go_ret | skip
 rw [hRf.out]
 exact ⟨h7, cap7, β7, κ7, rfl, hcap7, ho7.wide (Nat.le_trans hs1 hsC) hN (Nat.le_refl _) (Nat.le_refl _), hE.trans eC⟩
end Go.Proofs.YtghpfnhmlpfgcaaGreat
namespace Go.Proofs.YtghpfnhmlpfgcaaGreat
open Go.RowKit
theorem sum_diag {m t : Nat} (p f : Nat → Rat) (ht : t < m) : sum m (fun c => diagTo p m t c * f c) = p t * f t := by
 rw [sum_single ht (fun i _ hne => by unfold diagTo; rw [if_neg (by omega)]; grind)]
 unfold diagTo; rw [if_pos ⟨rfl, ht⟩]
theorem sum_diag' {m t : Nat} (p f : Nat → Rat) (ht : t < m) : sum m (fun c => f c * diagTo p m c t) = f t * p t := by
 rw [sum_single ht (fun i _ hne => by unfold diagTo; rw [if_neg (by omega)]; grind)]
 unfold diagTo; rw [if_pos ⟨rfl, ht⟩]
theorem nrm37_nm (m : Nat) (X : Nat → Nat → Rat) (p : Nat → Rat) (a b : Nat) : nrm37 m X p a b = nm m X p a b := by
 unfold nrm37 nm
 show sum m (fun t => sum m (fun s => tr X a s * diagTo p m s t) * X t b) = _
 refine sum_congr fun t ht => ?_
 rw [sum_diag' p (fun s => tr X a s) ht]
 unfold tr; grind
def rhs37 (m : Nat) (X : Nat → Nat → Rat) (y p : Nat → Rat) (a : Nat) : Rat := sum m (fun t => tr X a t * sum m (fun c => diagTo p m t c * y c))
theorem rhs37_nb (m : Nat) (X : Nat → Nat → Rat) (y p : Nat → Rat) (a : Nat) : rhs37 m X y p a = nb m X p y a := by
 unfold rhs37 nb
 refine sum_congr fun t ht => ?_
 rw [sum_diag p y ht]; rfl
def red37 (m n : Nat) (X : Nat → Nat → Rat) (y p : Nat → Rat) : (Nat → Nat → Rat) × List Nat := rref n (aug n (nrm37 m X p) (rhs37 m X y p)) (n + 1)
def sol37 (m n : Nat) (X : Nat → Nat → Rat) (y p : Nat → Rat) : Nat → Rat := sol n (red37 m n X y p).1 (red37 m n X y p).2
theorem sol37_ok (m n : Nat) (X : Nat → Nat → Rat) (y : Nat → Rat) {p : Nat → Rat} (hp : ∀ i, i < m → 0 < p i) : ∀ s, s < (red37 m n X y p).2.length → (red37 m n X y p).2[s]?.getD 0 ≠ n := by
 intro s hs he
 obtain ⟨z, h1, h2⟩ := solve_no (rref_ok n (aug n (nrm37 m X p) (rhs37 m X y p)) (n + 1)) hs he
 have h3 := normal_sound (L := y) hp (n := n) (A := X) (y := z) (fun c hc => by rw [← h1 c hc]; exact sum_congr fun i _ => by rw [nrm37_nm])
 have h4 : sum n (fun i => z i * rhs37 m X y p i) = sum n (fun i => z i * nb m X p y i) := sum_congr fun i _ => by rw [rhs37_nb]
 rw [h4, h3] at h2
 exact absurd h2 (by decide)
theorem sol37_nsol (m n : Nat) (X : Nat → Nat → Rat) (y : Nat → Rat) {p : Nat → Rat} (hp : ∀ i, i < m → 0 < p i) : Nsol m n X p y (sol37 m n X y p) := by
 have h := solve_ok (rref_ok n (aug n (nrm37 m X p) (rhs37 m X y p)) (n + 1)) (sol37_ok m n X y hp)
 intro a ha
 rw [← rhs37_nb, ← h a ha]
 exact sum_congr fun b _ => by rw [nrm37_nm]; rfl
theorem RetSol.good {N : Nat} {w w' : World} {n : Nat} {x : Nat → Rat} {e : Ending} (h : RetSol N w n true x e w') : Ext w w' ∧ ∃ A c, e = .returned (.tuple #[.slice A n c, .bool true]) ∧ LsV N w.heap.size w'.heap.size w' (.slice A n c) n x := by
 obtain ⟨h1, h2⟩ := h
 refine ⟨h1, ?_⟩
 rcases h2 with ⟨hf, -⟩ | ⟨-, A, c, he, hl⟩
 ·cases hf
 ·exact ⟨A, c, he, hl⟩
theorem contains_no {p : List Nat} {n : Nat} (h : ∀ s, s < p.length → p[s]?.getD 0 ≠ n) : p.contains n = false := by
 cases hc : p.contains n with
 | false => rfl
 | true =>
  have hm : n ∈ p := by simpa using hc
  obtain ⟨i, hi, he⟩ := List.getElem_of_mem hm
  exact absurd (by rw [List.getElem?_eq_getElem hi, he]; rfl) (h i hi)
set_option maxRecDepth 100000 in
set_option maxHeartbeats 4000000 in
theorem l37_solution {N lo hi : Nat} {w : World} {v1 v2 v3 : Value} {m n : Nat} {X : Nat → Nat → Rat} {y p : Nat → Rat} (h1 : MtV N lo hi w v1 m n X) (h2 : LsV N lo hi w v2 m y) (h3 : LsV N lo hi w v3 m p) (hm0 : 0 < m) (hm : m < 1000000) (hn0 : 0 < n) (hn : n < 100000) (hpos : ∀ i, i < m → 0 < p i)
  {k ka kb P : Nat} (hk0 : 0 < k) (hkx : HtM m n k X) (hky : HtL m k y) (hkp : HtL m k p) (hka : ka = m * (k + k + 1) + 1) (hkb : kb = m * (ka + k + 1) + 1) (hP : n ≤ P) (hK : 5 * (5 ^ P * kb) ≤ 29000000000) :
  Calls Tryz.prog 18 #[.agg #[v1, v2, v3]] w (RetL N w n (sol37 m n X y p)) := by
 have hkb1 : kb ≤ 5 ^ P * kb := Nat.le_mul_of_pos_left _ (Nat.pow_pos (by omega))
 have hka1 := Nat.le_mul_of_pos_left (ka + k + 1) hm0
 have HX := Lib.hid hkx
 have HY := Lib.hid hky
 have HP := Lib.hid hkp
 have HD := Lib.hid (diagTo_ht hkp hk0)
 have HK := Lib.hid hK
 have HKA := Lib.hid hka
 have HK1 : Hid (m * (k + k + 1) + 1 ≤ 29000000000) := by rw [Hid]; omega
 have HK2 : Hid (m * (ka + k + 1) + 1 ≤ 29000000000) := by rw [Hid]; omega
 have HK3 : Hid (m * (k + ka + 1) + 1 ≤ 29000000000) := by rw [Hid, Nat.add_comm k ka]; omega
 have HTX : Hid (HtM n m k (tr X)) := fun i hi j hj => hkx j hj i hi
 have HV : Hid (HtL m ka (fun i => sum m (fun c => diagTo p m i c * y c))) := fun i hi => by
  rw [hka]; exact sum_ht (n := m) (k := k + k) (fun t ht => (diagTo_ht hkp hk0 i hi t ht).mul (hky t ht)) (Nat.le_refl _) (Nat.le_refl _)
 have HNM : Hid (HtM n n kb (nrm37 m X p)) := by rw [hkb, hka]; exact mm_ht (mm_ht HTX.out HD.out) hkx
 have HRH : Hid (HtL n kb (rhs37 m X y p)) := fun i hi => by
  rw [hkb]; exact sum_ht (n := m) (k := k + ka) (fun t ht => (HTX.out i hi t ht).mul (HV.out t ht)) (Nat.le_refl _) (by rw [Nat.add_comm k ka]; exact Nat.le_refl _)
 have HOK : Hid ((!(rref n (aug n (nrm37 m X p) (rhs37 m X y p)) (n + 1)).2.contains n) = true) := by
  have h9 := contains_no (sol37_ok m n X y hpos)
  show (!(red37 m n X y p).2.contains n) = true
  rw [h9]; rfl
 have HPP : Hid (n ≤ P) := hP
 obtain ⟨Rf, hRf⟩ := hid_eq (RetL N w n (sol37 m n X y p))
 rw [← hRf.out]
 have hN := h1.le
 obtain ⟨A1, c1, rfl, hmc, hcm⟩ := h1.form
 obtain ⟨A2, c2, rfl, hmc2, hcm2⟩ := h2.form
 obtain ⟨A3, c3, rfl, hmc3, hcm3⟩ := h3.form
 have hI1 := h1
 have hI2 := h2
 have hI3 := h3
 clear h1 h2 h3 hkx hky hkp hka hkb hK hpos hkb1 hka1 hP
 go_enter Tryz.func18, Tryz.ntmps18
 go_upto_region 1 with (fail)
 refine boxes1 ?_
 intro W hE hsz B0
 obtain ⟨a0, a1, a2, -⟩ := cells3 B0
 have hs1 := hE.size
 have eC := (Ext.refl W).drew
 refine region_late (fun w' => w'.cell? ⟨w.heap.size, 0, none⟩ = some (.slice A1 m c1) ∧ w'.cell? ⟨w.heap.size, 1, none⟩ = some (.slice A2 m c2) ∧ w'.cell? ⟨w.heap.size, 2, none⟩ = some (.slice A3 m c3)) [] (by kernel_rfl) (by exact ⟨eC.cell a0, eC.cell a1, eC.cell a2⟩) (fun hHeld => ?_)
 refine sT 0 (h := ?_)
 try simp only [nr]
 refine sP 2 (h := ?_)
 try simp only [nr]
 refine sT 3 (h := ?_)
 try simp only [nr]
 refine sT 5 (h := ?_)
 try simp only [nr]
 refine sP 7 (h := ?_)
 try simp only [nr]
 refine sT 8 (h := ?_)
 try simp only [nr]
 refine stepL_only (i := 1) rfl (by kernel_rfl) (fun K hK => ?_)
 go_simp
 refine (l37_normal (hI1.ext (hE.trans eC)) (hI2.ext (hE.trans eC)) (hI3.ext (hE.trans eC)) hm0 hm hn0 (by omega) hk0 HX.out HP.out HKA.out HK2.out).mono ?_
 intro e w2 hh
 obtain ⟨A5, c5, rfl, h5, e2⟩ := hh.mt
 replace eC := eC.trans e2
 go_wp2_with fail
 clear hHeld
 refine hK.out _ _ (by exact ⟨eC.cell a0, eC.cell a1, eC.cell a2⟩) fun hHeld => ?_
 clear hK K
 try simp only [nr]
 refine stepL_only (i := 4) rfl (by kernel_rfl) (fun K hK => ?_)
 go_simp
 refine (r5_transpose (hI1.ext (hE.trans eC)) hm0 hm (by omega)).mono ?_
 intro e w3 hh
 obtain ⟨A6, c6, rfl, h6, e3⟩ := hh.mt
 replace eC := eC.trans e3
 replace h5 := h5.ext e3
 replace h6 : MtV N _ _ w3 (.slice A6 n c6) n m (tr X) := h6
 go_wp2_with fail
 clear hHeld
 refine hK.out _ _ (by exact ⟨eC.cell a0, eC.cell a1, eC.cell a2⟩) fun hHeld => ?_
 clear hK K
 try simp only [nr]
 refine stepL_only (i := 6) rfl (by kernel_rfl) (fun K hK => ?_)
 go_simp
 refine (l37_weights (hI1.ext (hE.trans eC)) (hI2.ext (hE.trans eC)) (hI3.ext (hE.trans eC)) hm0 hm).mono ?_
 intro e w4 hh
 obtain ⟨A7, c7, rfl, h7, e4⟩ := hh.mt
 replace eC := eC.trans e4
 replace h5 := h5.ext e4
 replace h6 := h6.ext e4
 go_wp2_with fail
 clear hHeld
 refine hK.out _ _ (by exact ⟨eC.cell a0, eC.cell a1, eC.cell a2⟩) fun hHeld => ?_
 clear hK K
 try simp only [nr]
 refine stepL_only (i := 9) rfl (by kernel_rfl) (fun K hK => ?_)
 go_simp
 refine (r5_apply h7 (hI2.ext (hE.trans eC)) hm hm0 hm HD.out HY.out HK1.out).mono ?_
 rintro e w5 ⟨A8, c8, rfl, h8, e5⟩
 replace eC := eC.trans e5
 replace h5 := h5.ext e5
 replace h6 := h6.ext e5
 go_wp2_with fail
 clear hHeld
 refine hK.out _ _ (by exact ⟨eC.cell a0, eC.cell a1, eC.cell a2⟩) fun hHeld => ?_
 clear hK K
 try simp only [nr]
 refine stepL_only (i := 10) rfl (by kernel_rfl) (fun K hK => ?_)
 go_simp
 refine (r5_apply h6 h8 (by omega) hm0 hm HTX.out HV.out HK3.out).mono ?_
 rintro e w6 ⟨A9, c9, rfl, h9, e6⟩
 replace eC := eC.trans e6
 replace h5 := h5.ext e6
 replace h9 : LsV N _ _ w6 (.slice A9 n c9) n (rhs37 m X y p) := h9
 go_wp2_with fail
 clear hHeld
 refine hK.out _ _ (by exact ⟨eC.cell a0, eC.cell a1, eC.cell a2⟩) fun hHeld => ?_
 clear hK K
 try simp only [nr]
 refine stepL_only (i := 11) rfl (by kernel_rfl) (fun K hK => ?_)
 go_simp
 have hsC := eC.size
 refine (r5_solve h5 h9 hn0 (by omega) hn0 hn HNM.out HRH.out (P := P) (.inl HPP.out) HK.out).mono ?_
 rw [HOK.out]
 intro e w7 hh
 obtain ⟨e7, A10, c10, rfl, h10⟩ := hh.good
 replace h10 : LsV N _ _ w7 (.slice A10 n c10) n (sol37 m n X y p) := h10
 replace eC := eC.trans e7
 go_wp2_with fail
 clear hHeld
 refine hK.out _ _ (by exact ⟨eC.cell a0, eC.cell a1, eC.cell a2⟩) fun hHeld => ?_
 clear hK K
 try simp only [nr]
 refine sP 12 (h := ?_)
 try simp only [nr]
 refine sP 13 (h := ?_)
 try simp only [nr]
 refine sP 14 (h := ?_)
 try simp only [nr]
 refine sP 15 (h := ?_)
 try simp only [nr]
 refine sP 16 (h := ?_)
 try simp only [nr]
 refine stepL_done (by kernel_rfl) ?_ _
 clear hHeld
 go_wp2
 first | go_ret | skip
 rw [hRf.out]
 exact ⟨A10, c10, rfl, LsR.wide h10 (Nat.le_trans hs1 hsC) (Nat.le_refl _) (Nat.le_refl _), hE.trans eC⟩
end Go.Proofs.YtghpfnhmlpfgcaaGreat
namespace Go.Proofs.YtghpfnhmlpfgcaaGreat
open Go.RowKit
set_option maxHeartbeats 1000000 in
theorem l37_one {N : Nat} {w : World} (hN : N ≤ w.heap.size) :
  Calls Tryz.prog 29 #[] w (RetR N w ((1 : Int) : Rat)) := by
 go_enter Tryz.func29, Tryz.ntmps29
 go_wp2_with (go_at_call 24; refine Hid.out ?_)
 refine boxesC1 ?_
 intro W hE hsz B0
 refine (r2_Whole (N := N) (by have := hE.size; omega) 1 (by omega) (by omega)).mono ?_
 intro e w1 hh
 obtain ⟨b1, A1, k1, c1, A2, k2, c2, rfl, hb1, g1, g2, e1⟩ := hh.form
 have B1 := e1.block B0
 obtain ⟨r0, r1, r2, r3, r4, r5, r6, r7⟩ := cells4 B1
 go_wp2
 exact fin_rat rfl rfl rfl (hE.trans e1) B1 (by omega) hN g1 g2 hb1
end Go.Proofs.YtghpfnhmlpfgcaaGreat
namespace Go.Proofs.YtghpfnhmlpfgcaaGreat
open Go.RowKit
set_option maxRecDepth 100000 in
set_option maxHeartbeats 4000000 in
theorem rl_redundancy {N : Nat} {w : World} {gm m n : Nat} {X : Nat → Nat → Rat} {y p : Nat → Rat} {pv : List Nat} {F : Nat → Nat → Rat} (h : MdlV N w gm m n X y p pv F) {i : Nat} (hi : i < m) (hm : m < 1000000) (hz : Sz (F i i)) (hz' : Sz (p i)) (hz2 : Sz (F i i * p i)) :
  Calls Tryz.prog 76 #[.pointer (some ⟨gm, 0, none⟩), .int .i64 (i : Int)] w (RetR N w (((1 : Int) : Rat) - F i i * p i)) := by
 obtain ⟨q, hq⟩ := hid_eq (((1 : Int) : Rat) - F i i * p i)
 rw [← hq.out]
 have hI := h
 have hN : N ≤ w.heap.size := by
  obtain ⟨A1, c1, A2, c2, A3, c3, A4, c4, s5, s6, A7, c7, B, h1, -⟩ := h
  exact h1.le
 have HZ := Lib.hid hz
 have HZ' := Lib.hid hz'
 have HZ2 := Lib.hid hz2
 have HS1 : Hid (Sz (((1 : Int) : Rat))) := (Ht.one.sz (by omega) : Sz 1)
 clear h hz hz' hz2
 go_enter Tryz.func76, Tryz.ntmps76
 go_wp2_with (go_at_call 59; refine Hid.out ?_)
 refine boxesC1 ?_
 intro W hE hsz B0
 refine (rl_whole (N := N) (by have := hE.size; omega) 1 (by omega) (by omega)).mono ?_
 rintro e w1 ⟨v1, rfl, h1, e1⟩
 replace hE := hE.trans e1
 replace B0 := e1.block B0
 have hs1 := e1.size
 go_wp2_with (go_at_call 86; refine Hid.out ?_)
 refine (rl_projected (hI.ext hE) hi hi hm HZ.out HZ'.out).mono ?_
 rintro e w2 ⟨v2, rfl, h2, e2⟩
 replace hE := hE.trans e2
 replace B0 := e2.block B0
 have hs2 := e2.size
 go_wp2_with (go_at_call 121; refine Hid.out ?_)
 refine (rl_sub (h1.ext e2) h2 HS1.out HZ2.out).mono ?_
 rw [← hq.out]
 intro e w3 hh
 obtain ⟨n3, A3, k3, c3, A4, k4, c4, rfl, hb3, g3, g4, e3⟩ := hh.form
 replace hE := hE.trans e3
 replace B0 := e3.block B0
 have hs3 := e3.size
 obtain ⟨t0, t1, t2, t3, t4, t5, t6, t7⟩ := cells4 B0
 go_wp2
 exact fin_rat rfl rfl rfl hE B0 (by omega) hN g3 g4 hb3
set_option maxRecDepth 100000 in
set_option maxHeartbeats 2000000 in
theorem rl_Rank_bad {N lo hi : Nat} {w : World} {v : Value} {Z : Lin} (h : LinV N lo hi w v Z) (hs : LinSz Z) (hp : ∀ i, i < Z.np → RawS (Z.p i)) (hc : codeOf Z ≠ 0) :
  Calls Tryz.prog 51 #[v] w (RetV w (.tuple #[.int .i64 0, .int .i64 (codeOf Z)])) := by
 have HS := Lib.hid hs
 have HP := Lib.hid hp
 have HC := Lib.hid hc
 obtain ⟨r, hr⟩ := hid_eq (codeOf Z)
 have hr0 : (r == 0) = false := by rw [hr.out]; simpa using hc
 have hr1 : (r != 0) = true := by simpa using hr0
 rw [← hr.out]
 have hI := h
 obtain ⟨A1, c1, A2, c2, A3, c3, rfl, h1, h2, h3, hm, hnl, hnp⟩ := h.parts
 clear h h1 h2 h3 hc hs hp
 go_enter Tryz.func51, Tryz.ntmps51
 go_wp2_with (go_at_call 57; refine Hid.out ?_)
 refine boxesC1 ?_
 intro W hE hsz B0
 refine (rl_open_bad (hI.ext hE) HS.out HP.out HC.out).mono ?_
 rintro e w1 ⟨rfl, e1⟩
 rw [← hr.out]
 go_wp2
 first | go_ret2 | skip
 exact ⟨rfl, hE.trans e1⟩
end Go.Proofs.YtghpfnhmlpfgcaaGreat
namespace Go.Proofs.YtghpfnhmlpfgcaaGreat
open Go.RowKit
set_option maxRecDepth 100000 in
set_option maxHeartbeats 4000000 in
theorem rl_Redundancy {N lo hi : Nat} {w : World} {v1 v2 v3 : Value} {m n : Nat} {X : Nat → Nat → Rat} {y p : Nat → Rat} (h1 : MtV N lo hi w v1 m n X) (h2 : LsV N lo hi w v2 m y) (h3 : LsV N lo hi w v3 m p) (hm0 : 0 < m) (hm : m ≤ 64) (hn0 : 0 < n) (hn : n ≤ 24) (hp : ∀ i, i < m → 0 < p i)
  {k P k2 k3 : Nat} (hB : Bnd m n k P k2 k3) (hkx : HtM m n k X) (hky : HtL m k y) (hkp : HtL m k p) (hK : P * (k + k3 + 1) + 1 + k ≤ 29000000000) :
  Calls Tryz.prog 26 #[.agg #[v1, v2, v3]] w (RetL2 N w m (fun i => ((1 : Int) : Rat) - fitsOf m n X p i i * p i)) := by
 have HX := Lib.hid hkx
 have HY := Lib.hid hky
 have HP := Lib.hid hkp
 have HB := Lib.hid hB
 have HSS : Hid (∀ i, i < m → Sz (fitsOf m n X p i i) ∧ Sz (p i) ∧ Sz (fitsOf m n X p i i * p i)) := fun i hi =>
  ⟨(fitsOf_ht hB hkx hkp i hi i hi).sz (by omega), (hkp i hi).sz (by omega), ((fitsOf_ht hB hkx hkp i hi i hi).mul (hkp i hi)).sz (by omega)⟩
 have HPOS := Lib.hid hp
 obtain ⟨Rf, hRf⟩ := hid_eq (RetL2 N w m (fun i => ((1 : Int) : Rat) - fitsOf m n X p i i * p i))
 rw [← hRf.out]
 have hN := h1.le
 obtain ⟨A1, c1, rfl, hmc, hcm⟩ := h1.form
 obtain ⟨A2, c2, rfl, hmc2, hcm2⟩ := h2.form
 obtain ⟨A3, c3, rfl, hmc3, hcm3⟩ := h3.form
 have hI1 := h1
 have hI2 := h2
 have hI3 := h3
 unfold maxLen at hcm
 clear h1 h2 h3 hkx hky hkp hK hB hp
 go_enter Tryz.func26, Tryz.ntmps26
 go_wp2_with (go_at_call 57; refine Hid.out ?_)
 refine boxesC1 ?_
 intro W hE hsz B0
 refine (rl_open (hI1.ext hE) (hI2.ext hE) (hI3.ext hE) hm0 hm hn0 hn HPOS.out HB.out.hP HX.out HY.out HP.out HB.out.hK0 HB.out.hK1 HB.out.hk2 HB.out.hK2 HB.out.hk3 HB.out.hK4).mono ?_
 rintro e w1 ⟨gm, rfl, hM, e1⟩
 have hs1 := hE.size
 replace hE := hE.trans e1
 replace B0 := e1.block B0
 obtain ⟨a0, a1, a2, -⟩ := cells3 B0
 have hs2 := hE.size
 go_wp2
 clear a0 a1 a2
 go_loopw [6, 19] (fun v i wr => ∃ a : Nat, a ≤ m ∧ i = .int .i64 a ∧ Ext w1 wr ∧ ∃ A c, v = .slice A a c ∧ Grow N w1.heap.size wr (.slice A a c) a (fun i => ((1 : Int) : Rat) - fitsOf m n X p i i * p i)) (fun _ i _ => m - (intOf i).toNat)
 case atStart => exact ⟨0, Nat.zero_le _, rfl, Ext.refl w1, _, _, rfl, Grow.nil (by omega) (Nat.le_refl _) _⟩
 case round =>
  obtain ⟨a, ha, rfl, hEr, A6, c6, rfl, hG⟩ := hrel
  have hsr := hEr.size
  by_cases hlt : a < m
  ·obtain ⟨hS1, hS2, hS3⟩ := HSS.out a hlt
   go_wp2_with (go_at_call 76; refine Hid.out ?_)
   refine (rl_redundancy (hM.ext hEr) hlt (by omega) hS1 hS2 hS3).mono ?_
   intro e w2 hh
   obtain ⟨b3, A11, k11, c11, A12, k12, c12, rfl, hb3, g5, g6, e6⟩ := hh.form
   replace hEr := hEr.trans e6
   replace hG := hG.ext e6
   have hs6 := e6.size
   clear hS1 hS2 hS3
   go_wp2_with (at_builtin; refine Hid.out ?_)
   refine boxes1 ?_
   intro w3 e7 hsz7 BX
   replace hEr := hEr.trans e7
   replace hG := hG.ext e7
   refine wpList_append_rat rfl _ _ 24 Tryz.underlying24 rfl rfl hG rfl BX hb3 (g5.ext e7) (g6.ext e7) (by omega) ?_
   rintro g cap' w4 hG3 ⟨g', hg', c5, -⟩ -
   replace hEr := c5.ext hEr (by omega)
   replace hG3 := hG3.congr (y := fun i => ((1 : Int) : Rat) - fitsOf m n X p i i * p i) (fun j _ => by unfold upd; split; (rename_i e; rw [e]); rfl)
   clear hG c5 BX e6 e7 g5 g6 hb3
   go_wp2
   go_roundw
   case rel => exact ⟨a + 1, by omega, by go_num, hEr, _, _, rfl, hG3⟩
   case measure => simp [intOf]; omega
  ·obtain rfl : m = a := by omega
   go_wp2
   first | go_ret2 | skip
   rw [hRf.out]
   exact ⟨A6, c6, rfl, hG.lsv hs2 rfl, hE.trans hEr⟩
end Go.Proofs.YtghpfnhmlpfgcaaGreat
namespace Go.Proofs.YtghpfnhmlpfgcaaGreat
def skip (i j : Nat) : Nat := if j < i then j else j + 1
theorem skip_ne (i j : Nat) : skip i j ≠ i := by unfold skip; split <;> omega
theorem skip_lt {m i j : Nat} (h : j < m) : skip i j < m + 1 := by unfold skip; split <;> omega
theorem sum_skip {m i : Nat} (hi : i < m + 1) (f : Nat → Rat) : sum m (fun j => f (skip i j)) + f i = sum (m + 1) f := by
 induction m with
 | zero =>
  obtain rfl : i = 0 := by omega
  simp only [sum]
 | succ m ih =>
  rcases Nat.lt_or_ge i (m + 1) with h | h
  ·have h1 := ih h
   rw [sum_succ (m + 1) f, ← h1, sum_succ]
   have e : skip i m = m + 1 := by unfold skip; rw [if_neg (by omega)]
   rw [e]; grind
  ·obtain rfl : i = m + 1 := by omega
   rw [sum_succ (m + 1) f, sum_congr (g := f) (fun j hj => by unfold skip; rw [if_pos hj])]
variable {m n : Nat} {A M X M' : Nat → Nat → Rat} {P : Nat → Rat} {p p' : List Nat}
end Go.Proofs.YtghpfnhmlpfgcaaGreat
namespace Go.Proofs.YtghpfnhmlpfgcaaGreat
open Go.RowKit
theorem invM_ok (m n : Nat) (X : Nat → Nat → Rat) {p : Nat → Rat} (hp : ∀ i, i < m → 0 < p i) :
  ∀ i, i < (rref m X n).2.length → ∀ c, c < (rref m X n).2.length → mm (rref m X n).2.length (nm m (bas X (rref m X n).2) p) (invM (rref m X n).2.length (nmat (bas X (rref m X n).2) p m)) i c = dlt i c := by
 have hl := inv_full m n X hp
 have he := augI_beside (rref m X n).2.length (nmat (bas X (rref m X n).2) p m)
 rw [he] at hl
 have h9 := (inv_ok (rref_ok _ (besideI (rref m X n).2.length (nmat (bas X (rref m X n).2) p m)) _) hl)
 intro i hi c hc
 rw [← h9.1 i hi c hc]
 refine mm_congr (fun k _ => (nmat_nm _ _ _ _ _).symm) (fun k _ => ?_)
 unfold invM
 rw [he]
theorem invM_ok' (m n : Nat) (X : Nat → Nat → Rat) {p : Nat → Rat} (hp : ∀ i, i < m → 0 < p i) :
  ∀ i, i < (rref m X n).2.length → ∀ c, c < (rref m X n).2.length → mm (rref m X n).2.length (invM (rref m X n).2.length (nmat (bas X (rref m X n).2) p m)) (nm m (bas X (rref m X n).2) p) i c = dlt i c := by
 have hl := inv_full m n X hp
 have he := augI_beside (rref m X n).2.length (nmat (bas X (rref m X n).2) p m)
 rw [he] at hl
 have h9 := (inv_ok (rref_ok _ (besideI (rref m X n).2.length (nmat (bas X (rref m X n).2) p m)) _) hl)
 intro i hi c hc
 rw [← h9.2 i hi c hc]
 refine mm_congr (fun k _ => ?_) (fun k _ => (nmat_nm _ _ _ _ _).symm)
 unfold invM
 rw [he]
theorem residuals_eq {m n : Nat} {X : Nat → Nat → Rat} {y p x : Nat → Rat} (hp : ∀ i, i < m → 0 < p i) (hx : Nsol m n X p y x) : ∀ i, i < m → - y i + sum m (fun j => fitsOf m n X p i j * p j * y j) = av n X x i - y i := by
 intro i hi
 have h := fits_fit (rref_ok m X n) hp (invM_ok m n X hp) hx i hi
 unfold fitsOf
 rw [h]; grind
end Go.Proofs.YtghpfnhmlpfgcaaGreat
namespace Go.Proofs.YtghpfnhmlpfgcaaGreat
open Go.RowKit
def allLen (Z : Lin) (i : Nat) : Nat := if i < Z.m then Z.L i else if i = Z.m then Z.nl else Z.np
def allRow (Z : Lin) (i : Nat) : Nat → Raw := if i < Z.m then Z.A i else if i = Z.m then Z.l else Z.p
theorem all_canon (Z : Lin) : allB (Z.m + 2) (fun i => allB (allLen Z i) (fun j => okR (allRow Z i j))) = canonB Z := by
 have h1 : ∀ i, i < Z.m → allB (allLen Z i) (fun j => okR (allRow Z i j)) = allB (Z.L i) (fun j => okR (Z.A i j)) := fun i hi => by
  unfold allLen allRow; rw [if_pos hi, if_pos hi]
 have h2 : allB (allLen Z Z.m) (fun j => okR (allRow Z Z.m j)) = allB Z.nl (fun j => okR (Z.l j)) := by
  unfold allLen allRow; rw [if_neg (by omega), if_pos rfl, if_neg (by omega), if_pos rfl]
 have h3 : allB (allLen Z (Z.m + 1)) (fun j => okR (allRow Z (Z.m + 1) j)) = allB Z.np (fun j => okR (Z.p j)) := by
  unfold allLen allRow; rw [if_neg (by omega), if_neg (by omega), if_neg (by omega), if_neg (by omega)]
 rw [Bool.eq_iff_iff]
 unfold canonB canonA
 rw [Bool.and_eq_true, Bool.and_eq_true, allB_true]
 constructor
 ·intro h
  exact ⟨allB_true.2 (fun i hi => by rw [← h1 i hi]; exact h i (by omega)), by rw [← h2]; exact h _ (by omega), by rw [← h3]; exact h _ (by omega)⟩
 ·rintro ⟨a, b, c⟩ i hi
  have hi' : i < Z.m ∨ i = Z.m ∨ i = Z.m + 1 := by omega
  rcases hi' with e | e | e
  ·rw [h1 i e]; exact allB_true.1 a i e
  ·rw [e, h2]; exact b
  ·rw [e, h3]; exact c
end Go.Proofs.YtghpfnhmlpfgcaaGreat
namespace Go.Proofs.YtghpfnhmlpfgcaaGreat
open Go.RowKit
theorem GrowS.mtr {N base : Nat} {w : World} {v : Value} {xs : List Value} (h : GrowS base w v xs) (hN : N ≤ w.heap.size) (hn : 0 < xs.length) {L : Nat → Nat} {R : Nat → Nat → Raw} (hr : ∀ i (hi : i < xs.length), LsR N 0 w.heap.size w xs[i] (L i) (R i)) : MtR N 0 w.heap.size w v xs.length L R := by
 obtain ⟨g, cap, rfl, hcm, hnc, hat⟩ := h.at_ hn
 refine ⟨hN, Nat.le_refl _, _, cap, rfl, hnc, hcm, fun _ => ⟨g, 0, rfl, Nat.zero_le _, ?_, fun i hi => ⟨xs[i], ?_, hr i hi⟩⟩⟩
 ·exact cell_lt (hat 0 hn)
 ·rw [Nat.zero_add]; exact hat i hi
theorem MtR.vals {N lo hi : Nat} {w : World} {A : Option Addr} {m c : Nat} {L : Nat → Nat} {R : Nat → Nat → Raw} (h : MtR N lo hi w (.slice A m c) m L R) : ∃ rs : List Value, rs.length = m ∧ (∀ i (hi' : i < rs.length), LsR N lo hi w rs[i] (L i) (R i)) ∧ (0 < rs.length → ∃ b off, A = some ⟨b, off, none⟩ ∧ ∀ j (hj : j < rs.length), w.cell? ⟨b, off + j, none⟩ = some rs[j]) ∧ ∀ u ∈ rs, u.oneCell' = true := by
 rcases Nat.eq_zero_or_pos m with h0 | h0
 ·exact ⟨[], by simp [h0], fun i hi' => by simp at hi', fun hh => by simp at hh, fun u hu => by simp at hu⟩
 ·obtain ⟨b, off, rfl, -, -, hx⟩ := h.addr h0
  have hv : ∀ i, i < m → ∃ v, w.cell? ⟨b, off + i, none⟩ = some v ∧ LsR N lo hi w v (L i) (R i) ∧ v.oneCell' = true := fun i hi' => by
   obtain ⟨A', c', h1, -, -, h2⟩ := hx i hi'
   exact ⟨_, h1, h2, rfl⟩
  have hg : ∀ i, i < m → ∀ v, w.cell? ⟨b, off + i, none⟩ = some v → ((List.range m).map (fun j => (w.cell? ⟨b, off + j, none⟩).getD undef))[i]? = some v := fun i hi' v h1 => by
   simp [hi', h1]
  refine ⟨(List.range m).map (fun j => (w.cell? ⟨b, off + j, none⟩).getD undef), by simp, ?_, fun _ => ⟨b, off, rfl, ?_⟩, ?_⟩
  ·intro i hi'
   have him : i < m := by simpa using hi'
   obtain ⟨v, h1, h2, -⟩ := hv i him
   have h3 := hg i him v h1
   rw [List.getElem?_eq_getElem hi'] at h3
   rw [Option.some.inj h3]; exact h2
  ·intro j hj
   have hjm : j < m := by simpa using hj
   obtain ⟨v, h1, -⟩ := hv j hjm
   have h3 := hg j hjm v h1
   rw [List.getElem?_eq_getElem hj] at h3
   rw [Option.some.inj h3]; exact h1
  ·intro u hu
   obtain ⟨j, hj, he⟩ := List.getElem_of_mem hu
   have hjm : j < m := by simpa using hj
   obtain ⟨v, h1, -, h4⟩ := hv j hjm
   have h3 := hg j hjm v h1
   rw [List.getElem?_eq_getElem hj] at h3
   rw [← he, Option.some.inj h3]; exact h4
end Go.Proofs.YtghpfnhmlpfgcaaGreat
namespace Go.Proofs.YtghpfnhmlpfgcaaGreat
open Go.RowKit
theorem val_one {l : List Nat} (h : l.length ≤ 1) : val l = l[0]?.getD 0 := by
 rcases l with _ | ⟨x, l⟩
 ·rfl
 ·have h2 : l = [] := List.eq_nil_of_length_eq_zero (by simpa using h)
  subst h2
  simp [val]
theorem brief_sz {R : Raw} (h : briefB R = true) : R.l1.length ≤ 1 ∧ R.l2.length ≤ 1 := by
 unfold briefB at h
 simp only [Bool.and_eq_true, decide_eq_true_eq] at h
 exact ⟨h.1.1.1, h.1.1.2⟩
theorem brief_ht {q : Rat} (h : briefB (raw q) = true) : Ht 17 q := by
 unfold briefB raw at h
 simp only [Bool.and_eq_true, decide_eq_true_eq] at h
 obtain ⟨⟨⟨h1, h2⟩, h3⟩, h4⟩ := h
 rw [← val_one h1, val_dg] at h3
 rw [← val_one h2, val_dg] at h4
 have h5 : (2 : Nat) ^ 17 = 131072 := by decide
 exact ⟨by omega, by omega⟩
theorem brief_raw {R : Raw} (h : briefB R = true) : RawSz R ∧ RawS R := by
 obtain ⟨h1, h2⟩ := brief_sz h
 exact ⟨⟨by omega, by omega⟩, ⟨by omega, by omega⟩⟩
def ratOf (R : Raw) : Rat := Rat.divInt (zval R.b1 R.l1) (zval R.b2 R.l2)
theorem ratOf_raw (q : Rat) : ratOf (raw q) = q := by
 unfold ratOf raw
 have h4 : zval false (dg q.den) = (q.den : Int) := by unfold zval; rw [val_dg]; simp
 simp only [zval_canon, h4]
 exact Rat.num_divInt_den q
theorem raw_ratOf {R : Raw} (h : okR R = true) : R = raw (ratOf R) := by
 obtain ⟨q, rfl⟩ := okR_spec h
 rw [ratOf_raw]
theorem short_all {n : Nat} {R : Nat → Raw} (h : shortB n R = true) : n ≤ 8 ∧ ∀ i, i < n → briefB (R i) = true := by
 unfold shortB at h
 rw [Bool.and_eq_true, decide_eq_true_eq, allB_true] at h
 exact h
theorem few_all {Z : Lin} (h : fewB Z = true) : Z.m ≤ 6 ∧ (∀ i, i < Z.nl → briefB (Z.l i) = true) ∧ (∀ i, i < Z.np → briefB (Z.p i) = true) ∧ ∀ i, i < Z.m → Z.L i ≤ 4 ∧ ∀ j, j < Z.L i → briefB (Z.A i j) = true := by
 unfold fewB at h
 rw [Bool.and_eq_true, Bool.and_eq_true, Bool.and_eq_true, decide_eq_true_eq, allB_true] at h
 obtain ⟨⟨⟨h1, h2⟩, h3⟩, h4⟩ := h
 refine ⟨h1, (short_all h2).2, (short_all h3).2, fun i hi => ?_⟩
 have h5 := h4 i hi
 rw [Bool.and_eq_true, decide_eq_true_eq] at h5
 exact ⟨h5.1, (short_all h5.2).2⟩
theorem few_sz {Z : Lin} (h : fewB Z = true) : Z.m ≤ 6 ∧ LinSz Z ∧ ∀ i, i < Z.np → RawS (Z.p i) := by
 obtain ⟨h1, h2, h3, h4⟩ := few_all h
 exact ⟨h1, ⟨fun i hi j hj => (brief_raw ((h4 i hi).2 j hj)).1, fun i hi => (brief_raw (h2 i hi)).1, fun i hi => (brief_raw (h3 i hi)).1⟩, fun i hi => (brief_raw (h3 i hi)).2⟩
structure FewLin (Z : Lin) (n : Nat) (X : Nat → Nat → Rat) (y p : Nat → Rat) : Prop where
 m0 : 0 < Z.m
 m6 : Z.m ≤ 6
 n0 : 0 < n
 n4 : n ≤ 4
 L : ∀ i, i < Z.m → Z.L i = n
 eA : ∀ i, i < Z.m → ∀ j, j < n → Z.A i j = raw (X i j)
 nl : Z.nl = Z.m
 el : ∀ i, i < Z.m → Z.l i = raw (y i)
 np : Z.np = Z.m
 ep : ∀ i, i < Z.m → Z.p i = raw (p i)
 pos : ∀ i, i < Z.m → 0 < p i
 hX : HtM Z.m n 17 X
 hy : HtL Z.m 17 y
 hp : HtL Z.m 17 p
theorem rat_pos {q : Rat} (h : 0 < q.num) : 0 < q := by
 rw [Rat.lt_iff]
 simpa using h
theorem code_zero {Z : Lin} (h : codeOf Z = 0) : canonB Z = true ∧ sizeB Z = true ∧ fitB Z = true ∧ allB Z.np (fun i => posB (Z.p i)) = true := by
 unfold codeOf at h
 by_cases h1 : canonB Z = false
 ·rw [if_pos h1] at h; exact absurd h (by decide)
 rw [if_neg h1] at h
 by_cases h2 : sizeB Z = false
 ·rw [if_pos h2] at h; exact absurd h (by decide)
 rw [if_neg h2] at h
 by_cases h3 : fitB Z = false
 ·rw [if_pos h3] at h; exact absurd h (by decide)
 rw [if_neg h3] at h
 by_cases h4 : allB Z.np (fun i => posB (Z.p i)) = false
 ·rw [if_pos h4] at h; exact absurd h (by decide)
 exact ⟨by simpa using h1, by simpa using h2, by simpa using h3, by simpa using h4⟩
theorem few_lin {Z : Lin} (h : fewB Z = true) (hc : codeOf Z = 0) : FewLin Z (Z.L 0) (fun i j => ratOf (Z.A i j)) (fun i => ratOf (Z.l i)) (fun i => ratOf (Z.p i)) := by
 obtain ⟨h1, h2, h3, h4⟩ := few_all h
 obtain ⟨c1, c2, c3, c4⟩ := code_zero hc
 unfold canonB canonA at c1
 rw [Bool.and_eq_true, Bool.and_eq_true, allB_true, allB_true, allB_true] at c1
 obtain ⟨k1, k2, k3⟩ := c1
 unfold sizeB at c2
 simp only [Bool.and_eq_true, decide_eq_true_eq] at c2
 unfold fitB evenB at c3
 rw [Bool.and_eq_true, Bool.and_eq_true, allB_true, decide_eq_true_eq, decide_eq_true_eq] at c3
 obtain ⟨f1, f2, f3⟩ := c3
 have hL : ∀ i, i < Z.m → Z.L i = Z.L 0 := fun i hi => of_decide_eq_true (f1 i hi)
 rw [allB_true] at c4
 have kA : ∀ i, i < Z.m → ∀ j, j < Z.L 0 → okR (Z.A i j) = true := fun i hi j hj => allB_true.1 (k1 i hi) j (by rw [hL i hi]; exact hj)
 refine ⟨by omega, h1, by omega, (h4 0 (by omega)).1, hL, fun i hi j hj => raw_ratOf (kA i hi j hj), f2, fun i hi => raw_ratOf (k2 i (by omega)), f3, fun i hi => raw_ratOf (k3 i (by omega)), fun i hi => ?_, fun i hi j hj => ?_, fun i hi => ?_, fun i hi => ?_⟩
 ·have h5 := c4 i (by omega)
  rw [raw_ratOf (k3 i (by omega)), posB_raw, decide_eq_true_eq] at h5
  exact rat_pos h5
 ·refine brief_ht ?_
  rw [← raw_ratOf (kA i hi j hj)]
  exact (h4 i hi).2 j (by rw [hL i hi]; exact hj)
 ·refine brief_ht ?_
  rw [← raw_ratOf (k2 i (by omega))]
  exact h2 i (by omega)
 ·refine brief_ht ?_
  rw [← raw_ratOf (k3 i (by omega))]
  exact h3 i (by omega)
theorem FewLin.mem {Z : Lin} {n : Nat} {X : Nat → Nat → Rat} {y p : Nat → Rat} (f : FewLin Z n X y p) {N lo hi : Nat} {w : World} {A1 A2 A3 : Option Addr} {c1 c2 c3 : Nat} (h1 : MtR N lo hi w (.slice A1 Z.m c1) Z.m Z.L Z.A) (h2 : LsR N lo hi w (.slice A2 Z.nl c2) Z.nl Z.l) (h3 : LsR N lo hi w (.slice A3 Z.np c3) Z.np Z.p) :
  MtV N lo hi w (.slice A1 Z.m c1) Z.m n X ∧ LsV N lo hi w (.slice A2 Z.m c2) Z.m y ∧ LsV N lo hi w (.slice A3 Z.m c3) Z.m p := by
 refine ⟨MtR.congr h1 f.L (fun i hi j hj => f.eA i hi j (by rw [← f.L i hi]; exact hj)), ?_, ?_⟩
 ·rw [f.nl] at h2; exact LsR.congr h2 f.el
 ·rw [f.np] at h3; exact LsR.congr h3 f.ep
end Go.Proofs.YtghpfnhmlpfgcaaGreat
