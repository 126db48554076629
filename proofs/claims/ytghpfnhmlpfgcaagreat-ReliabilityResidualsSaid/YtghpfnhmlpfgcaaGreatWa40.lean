import Derived.Test.YtghpfnhmlpfgcaaGreatWa39
import Derived.Test.YtghpfnhmlpfgcaaGreatWa37
set_option linter.all false
namespace Go.Proofs.YtghpfnhmlpfgcaaGreat
open Go.RowKit
set_option maxRecDepth 100000 in
set_option maxHeartbeats 4000000 in
theorem l37_residuals {N lo hi lo' hi' : Nat} {w : World} {v1 v2 v3 v4 : Value} {m n : Nat} {X : Nat → Nat → Rat} {y p x : Nat → Rat} (h1 : MtV N lo hi w v1 m n X) (h2 : LsV N lo hi w v2 m y) (h3 : LsV N lo hi w v3 m p) (h4 : LsV N lo' hi' w v4 n x) (hm : m < 1000000) (hn0 : 0 < n) (hn : n < 1000000)
  {k kx : Nat} (hkX : HtM m n k X) (hky : HtL m k y) (hkx : HtL n kx x) (hK : n * (k + kx + 1) + 1 + k ≤ 29000000000) :
  Calls Tryz.prog 17 #[.agg #[v1, v2, v3], v4] w (RetL N w m (fun i => av n X x i - y i)) := by
 have HX := Lib.hid hkX
 have HXX := Lib.hid hkx
 have HK : Hid (n * (k + kx + 1) + 1 ≤ 29000000000) := by rw [Hid]; omega
 have HSS : Hid (∀ i, i < m → Sz (av n X x i) ∧ Sz (y i)) := fun i hi =>
  ⟨(sum_ht (n := n) (k := k + kx) (K := n * (k + kx + 1) + 1) (fun c hc => (hkX i hi c hc).mul (hkx c hc)) (Nat.le_refl _) (Nat.le_refl _)).sz (by omega), (hky i hi).sz (by omega)⟩
 obtain ⟨Rf, hRf⟩ := hid_eq (RetL N w m (fun i => av n X x i - y i))
 rw [← hRf.out]
 have hN := h1.le
 obtain ⟨A1, c1, rfl, hmc, hcm⟩ := h1.form
 obtain ⟨A2, c2, rfl, hmc2, hcm2⟩ := h2.form
 obtain ⟨A3, c3, rfl, hmc3, hcm3⟩ := h3.form
 obtain ⟨A4, c4, rfl, hmc4, hcm4⟩ := h4.form
 have hI1 := h1
 have hI2 := h2
 have hI4 := h4
 clear h1 h2 h3 h4 hkX hky hkx hK
 go_enter Tryz.func17, Tryz.ntmps17
 go_wp2_with (go_at_call 65; refine Hid.out ?_)
 refine boxesC1 ?_
 intro W hE hsz B0
 refine (r5_apply (hI1.ext hE) (hI4.ext hE) hm hn0 hn HX.out HXX.out HK.out).mono ?_
 rintro e w1 ⟨A5, c5, rfl, h5, e1⟩
 replace h5 : LsV N _ _ w1 (.slice A5 m c5) m (av n X x) := h5
 have hE1 := hE.trans e1
 have B01 := e1.block B0
 have hs0 := hE.size
 go_wp2
 go_loopw [5, 13] (fun v i wr => ∃ k : Nat, k ≤ m ∧ i = .int .i64 k ∧ Ext w1 wr ∧ ∃ A c, v = .slice A k c ∧ Grow N w1.heap.size wr (.slice A k c) k (fun i => av n X x i - y i)) (fun _ i _ => m - (intOf i).toNat)
 case atStart => exact ⟨0, Nat.zero_le _, rfl, Ext.refl w1, _, _, rfl, Grow.nil (by have := hE1.size; omega) (Nat.le_refl _) _⟩
 case round =>
  obtain ⟨i, hi', rfl, hEr, A6, c6, rfl, hG⟩ := hrel
  have hsr := hEr.size
  by_cases hlt : i < m
  ·obtain ⟨b, off, rfl, -, -, hx⟩ := (h5.ext hEr).addr (by omega)
   obtain ⟨n1, A7, k7, c7, A8, k8, c8, p0, p1, p2, p3, hb1, g1, g2⟩ := (hx i hlt).open
   obtain ⟨b2, off2, rfl, -, -, hx2⟩ := (hI2.ext (hE1.trans hEr)).addr (by omega)
   obtain ⟨n2, A9, k9, c9, A10, k10, c10, q0, q1, q2, q3, hb2, g3, g4⟩ := (hx2 i hlt).open
   clear hx hx2
   go_upto_region 5 with (fail)
   refine boxes1 ?_
   intro w5 e5 hsz5 B5
   obtain ⟨t0, t1, t2, t3, -⟩ := cells4 B5
   obtain ⟨a0, a1, a2, -⟩ := cells3 (e5.block (hEr.block B01))
   replace q0 := e5.cell q0
   replace q1 := e5.cell q1
   replace q2 := e5.cell q2
   replace q3 := e5.cell q3
   replace g1 := g1.ext e5
   replace g2 := g2.ext e5
   replace g3 := g3.ext e5
   replace g4 := g4.ext e5
   replace hG := hG.ext e5
   have hEw := hEr.trans e5
   obtain ⟨gz, hgz⟩ : ∃ gz, gz = wr.heap.size := ⟨_, rfl⟩
   rw [← hgz] at t0 t1 t2 t3 hsz5 ⊢
   have hgz2 : w1.heap.size ≤ gz := by omega
   clear p0 p1 p2 p3 B5 e5 a0 a2 hgz
   have eC := (Ext.refl w5).drew
   refine region_late (fun w' => w'.cell? ⟨gz, 0, none⟩ = some (.bool n1) ∧ w'.cell? ⟨gz, 1, none⟩ = some (.slice A7 k7 c7) ∧ w'.cell? ⟨gz, 2, none⟩ = some (.bool false) ∧ w'.cell? ⟨gz, 3, none⟩ = some (.slice A8 k8 c8) ∧ w'.cell? ⟨w.heap.size, 1, none⟩ = some (.slice (some ⟨b2, off2, none⟩) m c2) ∧ w'.cell? ⟨b2, off2 + i * 4, none⟩ = some (.bool n2) ∧ w'.cell? ⟨b2, off2 + i * 4 + 1, none⟩ = some (.slice A9 k9 c9) ∧ w'.cell? ⟨b2, off2 + i * 4 + 2, none⟩ = some (.bool false) ∧ w'.cell? ⟨b2, off2 + i * 4 + 3, none⟩ = some (.slice A10 k10 c10)) [9] (by kernel_rfl) (by exact ⟨eC.cell t0, eC.cell t1, eC.cell t2, eC.cell t3, eC.cell a1, eC.cell q0, eC.cell q1, eC.cell q2, eC.cell q3⟩) (fun hHeld => ?_)
   refine stepL_pure (i := 0) (v := ?_) rfl (by kernel_rfl) (by kernel_rfl) (by kernel_rfl) (fun _ _ _ h => h) (Or.inl ⟨by rfl, ?_⟩) ?_
   rotate_left
   ·(intro w hSw; (try dsimp only at hSw); go_simp; (try (rw [if_pos (by omega)])); (try with_reducible rfl))
   try simp only [nr]
   refine stepL_take (i := 1) (v := ?_) rfl (by kernel_rfl) (by kernel_rfl) (by kernel_rfl) (by kernel_rfl) (fun _ _ _ h => h) (Or.inl ⟨by rfl, ?_⟩) (by assumption) ?_
   rotate_left
   ·(intro w hSw; (try dsimp only at hSw); go_simp; (try (rw [if_pos (by omega)])); (try with_reducible rfl))
   try simp only [nr]
   refine stepL_pure (i := 2) (v := ?_) rfl (by kernel_rfl) (by kernel_rfl) (by kernel_rfl) (fun _ _ _ h => h) (Or.inl ⟨by rfl, ?_⟩) ?_
   rotate_left
   ·(intro w hSw; (try dsimp only at hSw); go_simp; (try (rw [if_pos (by omega)])); (try with_reducible rfl))
   try simp only [nr]
   refine stepL_take (i := 3) (v := ?_) rfl (by kernel_rfl) (by kernel_rfl) (by kernel_rfl) (by kernel_rfl) (fun _ _ _ h => h) (Or.inl ⟨by rfl, ?_⟩) (by assumption) ?_
   rotate_left
   ·(intro w hSw; (try dsimp only at hSw); go_simp; (try (rw [if_pos (by omega)])); (try with_reducible rfl))
   try simp only [nr]
   refine stepL_pure (i := 4) (v := ?_) rfl (by kernel_rfl) (by kernel_rfl) (by kernel_rfl) (fun _ _ _ h => h) (Or.inl ⟨by rfl, ?_⟩) ?_
   rotate_left
   ·(intro w hSw; (try dsimp only at hSw); go_simp; (try (rw [if_pos (by omega)])); (try with_reducible rfl))
   try simp only [nr]
   refine stepL_pure (i := 5) (v := ?_) rfl (by kernel_rfl) (by kernel_rfl) (by kernel_rfl) (fun _ _ _ h => h) (Or.inl ⟨by rfl, ?_⟩) ?_
   rotate_left
   ·(intro w hSw; (try dsimp only at hSw); go_simp; (try (rw [if_pos (by omega)])); (try with_reducible rfl))
   try simp only [nr]
   refine stepL_take (i := 6) (v := ?_) rfl (by kernel_rfl) (by kernel_rfl) (by kernel_rfl) (by kernel_rfl) (fun _ _ _ h => h) (Or.inl ⟨by rfl, ?_⟩) (by assumption) ?_
   rotate_left
   ·(intro w hSw; (try dsimp only at hSw); go_simp; (try (rw [if_pos (by omega)])); (try with_reducible rfl))
   try simp only [nr]
   refine stepL_only (i := 7) rfl (by kernel_rfl) (fun K hK => ?_)
   go_simp
   refine (r2_sub (x := av n X x i) (y := y i) (by exact (RatV.mk hb1 g1 g2).ext eC) (by exact (RatV.mk hb2 g3 g4).ext eC) (HSS.out i hlt).1 (HSS.out i hlt).2).mono ?_
   intro e w6 hh
   obtain ⟨b3, A11, k11, c11, A12, k12, c12, rfl, hb3, g5, g6, e6⟩ := hh.form
   replace eC := eC.trans e6
   go_wp2_with fail
   refine hK.out _ _ (by exact ⟨eC.cell t0, eC.cell t1, eC.cell t2, eC.cell t3, eC.cell a1, eC.cell q0, eC.cell q1, eC.cell q2, eC.cell q3⟩) (fun hH => ?_)
   clear hHeld hK K
   have hHeld := hH
   clear hH
   try simp only [nr]
   refine stepL_only (i := 8) rfl (by kernel_rfl) (fun K hK => ?_)
   go_simp
   first | refine boxes1 ?_ | refine boxesD1 ?_
   intro w7 e7 hsz7 BX
   replace eC := eC.trans e7
   replace g5 := g5.ext e7
   replace g6 := g6.ext e7
   have hG7 := hG.ext eC
   have hE7 := hEw.trans eC
   refine hK.out _ _ (by exact ⟨eC.cell t0, eC.cell t1, eC.cell t2, eC.cell t3, eC.cell a1, eC.cell q0, eC.cell q1, eC.cell q2, eC.cell q3⟩) (fun hH => ?_)
   clear hHeld hK K
   have hHeld := hH
   clear hH
   try simp only [nr]
   refine stepL_late (i := 9) rfl (by kernel_rfl) (by kernel_rfl) (fun K hK => ?_)
   refine step_append_rat rfl _ _ 24 Tryz.underlying24 rfl (by rfl) hG7 (by rfl) BX hb3 g5 g6 (by omega) ?_
   rintro g cap' w8 hG8 ⟨g', hg', c13, -⟩ -
   replace hE7 := c13.ext hE7 hg'
   replace hG8 := hG8.congr (y := fun i => av n X x i - y i) (fun j _ => by unfold upd; split <;> simp_all)
   refine hK.out _ _ ?_
   clear hK K
   try simp only [nr]
   refine stepL_pure (i := 10) (v := ?_) rfl (by kernel_rfl) (by kernel_rfl) (by kernel_rfl) (fun _ _ _ h => h) (Or.inl ⟨by rfl, ?_⟩) ?_
   rotate_left
   ·(intro w hSw; (try dsimp only at hSw); go_simp; (try (rw [if_pos (by omega)])); (try with_reducible rfl))
   try simp only [nr]
   refine stepL_done (by kernel_rfl) ?_ _
   clear hHeld
   clear t0 t1 t2 t3 q0 q1 q2 q3 a1 g1 g2 g3 g4 g5 g6 hb1 hb2 hb3 BX hG hG7 c13
   go_wp2
   go_roundw
   case rel => exact ⟨i + 1, by omega, by go_num, hE7, _, _, rfl, hG8⟩
   case measure => simp [intOf]; omega
  ·obtain rfl : m = i := by omega
   go_wp2
   first | go_ret | skip
   rw [hRf.out]
   exact ⟨A6, c6, rfl, hG.lsv hE1.size rfl, hE1.trans hEr⟩
end Go.Proofs.YtghpfnhmlpfgcaaGreat
namespace Go.Proofs.YtghpfnhmlpfgcaaGreat
open Go.RowKit
set_option maxRecDepth 100000 in
set_option maxHeartbeats 4000000 in
theorem l37_total {N lo hi lo' hi' : Nat} {w : World} {v1 v2 v3 v4 : Value} {m n : Nat} {X : Nat → Nat → Rat} {y p vv : Nat → Rat} (h1 : MtV N lo hi w v1 m n X) (h2 : LsV N lo hi w v2 m y) (h3 : LsV N lo hi w v3 m p) (h4 : LsV N lo' hi' w v4 m vv) (hm0 : 0 < m) (hm : m < 1000000)
  {k kv : Nat} (hkp : HtL m k p) (hkv : HtL m kv vv) (hK : m * (k + (kv + kv) + 1) + 1 ≤ 29000000000) :
  Calls Tryz.prog 19 #[.agg #[v1, v2, v3], v4] w (RetR N w (obj m p vv)) := by
 have h9 := Nat.le_mul_of_pos_left (k + (kv + kv) + 1) hm0
 have HSS : Hid (∀ i, i < m → Sz (vv i) ∧ Sz (p i) ∧ Sz (vv i * vv i) ∧ Sz (p i * (vv i * vv i))) := fun i hi =>
  ⟨(hkv i hi).sz (by omega), (hkp i hi).sz (by omega), ((hkv i hi).mul (hkv i hi)).sz (by omega), ((hkp i hi).mul ((hkv i hi).mul (hkv i hi))).sz (by omega)⟩
 have HSU : Hid (∀ i, i ≤ m → Sz (sum i (fun i => p i * (vv i * vv i)))) := fun i hi => (sum_ht (n := m) (k := k + (kv + kv)) (K := 29000000000) (fun t ht => (hkp t ht).mul ((hkv t ht).mul (hkv t ht))) hi hK).sz (Nat.le_refl _)
 obtain ⟨S, hS⟩ := hid_eq (obj m p vv)
 rw [← hS.out]
 have hN := h1.le
 obtain ⟨A1, c1, rfl, hmc, hcm⟩ := h1.form
 obtain ⟨A2, c2, rfl, hmc2, hcm2⟩ := h2.form
 obtain ⟨A3, c3, rfl, hmc3, hcm3⟩ := h3.form
 obtain ⟨A4, c4, rfl, hmc4, hcm4⟩ := h4.form
 have hI3 := h3
 have hI4 := h4
 clear h1 h2 h3 h4 hkp hkv hK h9
 go_enter Tryz.func19, Tryz.ntmps19
 go_wp2_with (go_at_call 24; refine Hid.out ?_)
 refine boxesC2 ?_
 intro W hE hsz B0 B1
 refine (r2_Whole (N := N) (by have := hE.size; omega) 0 (by omega) (by omega)).mono ?_
 intro e w2 hh
 obtain ⟨b3, A9, k9, c9, A10, k10, c10, rfl, hb3, g3, g4, e2⟩ := hh.form
 replace hE := hE.trans e2
 replace B0 := e2.block B0
 replace B1 := e2.block B1
 have hb1' : w.heap.size + 1 < w2.heap.size := blk_lt B1
 clear e2
 go_upto_region 2 with (fail)
 refine boxes1 ?_
 intro w3 e3 hsz3 B3
 have HS0 : Hid (((0 : Int) : Rat) = sum 0 (fun i => p i * (vv i * vv i))) := rfl
 rw [HS0.out] at hb3 g3 g4
 have hBx : BoxR N w3 w2.heap.size (sum 0 (fun i => p i * (vv i * vv i))) := BoxR.mk B3 hb3 (g3.ext e3) (g4.ext e3)
 clear B3 g3 g4 hb3
 go_wp2
 go_loopw [11] (fun i wr => ∃ a : Nat, a ≤ m ∧ i = .int .i64 a ∧ Ext w2 wr ∧ w2.heap.size < wr.heap.size ∧ BoxR N wr w2.heap.size (sum a (fun i => p i * (vv i * vv i)))) (fun i _ => m - (intOf i).toNat)
 case atStart => exact ⟨0, Nat.zero_le _, rfl, e3, by omega, hBx⟩
 case round =>
  clear hBx e3 hsz3
  obtain ⟨a, ha, rfl, e3, hsz3, hBx⟩ := hrel
  have B1r := e3.block B1
  by_cases hlt : a < m
  ·obtain ⟨b, off, rfl, -, -, hx⟩ := (hI4.ext (hE.trans e3)).addr (by omega)
   obtain ⟨n1, A6, k6, c6, A12, k12, c12, p0, p1, p2, p3, hb1, g1, g2⟩ := (hx a hlt).open
   obtain ⟨b5, off5, rfl, -, -, hx5⟩ := (hI3.ext (hE.trans e3)).addr (by omega)
   obtain ⟨n5, A13, k13, c13, A14, k14, c14, q0, q1, q2, q3, hb5, g5, g6⟩ := (hx5 a hlt).open
   clear hx hx5
   go_upto_region 5 with (fail)
   refine boxes1 ?_
   intro w5 e5 hsz5 B5
   obtain ⟨b3, A9, k9, c9, A10, k10, c10, BS, hb3, g3, g4⟩ := hBx.ext e5
   obtain ⟨s0, s1, s2, s3, -⟩ := cells4 BS
   obtain ⟨t0, t1, t2, t3, -⟩ := cells4 B5
   obtain ⟨a0, a1, a2, -⟩ := cells3 (e5.block (e3.block B0))
   replace q0 := e5.cell q0
   replace q1 := e5.cell q1
   replace q2 := e5.cell q2
   replace q3 := e5.cell q3
   replace g1 := g1.ext e5
   replace g2 := g2.ext e5
   replace g5 := g5.ext e5
   replace g6 := g6.ext e5
   have e35 := e3.trans e5
   obtain ⟨hS1, hS2, hS3, hS4⟩ := HSS.out a hlt
   have HS1 := Lib.hid hS1
   have HS2 := Lib.hid hS2
   have HS3 := Lib.hid hS3
   have HS4 := Lib.hid hS4
   have HS5 := Lib.hid (HSU.out a ha)
   obtain ⟨gz, hgz⟩ : ∃ gz, gz = wr.heap.size := ⟨_, rfl⟩
   rw [← hgz] at t0 t1 t2 t3 hsz5 hsz3 ⊢
   clear p0 p1 p2 p3 B5 hBx e5 hS1 hS2 hS3 hS4 a0 a1 hgz B1r e3
   have eC := (Ext.refl w5).drew
   refine region_late (fun w' => w'.cell? ⟨w2.heap.size, 0, none⟩ = some (.bool b3) ∧ w'.cell? ⟨w2.heap.size, 1, none⟩ = some (.slice A9 k9 c9) ∧ w'.cell? ⟨w2.heap.size, 2, none⟩ = some (.bool false) ∧ w'.cell? ⟨w2.heap.size, 3, none⟩ = some (.slice A10 k10 c10) ∧ w'.cell? ⟨gz, 0, none⟩ = some (.bool n1) ∧ w'.cell? ⟨gz, 1, none⟩ = some (.slice A6 k6 c6) ∧ w'.cell? ⟨gz, 2, none⟩ = some (.bool false) ∧ w'.cell? ⟨gz, 3, none⟩ = some (.slice A12 k12 c12) ∧ w'.cell? ⟨w.heap.size, 2, none⟩ = some (.slice (some ⟨b5, off5, none⟩) m c3) ∧ w'.cell? ⟨b5, off5 + a * 4, none⟩ = some (.bool n5) ∧ w'.cell? ⟨b5, off5 + a * 4 + 1, none⟩ = some (.slice A13 k13 c13) ∧ w'.cell? ⟨b5, off5 + a * 4 + 2, none⟩ = some (.bool false) ∧ w'.cell? ⟨b5, off5 + a * 4 + 3, none⟩ = some (.slice A14 k14 c14)) [11] (by kernel_rfl) (by exact ⟨eC.cell s0, eC.cell s1, eC.cell s2, eC.cell s3, eC.cell t0, eC.cell t1, eC.cell t2, eC.cell t3, eC.cell a2, eC.cell q0, eC.cell q1, eC.cell q2, eC.cell q3⟩) (fun hHeld => ?_)
   refine stepL_take (i := 0) (v := ?_) rfl (by kernel_rfl) (by kernel_rfl) (by kernel_rfl) (by kernel_rfl) (fun _ _ _ h => h) (Or.inl ⟨by rfl, ?_⟩) (by assumption) ?_
   rotate_left
   ·(intro w hSw; (try dsimp only at hSw); go_simp; (try (rw [if_pos (by omega)])); (try with_reducible rfl))
   try simp only [nr]
   refine stepL_pure (i := 1) (v := ?_) rfl (by kernel_rfl) (by kernel_rfl) (by kernel_rfl) (fun _ _ _ h => h) (Or.inl ⟨by rfl, ?_⟩) ?_
   rotate_left
   ·(intro w hSw; (try dsimp only at hSw); go_simp; (try (rw [if_pos (by omega)])); (try with_reducible rfl))
   try simp only [nr]
   refine stepL_take (i := 2) (v := ?_) rfl (by kernel_rfl) (by kernel_rfl) (by kernel_rfl) (by kernel_rfl) (fun _ _ _ h => h) (Or.inl ⟨by rfl, ?_⟩) (by assumption) ?_
   rotate_left
   ·(intro w hSw; (try dsimp only at hSw); go_simp; (try (rw [if_pos (by omega)])); (try with_reducible rfl))
   try simp only [nr]
   refine stepL_pure (i := 3) (v := ?_) rfl (by kernel_rfl) (by kernel_rfl) (by kernel_rfl) (fun _ _ _ h => h) (Or.inl ⟨by rfl, ?_⟩) ?_
   rotate_left
   ·(intro w hSw; (try dsimp only at hSw); go_simp; (try (rw [if_pos (by omega)])); (try with_reducible rfl))
   try simp only [nr]
   refine stepL_pure (i := 4) (v := ?_) rfl (by kernel_rfl) (by kernel_rfl) (by kernel_rfl) (fun _ _ _ h => h) (Or.inl ⟨by rfl, ?_⟩) ?_
   rotate_left
   ·(intro w hSw; (try dsimp only at hSw); go_simp; (try (rw [if_pos (by omega)])); (try with_reducible rfl))
   try simp only [nr]
   refine stepL_take (i := 5) (v := ?_) rfl (by kernel_rfl) (by kernel_rfl) (by kernel_rfl) (by kernel_rfl) (fun _ _ _ h => h) (Or.inl ⟨by rfl, ?_⟩) (by assumption) ?_
   rotate_left
   ·(intro w hSw; (try dsimp only at hSw); go_simp; (try (rw [if_pos (by omega)])); (try with_reducible rfl))
   try simp only [nr]
   refine stepL_take (i := 6) (v := ?_) rfl (by kernel_rfl) (by kernel_rfl) (by kernel_rfl) (by kernel_rfl) (fun _ _ _ h => h) (Or.inl ⟨by rfl, ?_⟩) (by assumption) ?_
   rotate_left
   ·(intro w hSw; (try dsimp only at hSw); go_simp; (try (rw [if_pos (by omega)])); (try with_reducible rfl))
   try simp only [nr]
   refine stepL_take (i := 7) (v := ?_) rfl (by kernel_rfl) (by kernel_rfl) (by kernel_rfl) (by kernel_rfl) (fun _ _ _ h => h) (Or.inl ⟨by rfl, ?_⟩) (by assumption) ?_
   rotate_left
   ·(intro w hSw; (try dsimp only at hSw); go_simp; (try (rw [if_pos (by omega)])); (try with_reducible rfl))
   try simp only [nr]
   refine stepL_only (i := 8) rfl (by kernel_rfl) (fun K hK => ?_)
   go_simp
   refine (r2_mul (x := vv a) (y := vv a) (by exact (RatV.mk hb1 g1 g2).ext eC) (by exact (RatV.mk hb1 g1 g2).ext eC) HS1.out HS1.out).mono ?_
   rintro e w6 ⟨v6, rfl, h6, e6⟩
   replace eC := eC.trans e6
   go_wp2_with fail
   refine hK.out _ _ (by exact ⟨eC.cell s0, eC.cell s1, eC.cell s2, eC.cell s3, eC.cell t0, eC.cell t1, eC.cell t2, eC.cell t3, eC.cell a2, eC.cell q0, eC.cell q1, eC.cell q2, eC.cell q3⟩) (fun hH => ?_)
   clear hHeld hK K
   have hHeld := hH
   clear hH
   try simp only [nr]
   refine stepL_only (i := 9) rfl (by kernel_rfl) (fun K hK => ?_)
   go_simp
   refine (r2_mul (x := p a) (y := vv a * vv a) (by exact (RatV.mk hb5 g5 g6).ext eC) (by exact h6) HS2.out HS3.out).mono ?_
   rintro e w7 ⟨v7, rfl, h7, e7⟩
   replace eC := eC.trans e7
   go_wp2_with fail
   refine hK.out _ _ (by exact ⟨eC.cell s0, eC.cell s1, eC.cell s2, eC.cell s3, eC.cell t0, eC.cell t1, eC.cell t2, eC.cell t3, eC.cell a2, eC.cell q0, eC.cell q1, eC.cell q2, eC.cell q3⟩) (fun hH => ?_)
   clear hHeld hK K
   have hHeld := hH
   clear hH
   try simp only [nr]
   refine stepL_only (i := 10) rfl (by kernel_rfl) (fun K hK => ?_)
   go_simp
   refine (r2_add (x := sum a (fun i => p i * (vv i * vv i))) (y := p a * (vv a * vv a)) (by exact (RatV.mk hb3 g3 g4).ext eC) (by exact h7) HS5.out HS4.out).mono ?_
   intro e w8 hh
   obtain ⟨b9, A15, k15, c15, A16, k16, c16, rfl, hb9, g9, g10, e8⟩ := hh.form
   replace eC := eC.trans e8
   have D0 := eC.block BS
   obtain ⟨u0, u1, u2, u3, u4, u5, u6, u7⟩ := cells4 D0
   go_wp2_with fail
   refine hK.out _ _ (by exact ⟨eC.cell s0, eC.cell s1, eC.cell s2, eC.cell s3, eC.cell t0, eC.cell t1, eC.cell t2, eC.cell t3, eC.cell a2, eC.cell q0, eC.cell q1, eC.cell q2, eC.cell q3⟩) (fun hH => ?_)
   clear hHeld hK K
   have hHeld := hH
   clear hH
   try simp only [nr]
   refine stepL_late (i := 11) rfl (by kernel_rfl) (by kernel_rfl) (fun K hK => ?_)
   go_simp
   refine hK.out _ _ ?_
   clear hK K
   try simp only [nr]
   refine stepL_done (by kernel_rfl) ?_ _
   clear hHeld
   obtain ⟨w9, E9, hB9, K9, hs9⟩ := boxSet (q := sum (a + 1) (fun i => p i * (vv i * vv i))) D0 (by have := hE.size; omega) hb9 g9 g10
   rw [E9]
   have e9 := K9.ext (e35.trans eC) (Nat.le_refl _)
   have hs10 : w2.heap.size < w9.heap.size := by have := eC.size; omega
   clear E9 K9 D0 s0 s1 s2 s3 t0 t1 t2 t3 u0 u1 u2 u3 u4 u5 u6 u7 BS g1 g2 g3 g4 g9 g10 hb1 hb3 hb9 hb5 g5 g6 q0 q1 q2 q3 a2
   go_wp2
   go_roundw
   case rel => exact ⟨a + 1, by omega, by go_num, e9, hs10, hB9⟩
   case measure => simp [intOf]; omega
  ·obtain rfl : m = a := by omega
   obtain ⟨b3, A9, k9, c9, A10, k10, c10, BS, hb3, g3, g4⟩ := hBx
   have HSX : Hid (sum m (fun i => p i * (vv i * vv i)) = S) := hS.out.symm
   rw [HSX.out] at hb3 g3 g4
   obtain ⟨s0, s1, s2, s3, -⟩ := cells4 BS
   obtain ⟨t0, t1, t2, t3, t4, t5, t6, t7⟩ := cells4 B1r
   go_wp2
   exact fin_rat rfl rfl rfl (hE.trans e3) B1r (by omega) hN g3 g4 hb3
end Go.Proofs.YtghpfnhmlpfgcaaGreat
namespace Go.Proofs.YtghpfnhmlpfgcaaGreat
open Go.RowKit
set_option maxRecDepth 100000 in
set_option maxHeartbeats 4000000 in
theorem rl_redundancy {N : Nat} {w : World} {gm m n : Nat} {X : Nat → Nat → Rat} {y p : Nat → Rat} {pv : List Nat} {F : Nat → Nat → Rat} (h : MdlV N w gm m n X y p pv F) {i : Nat} (hi : i < m) (hm : m < 1000000) (hz : Sz (F i i)) (hz' : Sz (p i)) (hz2 : Sz (F i i * p i)) :
  Calls Tryz.prog 76 #[.pointer (some ⟨gm, 0, none⟩), .int .i64 (i : Int)] w (RetR N w (((1 : Int) : Rat) - F i i * p i)) := by
 obtain ⟨q, hq⟩ := hid_eq (((1 : Int) : Rat) - F i i * p i)
 rw [← hq.out]
 have hI := h
 have hN : N ≤ w.heap.size := by
  obtain ⟨A1, c1, A2, c2, A3, c3, A4, c4, s5, s6, A7, c7, B, h1, -⟩ := h
  exact h1.le
 have HZ := Lib.hid hz
 have HZ' := Lib.hid hz'
 have HZ2 := Lib.hid hz2
 have HS1 : Hid (Sz (((1 : Int) : Rat))) := (Ht.one.sz (by omega) : Sz 1)
 clear h hz hz' hz2
 go_enter Tryz.func76, Tryz.ntmps76
 go_wp2_with (go_at_call 59; refine Hid.out ?_)
 refine boxesC1 ?_
 intro W hE hsz B0
 refine (rl_whole (N := N) (by have := hE.size; omega) 1 (by omega) (by omega)).mono ?_
 rintro e w1 ⟨v1, rfl, h1, e1⟩
 replace hE := hE.trans e1
 replace B0 := e1.block B0
 have hs1 := e1.size
 go_wp2_with (go_at_call 86; refine Hid.out ?_)
 refine (rl_projected (hI.ext hE) hi hi hm HZ.out HZ'.out).mono ?_
 rintro e w2 ⟨v2, rfl, h2, e2⟩
 replace hE := hE.trans e2
 replace B0 := e2.block B0
 have hs2 := e2.size
 go_wp2_with (go_at_call 121; refine Hid.out ?_)
 refine (rl_sub (h1.ext e2) h2 HS1.out HZ2.out).mono ?_
 rw [← hq.out]
 intro e w3 hh
 obtain ⟨n3, A3, k3, c3, A4, k4, c4, rfl, hb3, g3, g4, e3⟩ := hh.form
 replace hE := hE.trans e3
 replace B0 := e3.block B0
 have hs3 := e3.size
 obtain ⟨t0, t1, t2, t3, t4, t5, t6, t7⟩ := cells4 B0
 go_wp2
 exact fin_rat rfl rfl rfl hE B0 (by omega) hN g3 g4 hb3
set_option maxRecDepth 100000 in
set_option maxHeartbeats 2000000 in
theorem rl_Rank_bad {N lo hi : Nat} {w : World} {v : Value} {Z : Lin} (h : LinV N lo hi w v Z) (hs : LinSz Z) (hp : ∀ i, i < Z.np → RawS (Z.p i)) (hc : codeOf Z ≠ 0) :
  Calls Tryz.prog 51 #[v] w (RetV w (.tuple #[.int .i64 0, .int .i64 (codeOf Z)])) := by
 have HS := Lib.hid hs
 have HP := Lib.hid hp
 have HC := Lib.hid hc
 obtain ⟨r, hr⟩ := hid_eq (codeOf Z)
 have hr0 : (r == 0) = false := by rw [hr.out]; simpa using hc
 have hr1 : (r != 0) = true := by simpa using hr0
 rw [← hr.out]
 have hI := h
 obtain ⟨A1, c1, A2, c2, A3, c3, rfl, h1, h2, h3, hm, hnl, hnp⟩ := h.parts
 clear h h1 h2 h3 hc hs hp
 go_enter Tryz.func51, Tryz.ntmps51
 go_wp2_with (go_at_call 57; refine Hid.out ?_)
 refine boxesC1 ?_
 intro W hE hsz B0
 refine (rl_open_bad (hI.ext hE) HS.out HP.out HC.out).mono ?_
 rintro e w1 ⟨rfl, e1⟩
 rw [← hr.out]
 go_wp2
 first | go_ret2 | skip
 exact ⟨rfl, hE.trans e1⟩
end Go.Proofs.YtghpfnhmlpfgcaaGreat
namespace Go.Proofs.YtghpfnhmlpfgcaaGreat
open Go.RowKit
set_option maxRecDepth 100000 in
set_option maxHeartbeats 4000000 in
theorem rl_Redundancy {N lo hi : Nat} {w : World} {v1 v2 v3 : Value} {m n : Nat} {X : Nat → Nat → Rat} {y p : Nat → Rat} (h1 : MtV N lo hi w v1 m n X) (h2 : LsV N lo hi w v2 m y) (h3 : LsV N lo hi w v3 m p) (hm0 : 0 < m) (hm : m ≤ 64) (hn0 : 0 < n) (hn : n ≤ 24) (hp : ∀ i, i < m → 0 < p i)
  {k P k2 k3 : Nat} (hB : Bnd m n k P k2 k3) (hkx : HtM m n k X) (hky : HtL m k y) (hkp : HtL m k p) (hK : P * (k + k3 + 1) + 1 + k ≤ 29000000000) :
  Calls Tryz.prog 26 #[.agg #[v1, v2, v3]] w (RetL2 N w m (fun i => ((1 : Int) : Rat) - fitsOf m n X p i i * p i)) := by
 have HX := Lib.hid hkx
 have HY := Lib.hid hky
 have HP := Lib.hid hkp
 have HB := Lib.hid hB
 have HSS : Hid (∀ i, i < m → Sz (fitsOf m n X p i i) ∧ Sz (p i) ∧ Sz (fitsOf m n X p i i * p i)) := fun i hi =>
  ⟨(fitsOf_ht hB hkx hkp i hi i hi).sz (by omega), (hkp i hi).sz (by omega), ((fitsOf_ht hB hkx hkp i hi i hi).mul (hkp i hi)).sz (by omega)⟩
 have HPOS := Lib.hid hp
 obtain ⟨Rf, hRf⟩ := hid_eq (RetL2 N w m (fun i => ((1 : Int) : Rat) - fitsOf m n X p i i * p i))
 rw [← hRf.out]
 have hN := h1.le
 obtain ⟨A1, c1, rfl, hmc, hcm⟩ := h1.form
 obtain ⟨A2, c2, rfl, hmc2, hcm2⟩ := h2.form
 obtain ⟨A3, c3, rfl, hmc3, hcm3⟩ := h3.form
 have hI1 := h1
 have hI2 := h2
 have hI3 := h3
 unfold maxLen at hcm
 clear h1 h2 h3 hkx hky hkp hK hB hp
 go_enter Tryz.func26, Tryz.ntmps26
 go_wp2_with (go_at_call 57; refine Hid.out ?_)
 refine boxesC1 ?_
 intro W hE hsz B0
 refine (rl_open (hI1.ext hE) (hI2.ext hE) (hI3.ext hE) hm0 hm hn0 hn HPOS.out HB.out.hP HX.out HY.out HP.out HB.out.hK0 HB.out.hK1 HB.out.hk2 HB.out.hK2 HB.out.hk3 HB.out.hK4).mono ?_
 rintro e w1 ⟨gm, rfl, hM, e1⟩
 have hs1 := hE.size
 replace hE := hE.trans e1
 replace B0 := e1.block B0
 obtain ⟨a0, a1, a2, -⟩ := cells3 B0
 have hs2 := hE.size
 go_wp2
 clear a0 a1 a2
 go_loopw [6, 19] (fun v i wr => ∃ a : Nat, a ≤ m ∧ i = .int .i64 a ∧ Ext w1 wr ∧ ∃ A c, v = .slice A a c ∧ Grow N w1.heap.size wr (.slice A a c) a (fun i => ((1 : Int) : Rat) - fitsOf m n X p i i * p i)) (fun _ i _ => m - (intOf i).toNat)
 case atStart => exact ⟨0, Nat.zero_le _, rfl, Ext.refl w1, _, _, rfl, Grow.nil (by omega) (Nat.le_refl _) _⟩
 case round =>
  obtain ⟨a, ha, rfl, hEr, A6, c6, rfl, hG⟩ := hrel
  have hsr := hEr.size
  by_cases hlt : a < m
  ·obtain ⟨hS1, hS2, hS3⟩ := HSS.out a hlt
   go_wp2_with (go_at_call 76; refine Hid.out ?_)
   refine (rl_redundancy (hM.ext hEr) hlt (by omega) hS1 hS2 hS3).mono ?_
   intro e w2 hh
   obtain ⟨b3, A11, k11, c11, A12, k12, c12, rfl, hb3, g5, g6, e6⟩ := hh.form
   replace hEr := hEr.trans e6
   replace hG := hG.ext e6
   have hs6 := e6.size
   clear hS1 hS2 hS3
   go_wp2_with (at_builtin; refine Hid.out ?_)
   refine boxes1 ?_
   intro w3 e7 hsz7 BX
   replace hEr := hEr.trans e7
   replace hG := hG.ext e7
   refine wpList_append_rat rfl _ _ 24 Tryz.underlying24 rfl rfl hG rfl BX hb3 (g5.ext e7) (g6.ext e7) (by omega) ?_
   rintro g cap' w4 hG3 ⟨g', hg', c5, -⟩ -
   replace hEr := c5.ext hEr (by omega)
   replace hG3 := hG3.congr (y := fun i => ((1 : Int) : Rat) - fitsOf m n X p i i * p i) (fun j _ => by unfold upd; split; (rename_i e; rw [e]); rfl)
   clear hG c5 BX e6 e7 g5 g6 hb3
   go_wp2
   go_roundw
   case rel => exact ⟨a + 1, by omega, by go_num, hEr, _, _, rfl, hG3⟩
   case measure => simp [intOf]; omega
  ·obtain rfl : m = a := by omega
   go_wp2
   first | go_ret2 | skip
   rw [hRf.out]
   exact ⟨A6, c6, rfl, hG.lsv hs2 rfl, hE.trans hEr⟩
end Go.Proofs.YtghpfnhmlpfgcaaGreat
namespace Go.Proofs.YtghpfnhmlpfgcaaGreat
def skip (i j : Nat) : Nat := if j < i then j else j + 1
variable {m n : Nat} {A M X M' : Nat → Nat → Rat} {P : Nat → Rat} {p p' : List Nat}
end Go.Proofs.YtghpfnhmlpfgcaaGreat
namespace Go.Proofs.YtghpfnhmlpfgcaaGreat
open Go.RowKit
theorem invM_ok (m n : Nat) (X : Nat → Nat → Rat) {p : Nat → Rat} (hp : ∀ i, i < m → 0 < p i) :
  ∀ i, i < (rref m X n).2.length → ∀ c, c < (rref m X n).2.length → mm (rref m X n).2.length (nm m (bas X (rref m X n).2) p) (invM (rref m X n).2.length (nmat (bas X (rref m X n).2) p m)) i c = dlt i c := by
 have hl := inv_full m n X hp
 have he := augI_beside (rref m X n).2.length (nmat (bas X (rref m X n).2) p m)
 rw [he] at hl
 have h9 := (inv_ok (rref_ok _ (besideI (rref m X n).2.length (nmat (bas X (rref m X n).2) p m)) _) hl)
 intro i hi c hc
 rw [← h9.1 i hi c hc]
 refine mm_congr (fun k _ => (nmat_nm _ _ _ _ _).symm) (fun k _ => ?_)
 unfold invM
 rw [he]
theorem residuals_eq {m n : Nat} {X : Nat → Nat → Rat} {y p x : Nat → Rat} (hp : ∀ i, i < m → 0 < p i) (hx : Nsol m n X p y x) : ∀ i, i < m → - y i + sum m (fun j => fitsOf m n X p i j * p j * y j) = av n X x i - y i := by
 intro i hi
 have h := fits_fit (rref_ok m X n) hp (invM_ok m n X hp) hx i hi
 unfold fitsOf
 rw [h]; grind
theorem total_least {m n : Nat} {X : Nat → Nat → Rat} {y p : Nat → Rat} (hp : ∀ i, i < m → 0 < p i) (z : Nat → Rat) : obj m p (fun i => av n X (sol37 m n X y p) i - y i) ≤ obj m p (fun i => av n X z i - y i) :=
 least hp (sol37_nsol m n X y hp) z
end Go.Proofs.YtghpfnhmlpfgcaaGreat
namespace Go.Proofs.YtghpfnhmlpfgcaaGreat
open Go.RowKit
def allLen (Z : Lin) (i : Nat) : Nat := if i < Z.m then Z.L i else if i = Z.m then Z.nl else Z.np
def allRow (Z : Lin) (i : Nat) : Nat → Raw := if i < Z.m then Z.A i else if i = Z.m then Z.l else Z.p
theorem all_canon (Z : Lin) : allB (Z.m + 2) (fun i => allB (allLen Z i) (fun j => okR (allRow Z i j))) = canonB Z := by
 have h1 : ∀ i, i < Z.m → allB (allLen Z i) (fun j => okR (allRow Z i j)) = allB (Z.L i) (fun j => okR (Z.A i j)) := fun i hi => by
  unfold allLen allRow; rw [if_pos hi, if_pos hi]
 have h2 : allB (allLen Z Z.m) (fun j => okR (allRow Z Z.m j)) = allB Z.nl (fun j => okR (Z.l j)) := by
  unfold allLen allRow; rw [if_neg (by omega), if_pos rfl, if_neg (by omega), if_pos rfl]
 have h3 : allB (allLen Z (Z.m + 1)) (fun j => okR (allRow Z (Z.m + 1) j)) = allB Z.np (fun j => okR (Z.p j)) := by
  unfold allLen allRow; rw [if_neg (by omega), if_neg (by omega), if_neg (by omega), if_neg (by omega)]
 rw [Bool.eq_iff_iff]
 unfold canonB canonA
 rw [Bool.and_eq_true, Bool.and_eq_true, allB_true]
 constructor
 ·intro h
  exact ⟨allB_true.2 (fun i hi => by rw [← h1 i hi]; exact h i (by omega)), by rw [← h2]; exact h _ (by omega), by rw [← h3]; exact h _ (by omega)⟩
 ·rintro ⟨a, b, c⟩ i hi
  have hi' : i < Z.m ∨ i = Z.m ∨ i = Z.m + 1 := by omega
  rcases hi' with e | e | e
  ·rw [h1 i e]; exact allB_true.1 a i e
  ·rw [e, h2]; exact b
  ·rw [e, h3]; exact c
end Go.Proofs.YtghpfnhmlpfgcaaGreat
namespace Go.Proofs.YtghpfnhmlpfgcaaGreat
open Go.RowKit
theorem GrowS.mtr {N base : Nat} {w : World} {v : Value} {xs : List Value} (h : GrowS base w v xs) (hN : N ≤ w.heap.size) (hn : 0 < xs.length) {L : Nat → Nat} {R : Nat → Nat → Raw} (hr : ∀ i (hi : i < xs.length), LsR N 0 w.heap.size w xs[i] (L i) (R i)) : MtR N 0 w.heap.size w v xs.length L R := by
 obtain ⟨g, cap, rfl, hcm, hnc, hat⟩ := h.at_ hn
 refine ⟨hN, Nat.le_refl _, _, cap, rfl, hnc, hcm, fun _ => ⟨g, 0, rfl, Nat.zero_le _, ?_, fun i hi => ⟨xs[i], ?_, hr i hi⟩⟩⟩
 ·exact cell_lt (hat 0 hn)
 ·rw [Nat.zero_add]; exact hat i hi
theorem MtR.vals {N lo hi : Nat} {w : World} {A : Option Addr} {m c : Nat} {L : Nat → Nat} {R : Nat → Nat → Raw} (h : MtR N lo hi w (.slice A m c) m L R) : ∃ rs : List Value, rs.length = m ∧ (∀ i (hi' : i < rs.length), LsR N lo hi w rs[i] (L i) (R i)) ∧ (0 < rs.length → ∃ b off, A = some ⟨b, off, none⟩ ∧ ∀ j (hj : j < rs.length), w.cell? ⟨b, off + j, none⟩ = some rs[j]) ∧ ∀ u ∈ rs, u.oneCell' = true := by
 rcases Nat.eq_zero_or_pos m with h0 | h0
 ·exact ⟨[], by simp [h0], fun i hi' => by simp at hi', fun hh => by simp at hh, fun u hu => by simp at hu⟩
 ·obtain ⟨b, off, rfl, -, -, hx⟩ := h.addr h0
  have hv : ∀ i, i < m → ∃ v, w.cell? ⟨b, off + i, none⟩ = some v ∧ LsR N lo hi w v (L i) (R i) ∧ v.oneCell' = true := fun i hi' => by
   obtain ⟨A', c', h1, -, -, h2⟩ := hx i hi'
   exact ⟨_, h1, h2, rfl⟩
  have hg : ∀ i, i < m → ∀ v, w.cell? ⟨b, off + i, none⟩ = some v → ((List.range m).map (fun j => (w.cell? ⟨b, off + j, none⟩).getD undef))[i]? = some v := fun i hi' v h1 => by
   simp [hi', h1]
  refine ⟨(List.range m).map (fun j => (w.cell? ⟨b, off + j, none⟩).getD undef), by simp, ?_, fun _ => ⟨b, off, rfl, ?_⟩, ?_⟩
  ·intro i hi'
   have him : i < m := by simpa using hi'
   obtain ⟨v, h1, h2, -⟩ := hv i him
   have h3 := hg i him v h1
   rw [List.getElem?_eq_getElem hi'] at h3
   rw [Option.some.inj h3]; exact h2
  ·intro j hj
   have hjm : j < m := by simpa using hj
   obtain ⟨v, h1, -⟩ := hv j hjm
   have h3 := hg j hjm v h1
   rw [List.getElem?_eq_getElem hj] at h3
   rw [Option.some.inj h3]; exact h1
  ·intro u hu
   obtain ⟨j, hj, he⟩ := List.getElem_of_mem hu
   have hjm : j < m := by simpa using hj
   obtain ⟨v, h1, -, h4⟩ := hv j hjm
   have h3 := hg j hjm v h1
   rw [List.getElem?_eq_getElem hj] at h3
   rw [← he, Option.some.inj h3]; exact h4
end Go.Proofs.YtghpfnhmlpfgcaaGreat
namespace Go.Proofs.YtghpfnhmlpfgcaaGreat
open Go.RowKit
theorem val_one {l : List Nat} (h : l.length ≤ 1) : val l = l[0]?.getD 0 := by
 rcases l with _ | ⟨x, l⟩
 ·rfl
 ·have h2 : l = [] := List.eq_nil_of_length_eq_zero (by simpa using h)
  subst h2
  simp [val]
theorem brief_sz {R : Raw} (h : briefB R = true) : R.l1.length ≤ 1 ∧ R.l2.length ≤ 1 := by
 unfold briefB at h
 simp only [Bool.and_eq_true, decide_eq_true_eq] at h
 exact ⟨h.1.1.1, h.1.1.2⟩
theorem brief_ht {q : Rat} (h : briefB (raw q) = true) : Ht 17 q := by
 unfold briefB raw at h
 simp only [Bool.and_eq_true, decide_eq_true_eq] at h
 obtain ⟨⟨⟨h1, h2⟩, h3⟩, h4⟩ := h
 rw [← val_one h1, val_dg] at h3
 rw [← val_one h2, val_dg] at h4
 have h5 : (2 : Nat) ^ 17 = 131072 := by decide
 exact ⟨by omega, by omega⟩
theorem brief_raw {R : Raw} (h : briefB R = true) : RawSz R ∧ RawS R := by
 obtain ⟨h1, h2⟩ := brief_sz h
 exact ⟨⟨by omega, by omega⟩, ⟨by omega, by omega⟩⟩
def ratOf (R : Raw) : Rat := Rat.divInt (zval R.b1 R.l1) (zval R.b2 R.l2)
theorem ratOf_raw (q : Rat) : ratOf (raw q) = q := by
 unfold ratOf raw
 have h4 : zval false (dg q.den) = (q.den : Int) := by unfold zval; rw [val_dg]; simp
 simp only [zval_canon, h4]
 exact Rat.num_divInt_den q
theorem raw_ratOf {R : Raw} (h : okR R = true) : R = raw (ratOf R) := by
 obtain ⟨q, rfl⟩ := okR_spec h
 rw [ratOf_raw]
theorem short_all {n : Nat} {R : Nat → Raw} (h : shortB n R = true) : n ≤ 8 ∧ ∀ i, i < n → briefB (R i) = true := by
 unfold shortB at h
 rw [Bool.and_eq_true, decide_eq_true_eq, allB_true] at h
 exact h
theorem few_all {Z : Lin} (h : fewB Z = true) : Z.m ≤ 6 ∧ (∀ i, i < Z.nl → briefB (Z.l i) = true) ∧ (∀ i, i < Z.np → briefB (Z.p i) = true) ∧ ∀ i, i < Z.m → Z.L i ≤ 4 ∧ ∀ j, j < Z.L i → briefB (Z.A i j) = true := by
 unfold fewB at h
 rw [Bool.and_eq_true, Bool.and_eq_true, Bool.and_eq_true, decide_eq_true_eq, allB_true] at h
 obtain ⟨⟨⟨h1, h2⟩, h3⟩, h4⟩ := h
 refine ⟨h1, (short_all h2).2, (short_all h3).2, fun i hi => ?_⟩
 have h5 := h4 i hi
 rw [Bool.and_eq_true, decide_eq_true_eq] at h5
 exact ⟨h5.1, (short_all h5.2).2⟩
theorem few_sz {Z : Lin} (h : fewB Z = true) : Z.m ≤ 6 ∧ LinSz Z ∧ ∀ i, i < Z.np → RawS (Z.p i) := by
 obtain ⟨h1, h2, h3, h4⟩ := few_all h
 exact ⟨h1, ⟨fun i hi j hj => (brief_raw ((h4 i hi).2 j hj)).1, fun i hi => (brief_raw (h2 i hi)).1, fun i hi => (brief_raw (h3 i hi)).1⟩, fun i hi => (brief_raw (h3 i hi)).2⟩
structure FewLin (Z : Lin) (n : Nat) (X : Nat → Nat → Rat) (y p : Nat → Rat) : Prop where
 m0 : 0 < Z.m
 m6 : Z.m ≤ 6
 n0 : 0 < n
 n4 : n ≤ 4
 L : ∀ i, i < Z.m → Z.L i = n
 eA : ∀ i, i < Z.m → ∀ j, j < n → Z.A i j = raw (X i j)
 nl : Z.nl = Z.m
 el : ∀ i, i < Z.m → Z.l i = raw (y i)
 np : Z.np = Z.m
 ep : ∀ i, i < Z.m → Z.p i = raw (p i)
 pos : ∀ i, i < Z.m → 0 < p i
 hX : HtM Z.m n 17 X
 hy : HtL Z.m 17 y
 hp : HtL Z.m 17 p
theorem rat_pos {q : Rat} (h : 0 < q.num) : 0 < q := by
 rw [Rat.lt_iff]
 simpa using h
theorem code_zero {Z : Lin} (h : codeOf Z = 0) : canonB Z = true ∧ sizeB Z = true ∧ fitB Z = true ∧ allB Z.np (fun i => posB (Z.p i)) = true := by
 unfold codeOf at h
 by_cases h1 : canonB Z = false
 ·rw [if_pos h1] at h; exact absurd h (by decide)
 rw [if_neg h1] at h
 by_cases h2 : sizeB Z = false
 ·rw [if_pos h2] at h; exact absurd h (by decide)
 rw [if_neg h2] at h
 by_cases h3 : fitB Z = false
 ·rw [if_pos h3] at h; exact absurd h (by decide)
 rw [if_neg h3] at h
 by_cases h4 : allB Z.np (fun i => posB (Z.p i)) = false
 ·rw [if_pos h4] at h; exact absurd h (by decide)
 exact ⟨by simpa using h1, by simpa using h2, by simpa using h3, by simpa using h4⟩
theorem few_lin {Z : Lin} (h : fewB Z = true) (hc : codeOf Z = 0) : FewLin Z (Z.L 0) (fun i j => ratOf (Z.A i j)) (fun i => ratOf (Z.l i)) (fun i => ratOf (Z.p i)) := by
 obtain ⟨h1, h2, h3, h4⟩ := few_all h
 obtain ⟨c1, c2, c3, c4⟩ := code_zero hc
 unfold canonB canonA at c1
 rw [Bool.and_eq_true, Bool.and_eq_true, allB_true, allB_true, allB_true] at c1
 obtain ⟨k1, k2, k3⟩ := c1
 unfold sizeB at c2
 simp only [Bool.and_eq_true, decide_eq_true_eq] at c2
 unfold fitB evenB at c3
 rw [Bool.and_eq_true, Bool.and_eq_true, allB_true, decide_eq_true_eq, decide_eq_true_eq] at c3
 obtain ⟨f1, f2, f3⟩ := c3
 have hL : ∀ i, i < Z.m → Z.L i = Z.L 0 := fun i hi => of_decide_eq_true (f1 i hi)
 rw [allB_true] at c4
 have kA : ∀ i, i < Z.m → ∀ j, j < Z.L 0 → okR (Z.A i j) = true := fun i hi j hj => allB_true.1 (k1 i hi) j (by rw [hL i hi]; exact hj)
 refine ⟨by omega, h1, by omega, (h4 0 (by omega)).1, hL, fun i hi j hj => raw_ratOf (kA i hi j hj), f2, fun i hi => raw_ratOf (k2 i (by omega)), f3, fun i hi => raw_ratOf (k3 i (by omega)), fun i hi => ?_, fun i hi j hj => ?_, fun i hi => ?_, fun i hi => ?_⟩
 ·have h5 := c4 i (by omega)
  rw [raw_ratOf (k3 i (by omega)), posB_raw, decide_eq_true_eq] at h5
  exact rat_pos h5
 ·refine brief_ht ?_
  rw [← raw_ratOf (kA i hi j hj)]
  exact (h4 i hi).2 j (by rw [hL i hi]; exact hj)
 ·refine brief_ht ?_
  rw [← raw_ratOf (k2 i (by omega))]
  exact h2 i (by omega)
 ·refine brief_ht ?_
  rw [← raw_ratOf (k3 i (by omega))]
  exact h3 i (by omega)
theorem FewLin.mem {Z : Lin} {n : Nat} {X : Nat → Nat → Rat} {y p : Nat → Rat} (f : FewLin Z n X y p) {N lo hi : Nat} {w : World} {A1 A2 A3 : Option Addr} {c1 c2 c3 : Nat} (h1 : MtR N lo hi w (.slice A1 Z.m c1) Z.m Z.L Z.A) (h2 : LsR N lo hi w (.slice A2 Z.nl c2) Z.nl Z.l) (h3 : LsR N lo hi w (.slice A3 Z.np c3) Z.np Z.p) :
  MtV N lo hi w (.slice A1 Z.m c1) Z.m n X ∧ LsV N lo hi w (.slice A2 Z.m c2) Z.m y ∧ LsV N lo hi w (.slice A3 Z.m c3) Z.m p := by
 refine ⟨MtR.congr h1 f.L (fun i hi j hj => f.eA i hi j (by rw [← f.L i hi]; exact hj)), ?_, ?_⟩
 ·rw [f.nl] at h2; exact LsR.congr h2 f.el
 ·rw [f.np] at h3; exact LsR.congr h3 f.ep
end Go.Proofs.YtghpfnhmlpfgcaaGreat
