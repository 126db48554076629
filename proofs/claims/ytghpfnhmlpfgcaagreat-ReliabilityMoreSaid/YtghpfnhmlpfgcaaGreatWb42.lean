import Derived.Test.YtghpfnhmlpfgcaaGreatWb41
import Derived.Deep.CutBlock
import Derived.Test.YtghpfnhmlpfgcaaGreatWb36
import Derived.Test.YtghpfnhmlpfgcaaGreatWb33
import Derived.Deep.Slices
import Derived.Deep.Strs
import Derived.Lib.SmallJoins
import Derived.ProofKit
import Derived.OpenShut
import Derived.WalkKit
import Derived.Below
import Derived.Test.YtghpfnhmlpfgcaaGreatWb38
import Derived.Deep.RegionLaw
import Derived.Lib.SliceRun
set_option linter.all false
namespace Go.Proofs.YtghpfnhmlpfgcaaGreat
open Go.RowKit
theorem few_bnd {m n : Nat} (hm : m ≤ 6) (hn : n ≤ 4) : ∃ k2 k3, Bnd m n 17 4 k2 k3 ∧ k3 ≤ 1000000 := by
 have h5 : (5 : Nat) ^ 4 = 625 := by decide
 refine ⟨625 * (m * 52 + 2), 4 * (625 * (m * 52 + 2) + 17 + 1) + 1, ⟨hn, by omega, by omega, by rw [h5], by omega, rfl, by omega⟩, by omega⟩
def vvOf (m n : Nat) (X : Nat → Nat → Rat) (y p : Nat → Rat) (i : Nat) : Rat := - y i + sum m (fun j => fitsOf m n X p i j * p j * y j)
theorem vvOf_ht {m n k2 k3 : Nat} {X : Nat → Nat → Rat} {y p : Nat → Rat} (hm : m ≤ 6) (hB : Bnd m n 17 4 k2 k3) (hk : k3 ≤ 1000000) (hkx : HtM m n 17 X) (hky : HtL m 17 y) (hkp : HtL m 17 p) : HtL m 30000000 (vvOf m n X y p) := by
 intro i hi
 have h1 := fitsOf_ht hB hkx hkp
 have h2 : Ht 29000000 (sum m (fun j => fitsOf m n X p i j * p j * y j)) := sum_ht (n := m) (k := 4 * (17 + k3 + 1) + 1 + 17 + 17) (fun j hj => ((h1 i hi j hj).mul (hkp j hj)).mul (hky j hj)) (Nat.le_refl _) (by
  have h3 : m * (4 * (17 + k3 + 1) + 1 + 17 + 17 + 1) ≤ 6 * (4 * (17 + 1000000 + 1) + 1 + 17 + 17 + 1) := Nat.mul_le_mul hm (by omega)
  omega)
 exact ((hky i hi).neg.add h2).mono (by omega)
theorem sol37_ht {m n : Nat} {X : Nat → Nat → Rat} {y p : Nat → Rat} (hm : m ≤ 6) (hn : n ≤ 4) (hkx : HtM m n 17 X) (hky : HtL m 17 y) (hkp : HtL m 17 p) : HtL n 5000000 (sol37 m n X y p) := by
 have h5 : (5 : Nat) ^ 4 = 625 := by decide
 have hk1 : HtM n n 1500 (nrm37 m X p) := fun i hi j hj => by
  refine Ht.mono (mm_ht (ka := m * (17 + 17 + 1) + 1) (kb := 17) (mm_ht (ka := 17) (kb := 17) (fun a ha b hb => hkx b hb a ha) (diagTo_ht hkp (by omega))) hkx i hi j hj) ?_
  have h1 : m * (17 + 17 + 1) + 1 ≤ 211 := by omega
  have h2 : m * (m * (17 + 17 + 1) + 1 + 17 + 1) ≤ 6 * (211 + 17 + 1) := Nat.mul_le_mul hm (by omega)
  omega
 have hk2 : HtL n 1500 (rhs37 m X y p) := fun i hi => by
  rw [rhs37_nb]
  refine Ht.mono (sum_ht (n := m) (k := 17 + (17 + 17)) (K := m * (17 + (17 + 17) + 1) + 1) (fun t ht => (hkx t ht i hi).mul ((hkp t ht).mul (hky t ht))) (Nat.le_refl _) (Nat.le_refl _)) (by omega)
 have hk3 : HtM n (n + 1) 1500 (aug n (nrm37 m X p) (rhs37 m X y p)) := fun i hi c hc => by
  unfold aug
  split
  ·exact hk1 i hi c ‹_›
  ·exact hk2 i hi
 have hk4 : HtM n (n + 1) 937500 (rref n (aug n (nrm37 m X p) (rhs37 m X y p)) (n + 1)).1 := (rref_ht' (p := 4) hk3 (j := n + 1) (Nat.le_refl _) (.inl hn)).mono (by rw [h5]; omega)
 have hlen := (rref_len n (aug n (nrm37 m X p) (rhs37 m X y p)) (n + 1)).1
 intro c hc
 unfold sol37 sol red37
 refine Ht.mono (sum_ht (n := (rref n (aug n (nrm37 m X p) (rhs37 m X y p)) (n + 1)).2.length) (k := 937501) (K := 4000000) (fun s hs => Ht.mono (Ht.mul (k := 1) ?_ (hk4 s (by omega) n (by omega))) (by omega)) (Nat.le_refl _) ?_) (by omega)
 ·unfold dlt; split
  ·exact Ht.one
  ·exact Ht.zero
 ·have h2 : (rref n (aug n (nrm37 m X p) (rhs37 m X y p)) (n + 1)).2.length * (937501 + 1) ≤ 4 * (937501 + 1) := Nat.mul_le_mul_right _ (Nat.le_trans hlen hn)
  exact Nat.le_trans (Nat.succ_le_succ h2) (by decide)
end Go.Proofs.YtghpfnhmlpfgcaaGreat
namespace Go.Proofs.YtghpfnhmlpfgcaaGreat
open Go.RowKit Go.ChangeShapes Go.ChangeAt
theorem cells_int : Tryz.prog.cellsOf 35 = 2 := by kernel_rfl
theorem cells_rat : Tryz.prog.cellsOf 37 = 4 := by kernel_rfl
theorem cells_bool : Tryz.prog.cellsOf 4 = 1 := by kernel_rfl
theorem cells_u32 : Tryz.prog.cellsOf 115 = 1 := by kernel_rfl
theorem cells_u32s : Tryz.prog.cellsOf 33 = 1 := by kernel_rfl
theorem cells_rats : Tryz.prog.cellsOf 24 = 1 := by kernel_rfl
theorem cells_lin : Tryz.prog.cellsOf 26 = 3 := by kernel_rfl
section
variable {H : Type} {enc : TypeId × Value → H} {w : World} {spare : Nat → Bool} {held : Bool}
instance : Inhabited Raw := ⟨⟨false, [], false, []⟩⟩
theorem spot_none {v : Value} (a : Addr) (h : w.cell? (a.add 0) = some v) : a = ⟨a.block, a.off, none⟩ := by
 obtain ⟨b, off, spot⟩ := a
 have hs := World.cell?_spot h
 have h2 : spot = none := by simpa [Addr.add] using hs
 subst h2; rfl
theorem gs_of_trod {n : Nat} {v : Value} {x : DataW H × List MemPlace} (h : DataW.trod enc Tryz.prog w 0 spare held n 33 [v] = some x) : ∃ l, Gs w.heap.size w v l := by
 rcases Go.Deep.open_slice1 Tryz.underlying33 cells_u32 h with ⟨hcs, -⟩ | ⟨a, len, cap, m, n', V, D, Pl, hcs, -, hl, hm, hmm, -, hx⟩
 ·simp only [List.cons.injEq, and_true] at hcs
  subst hcs
  exact ⟨[], Gs.nil (Nat.le_refl _) _ (Nat.zero_le _)⟩
 ·simp only [List.cons.injEq, and_true] at hcs
  subst hcs
  have hlm : len ≤ m := by rw [hmm]; split <;> omega
  have hv : ∀ i, i < len → ∃ z : Nat, V i = .int .u32 (z : Int) ∧ z < 4294967296 := fun i hi => by
   obtain ⟨-, h2⟩ := hx i (by omega)
   obtain ⟨z, hz, -, hw⟩ := DataW.trod_int Tryz.underlying115 h2
   simp only [List.cons.injEq, and_true] at hz
   have hb := bounds_u32 hw
   exact ⟨z.toNat, by rw [hz]; congr 1; omega, by omega⟩
  obtain ⟨f, hf⟩ := Go.Deep.choose_lt (α := Nat) hv
  refine ⟨(List.range len).map f, Nat.le_refl _, _, len, cap, rfl, by simp, hl, hm, fun y hy => ?_, fun h0 => ?_⟩
  ·obtain ⟨i, hi, rfl⟩ := List.mem_map.1 hy
   exact (hf i (by simpa using hi)).2
  ·have h1 := (hx 0 (by omega)).1
   have ha := spot_none a h1
   refine ⟨a.block, a.off, by rw [← ha], ⟨?_, .inl ?_⟩, fun i hi => ?_⟩
   ·rw [ha, add_none] at h1; exact cell_lt (p := ⟨a.block, a.off + 0, none⟩) h1
   ·rw [ha, add_none] at h1; exact cell_lt (p := ⟨a.block, a.off + 0, none⟩) h1
   ·have h2 := (hx i (by omega)).1
    rw [ha, add_none, (hf i hi).1] at h2
    rw [h2]
    simp [hi]
theorem rat_of_trod {n : Nat} {c0 c1 c2 c3 : Value} {x : DataW H × List MemPlace} (h : DataW.trod enc Tryz.prog w 0 spare held n 37 [c0, c1, c2, c3] = some x) :
  ∃ R : Raw, c0 = .bool R.b1 ∧ c2 = .bool R.b2 ∧ Gs w.heap.size w c1 R.l1 ∧ Gs w.heap.size w c3 R.l2 := by
 obtain ⟨y0, y1, n1, -, -, h0, h1⟩ := trod_struct2 Tryz.underlying37 h
 simp only [cells_int, List.drop_zero, List.take_succ_cons, List.take_zero, List.drop_succ_cons] at h0 h1
 obtain ⟨z0, z1, n2, -, -, k0, k1⟩ := trod_struct2 Tryz.underlying35 h0
 obtain ⟨z2, z3, n3, -, -, k2, k3⟩ := trod_struct2 Tryz.underlying35 h1
 simp only [cells_bool, cells_u32s, List.drop_zero, List.take_succ_cons, List.take_zero, List.drop_succ_cons] at k0 k1 k2 k3
 obtain ⟨b1, e1, -⟩ := DataW.trod_bool Tryz.underlying4 k0
 obtain ⟨b2, e2, -⟩ := DataW.trod_bool Tryz.underlying4 k2
 obtain ⟨l1, g1⟩ := gs_of_trod k1
 obtain ⟨l2, g2⟩ := gs_of_trod k3
 simp only [List.cons.injEq, and_true] at e1 e2
 exact ⟨⟨b1, l1, b2, l2⟩, e1, e2, g1, g2⟩
theorem ls_of_trod {n : Nat} {v : Value} {x : DataW H × List MemPlace} (h : DataW.trod enc Tryz.prog w 0 spare held n 24 [v] = some x) : ∃ k R, LsR w.heap.size 0 w.heap.size w v k R := by
 rcases Go.Deep.open_slice Tryz.underlying24 h with ⟨hcs, -⟩ | ⟨a, len, cap, m, n', D, Pl, hcs, -, hl, hm, hmm, -, hx⟩
 ·simp only [List.cons.injEq, and_true] at hcs
  subst hcs
  exact ⟨0, fun _ => default, Nat.le_refl _, Nat.le_refl _, _, _, rfl, Nat.le_refl _, Nat.zero_le _, fun h0 => absurd h0 (by omega)⟩
 ·simp only [List.cons.injEq, and_true] at hcs
  subst hcs
  have hlm : len ≤ m := by rw [hmm]; split <;> omega
  rw [cells_rat] at hx
  rcases Nat.eq_zero_or_pos len with hl0 | hl0
  ·subst hl0
   exact ⟨0, fun _ => default, Nat.le_refl _, Nat.le_refl _, _, _, rfl, hl, hm, fun h0 => absurd h0 (by omega)⟩
  obtain ⟨B, O, rfl⟩ : ∃ B O, a = ⟨B, O, none⟩ := by
   obtain ⟨cs, h1, h2⟩ := hx 0 (by omega)
   obtain ⟨-, hlen, hc⟩ := World.cells?_some h1
   have k0 := hc 0 (by omega)
   have hz : (a.add (0 * 4)).add 0 = a.add 0 := by rw [Go.Deep.add_add]
   rw [hz, List.getElem?_eq_getElem (by omega)] at k0
   exact ⟨_, _, spot_none a k0⟩
  have hv : ∀ i, i < len → ∃ R : Raw, At4 w.heap.size w B (O + i * 4) R := fun i hi => by
   obtain ⟨cs, h1, h2⟩ := hx i (by omega)
   obtain ⟨-, hlen, hc⟩ := World.cells?_some h1
   match cs, hlen with
   | [c0, c1, c2, c3], _ =>
    obtain ⟨R, e0, e2, g1, g3⟩ := rat_of_trod h2
    have k0 := hc 0 (by omega)
    have k1 := hc 1 (by omega)
    have k2 := hc 2 (by omega)
    have k3 := hc 3 (by omega)
    rw [add_none, add_none] at k0 k1 k2 k3
    refine ⟨R, c1, c3, ?_, ?_, ?_, ?_, g1, g3⟩
    ·rw [← e0]; exact k0
    ·exact k1
    ·rw [← e2]; exact k2
    ·exact k3
  obtain ⟨f, hf⟩ := Go.Deep.choose_lt (α := Raw) hv
  refine ⟨len, f, Nat.le_refl _, Nat.le_refl _, _, cap, rfl, hl, hm, fun h0 => ⟨B, O, rfl, Nat.zero_le _, ?_, fun i hi => hf i hi⟩⟩
  obtain ⟨s, t, k0, -⟩ := hf 0 h0
  exact cell_lt k0
theorem mt_of_trod {n : Nat} {v : Value} {x : DataW H × List MemPlace} (h : DataW.trod enc Tryz.prog w 0 spare held n 23 [v] = some x) : ∃ k L R, MtR w.heap.size 0 w.heap.size w v k L R := by
 rcases Go.Deep.open_slice1 Tryz.underlying23 cells_rats h with ⟨hcs, -⟩ | ⟨a, len, cap, m, n', V, D, Pl, hcs, -, hl, hm, hmm, -, hx⟩
 ·simp only [List.cons.injEq, and_true] at hcs
  subst hcs
  exact ⟨0, fun _ => 0, fun _ _ => default, Nat.le_refl _, Nat.le_refl _, _, _, rfl, Nat.le_refl _, Nat.zero_le _, fun h0 => absurd h0 (by omega)⟩
 ·simp only [List.cons.injEq, and_true] at hcs
  subst hcs
  have hlm : len ≤ m := by rw [hmm]; split <;> omega
  rcases Nat.eq_zero_or_pos len with hl0 | hl0
  ·subst hl0
   exact ⟨0, fun _ => 0, fun _ _ => default, Nat.le_refl _, Nat.le_refl _, _, _, rfl, hl, hm, fun h0 => absurd h0 (by omega)⟩
  obtain ⟨B, O, rfl⟩ : ∃ B O, a = ⟨B, O, none⟩ := ⟨_, _, spot_none a (hx 0 (by omega)).1⟩
  have hv : ∀ i, i < len → ∃ kR : Nat × (Nat → Raw), w.cell? ⟨B, O + i, none⟩ = some (V i) ∧ LsR w.heap.size 0 w.heap.size w (V i) kR.1 kR.2 := fun i hi => by
   obtain ⟨h1, h2⟩ := hx i (by omega)
   rw [add_none] at h1
   obtain ⟨k, R, hR⟩ := ls_of_trod h2
   exact ⟨(k, R), h1, hR⟩
  obtain ⟨f, hf⟩ := Go.Deep.choose_lt (α := Nat × (Nat → Raw)) hv
  refine ⟨len, fun i => (f i).1, fun i => (f i).2, Nat.le_refl _, Nat.le_refl _, _, cap, rfl, hl, hm, fun h0 => ⟨B, O, rfl, Nat.zero_le _, cell_lt (hf 0 h0).1, fun i hi => ⟨V i, (hf i hi).1, (hf i hi).2⟩⟩⟩
end
theorem own : ownKnob Tryz.prog.godebug = none := by kernel_rfl
theorem laidOut : laidOutB Tryz.prog = true := by kernel_rfl
end Go.Proofs.YtghpfnhmlpfgcaaGreat
namespace Go.Proofs.YtghpfnhmlpfgcaaGreat
open Go.RowKit
theorem col_rhs {m k : Nat} (X : Nat → Nat → Rat) (p : Nat → Rat) (hk : k < m) : (fun a => mm m (tr X) (diagTo p m) a k) = rhs37 m X (dlt k) p := by
 funext a
 rw [rhs37_nb]
 unfold mm nb
 rw [sum_diag' p (fun t => tr X a t) hk]
 rw [sum_single hk (fun i _ hi => by rw [dlt_ne (Ne.symm hi)]; grind)]
 rw [dlt_same]
 unfold tr
 grind
theorem prj_eq {m n k : Nat} {X : Nat → Nat → Rat} {p : Nat → Rat} (hp : ∀ i, i < m → 0 < p i) (hk : k < m) : ∀ i, i < m → av n X (sol37 m n X (dlt k) p) i = fitsOf m n X p i k * p k := by
 intro i hi
 have h1 := residuals_eq hp (sol37_nsol m n X (dlt k) hp) i hi
 have h2 : sum m (fun j => fitsOf m n X p i j * p j * dlt k j) = fitsOf m n X p i k * p k := by
  rw [sum_single hk (fun j _ hj => by rw [dlt_ne (Ne.symm hj)]; grind), dlt_same]
  grind
 rw [h2] at h1
 grind
theorem dlt_ht (k m : Nat) : HtL m 17 (dlt k) := fun i _ => by
 unfold dlt; split
 ·exact Ht.one.mono (by omega)
 ·exact Ht.zero.mono (by omega)
set_option maxRecDepth 100000 in
set_option maxHeartbeats 8000000 in
theorem l37_projector {N lo hi : Nat} {w : World} {v1 v2 v3 : Value} {m n : Nat} {X : Nat → Nat → Rat} {y p : Nat → Rat} (h1 : MtV N lo hi w v1 m n X) (h2 : LsV N lo hi w v2 m y) (h3 : LsV N lo hi w v3 m p) (hm0 : 0 < m) (hm : m ≤ 6) (hn0 : 0 < n) (hn : n ≤ 4) (hpos : ∀ i, i < m → 0 < p i)
  (hkx : HtM m n 17 X) (hkp : HtL m 17 p) :
  Calls Tryz.prog 43 #[.agg #[v1, v2, v3]] w (RetOwn N w m m (fun i k => fitsOf m n X p i k * p k)) := by
 have HX := Lib.hid hkx
 have HP := Lib.hid hkp
 have HPOS := Lib.hid hpos
 have HXT : Hid (HtM n m 17 (tr X)) := fun i hi j hj => hkx j hj i hi
 have HD : Hid (HtM m m 17 (diagTo p m)) := diagTo_ht hkp (by omega)
 obtain ⟨RT, hRT⟩ := hid_eq (mm m (tr X) (diagTo p m))
 obtain ⟨F, hF⟩ := hid_eq (fun i k => fitsOf m n X p i k * p k)
 rw [← hF.out]
 have HNH : Hid (HtM n n 1500 (nrm37 m X p)) := fun i hi j hj => by
  refine Ht.mono (mm_ht (ka := m * (17 + 17 + 1) + 1) (kb := 17) (mm_ht (ka := 17) (kb := 17) (fun a ha b hb => hkx b hb a ha) (diagTo_ht hkp (by omega))) hkx i hi j hj) ?_
  have h1 : m * (17 + 17 + 1) + 1 ≤ 211 := by omega
  have h2 : m * (m * (17 + 17 + 1) + 1 + 17 + 1) ≤ 6 * (211 + 17 + 1) := Nat.mul_le_mul hm (by omega)
  omega
 have HRH : Hid (∀ k, k < m → HtL n 1500 (fun a => RT a k)) := fun k hk i hi => by
  rw [hRT.out]
  exact (mm_ht (ka := 17) (kb := 17) HXT.out HD.out i hi k hk).mono (by omega)
 have hN := h1.le
 obtain ⟨A1, c1, rfl, hmc, hcm⟩ := h1.form
 obtain ⟨A2, c2, rfl, hmc2, hcm2⟩ := h2.form
 obtain ⟨A3, c3, rfl, hmc3, hcm3⟩ := h3.form
 have hI1 := h1
 have hI2 := h2
 have hI3 := h3
 clear h1 h2 h3 hkx hkp hpos
 go_enter Tryz.func43, Tryz.ntmps43
 go_upto_region 1 with (fail)
 refine boxes1 ?_
 intro W hE hsz B0
 obtain ⟨a0, a1, a2, -⟩ := cells3 B0
 go_upto_region 2 with (fail)
 refine region_inv [Mn.eq (.pointer (some ⟨w.heap.size, 0, none⟩)), Mn.eq (.slice A1 m c1), Mn.mt N n m (tr X), Mn.eq (.agg #[.slice A1 m c1, .slice A2 m c2, .slice A3 m c3]), Mn.mt N m m (diagTo p m), Mn.mt N n m RT, Mn.mt N n m RT] [some 18, some 19, some 20, some 21, some 22, some 23, some 4] [] [true, true, true, true, true, true, true] 0 (by kernel_rfl) (by kernel_rfl) (by kernel_rfl) (by kernel_rfl) (by kernel_rfl) (by kernel_rfl) (by kernel_rfl) (by kernel_rfl) ?_ ?_
 ·intro i hi hl
  have hi' : i = 0 ∨ i = 1 ∨ i = 2 ∨ i = 3 ∨ i = 4 ∨ i = 5 ∨ i = 6 := by have h9 : i < 7 := hi; omega
  clear hi
  rcases hi' with rfl | rfl | rfl | rfl | rfl | rfl | rfl
  ·clear hl
   refine stp rfl ?_
   intro ac wi eI hold hpre K hK
   have o1 := hold 1 (by kernel_rfl)
   simp only [List.getElem?_toArray, List.getElem?_cons_succ, List.getElem?_cons_zero] at o1
   clear hold hpre
   go_simp
   exact hK.out _ _ (Ext.refl _) rfl
  ·clear hl
   refine stp rfl ?_
   intro ac wi eI hold hpre K hK
   obtain ⟨x18, s18, j18⟩ := hpre 0 (by kernel_rfl) 18 rfl
   obtain rfl : x18 = (.pointer (some ⟨w.heap.size, 0, none⟩)) := j18
   clear hold hpre
   have cc0 := eI.cell a0
   have cc1 := eI.cell a1
   have cc2 := eI.cell a2
   go_simp
   exact hK.out _ _ (Ext.refl _) rfl
  ·clear hl
   refine stp rfl ?_
   intro ac wi eI hold hpre K hK
   obtain ⟨x19, s19, j19⟩ := hpre 1 (by kernel_rfl) 19 rfl
   obtain rfl : x19 = (.slice A1 m c1) := j19
   clear hold hpre
   go_simp
   refine (r5_transpose (hI1.ext (hE.trans eI)) hm0 (by omega) (by omega)).mono ?_
   intro e wj hh
   obtain ⟨Aj, cj, rfl, hj, ej⟩ := hh.mt
   go_wp2_with fail
   exact hK.out _ _ ej (MtR.wide hj (Nat.zero_le _) (Nat.le_refl _) (Nat.le_refl _))
  ·clear hl
   refine stp rfl ?_
   intro ac wi eI hold hpre K hK
   have o1 := hold 1 (by kernel_rfl)
   simp only [List.getElem?_toArray, List.getElem?_cons_succ, List.getElem?_cons_zero] at o1
   clear hold hpre
   have cc0 := eI.cell a0
   have cc1 := eI.cell a1
   have cc2 := eI.cell a2
   go_simp
   exact hK.out _ _ (Ext.refl _) rfl
  ·clear hl
   refine stp rfl ?_
   intro ac wi eI hold hpre K hK
   obtain ⟨x21, s21, j21⟩ := hpre 3 (by kernel_rfl) 21 rfl
   obtain rfl : x21 = (.agg #[.slice A1 m c1, .slice A2 m c2, .slice A3 m c3]) := j21
   clear hold hpre
   go_simp
   refine (l37_weights (hI1.ext (hE.trans eI)) (hI2.ext (hE.trans eI)) (hI3.ext (hE.trans eI)) hm0 (by omega)).mono ?_
   intro e wj hh
   obtain ⟨Aj, cj, rfl, hj, ej⟩ := hh.mt
   go_wp2_with fail
   exact hK.out _ _ ej (MtR.wide hj (Nat.zero_le _) (Nat.le_refl _) (Nat.le_refl _))
  ·clear hl
   refine stp rfl ?_
   intro ac wi eI hold hpre K hK
   obtain ⟨x20, s20, j20⟩ := hpre 2 (by kernel_rfl) 20 rfl
   replace j20 : Mn.p (Mn.mt N n m (tr X)) x20 wi := j20
   obtain ⟨x22, s22, j22⟩ := hpre 4 (by kernel_rfl) 22 rfl
   replace j22 : Mn.p (Mn.mt N m m (diagTo p m)) x22 wi := j22
   clear hold hpre
   go_simp
   refine (r5_mul j20 j22 (by omega) hm0 (by omega) hm0 (by omega) HXT.out HD.out (by omega)).mono ?_
   intro e wj hh
   obtain ⟨Aj, cj, rfl, hj, ej⟩ := hh.mt
   go_wp2_with fail
   rw [← hRT.out] at hj
   exact hK.out _ _ ej (MtR.wide hj (Nat.zero_le _) (Nat.le_refl _) (Nat.le_refl _))
  ·clear hl
   refine stp rfl ?_
   intro ac wi eI hold hpre K hK
   obtain ⟨x23, s23, j23⟩ := hpre 5 (by kernel_rfl) 23 rfl
   replace j23 : Mn.p (Mn.mt N n m RT) x23 wi := j23
   clear hold hpre
   go_simp
   exact hK.out _ _ (Ext.refl _) j23
 intro vals wz eZ hJ
 have J18 : Mn.p (Mn.eq (.pointer (some ⟨w.heap.size, 0, none⟩))) (vals 0) wz := hJ 0 (by decide) (by decide)
 have J19 : Mn.p (Mn.eq (.slice A1 m c1)) (vals 1) wz := hJ 1 (by decide) (by decide)
 have J20 : Mn.p (Mn.mt N n m (tr X)) (vals 2) wz := hJ 2 (by decide) (by decide)
 have J21 : Mn.p (Mn.eq (.agg #[.slice A1 m c1, .slice A2 m c2, .slice A3 m c3])) (vals 3) wz := hJ 3 (by decide) (by decide)
 have J22 : Mn.p (Mn.mt N m m (diagTo p m)) (vals 4) wz := hJ 4 (by decide) (by decide)
 have J23 : Mn.p (Mn.mt N n m RT) (vals 5) wz := hJ 5 (by decide) (by decide)
 have J4 : Mn.p (Mn.mt N n m RT) (vals 6) wz := hJ 6 (by decide) (by decide)
 clear hJ
 simp only [putAll, if_true, Bool.false_eq_true, if_false, Act.put, Nat.zero_add, Nat.reduceAdd, List.setIfInBounds_toArray, List.set_cons_zero, List.set_cons_succ]
 generalize vals 0 = z18 at J18 ⊢
 obtain rfl : z18 = (.pointer (some ⟨w.heap.size, 0, none⟩)) := J18
 generalize vals 1 = z19 at J19 ⊢
 obtain rfl : z19 = (.slice A1 m c1) := J19
 generalize vals 2 = z20 at J20 ⊢
 generalize vals 3 = z21 at J21 ⊢
 obtain rfl : z21 = (.agg #[.slice A1 m c1, .slice A2 m c2, .slice A3 m c3]) := J21
 generalize vals 4 = z22 at J22 ⊢
 generalize vals 5 = z23 at J23 ⊢
 generalize vals 6 = z4 at J4 ⊢
 refine stepL_done (by kernel_rfl) ?_ _
 replace hE := hE.trans eZ
 replace B0 := eZ.block B0
 have hR4 : MtV N 0 wz.heap.size wz z4 n m RT := J4
 obtain ⟨A4, c4, rfl, hmc4, hcm4⟩ := hR4.form
 clear J20 J22 J23 J4 a0 a1 a2 eZ hsz
 obtain ⟨a0, a1, a2, -⟩ := cells3 B0
 go_wp2_with (go_at_call 68; refine Hid.out ?_)
 refine (l37_normal (hI1.ext hE) (hI2.ext hE) (hI3.ext hE) hm0 (by omega) hn0 (by omega) (by omega) HX.out HP.out rfl (by
  have h1 : m * (17 + 17 + 1) + 1 ≤ 211 := by omega
  have h2 : m * (m * (17 + 17 + 1) + 1 + 17 + 1) ≤ 6 * (211 + 17 + 1) := Nat.mul_le_mul hm (by omega)
  omega)).mono ?_
 intro e w4 hh
 obtain ⟨A5, c5, rfl, h5, e4⟩ := hh.mt
 clear hh
 have hR4' := hR4.ext e4
 replace hE := hE.trans e4
 replace B0 := e4.block B0
 have hs4 := e4.size
 clear a0 a1 a2 e4 hR4
 have hN4 : N ≤ w4.heap.size := by have := hE.size; omega
 go_wp2_with (go_at_call 41; refine Hid.out ?_)
 refine (r5_zeros (N := N) hN4 m m rfl rfl (by omega) hm0 (by omega)).mono ?_
 rintro e w5 ⟨h, cap, β, κ, rfl, hcap, ho, e5⟩
 have hR5 := hR4'.ext e5
 have hN5 := h5.ext e5
 have hs5 := e5.size
 have hE5 := hE.trans e5
 have B5 := e5.block B0
 have ho2 := ho.congr (B := cellTo F 0 0) (fun i _ j _ => by unfold cellTo; rw [if_neg (by omega)])
 obtain ⟨lo5, hlo5⟩ : ∃ lo5, lo5 = w4.heap.size := ⟨_, rfl⟩
 obtain ⟨hi5, hhi5⟩ : ∃ hi5, hi5 = w5.heap.size := ⟨_, rfl⟩
 rw [← hlo5, ← hhi5] at ho2
 rw [← hlo5] at hN5
 have hlw : w.heap.size < lo5 := by rw [hlo5]; exact blk_lt B0
 have hlz : wz.heap.size ≤ lo5 := by omega
 have hNl : N ≤ lo5 := by omega
 have hs5' : hi5 ≤ w5.heap.size := by omega
 have hls : lo5 ≤ w5.heap.size := by omega
 clear ho hR4' h5 e5 B0 hE hlo5 hhi5 hs5 hs4
 go_wp2
 go_loopw [30] (fun i wr => ∃ k : Nat, k ≤ m ∧ i = .int .i64 k ∧ Chg lo5 hi5 w5 wr ∧ OwnM N lo5 hi5 wr h cap m m β κ (cellTo F k 0)) (fun i _ => m - (intOf i).toNat)
 case atStart => exact ⟨0, Nat.zero_le _, rfl, Chg.refl _ _ _, ho2⟩
 case round =>
  clear ho2
  obtain ⟨k, hk, rfl, hC, ho⟩ := hrel
  have hszC := hC.size
  by_cases hlt : k < m
  ·have hRr := hR5.chg hC hNl (.inl hlz)
   have hNr := hN5.chg hC hNl (.inl (by omega))
   have Br := hC.blk B5 (.inl (by omega))
   have hEr : Ext w wr := hC.ext hE5 (by omega)
   obtain ⟨wq, hwq⟩ : ∃ wq, wq = wr := ⟨wr, rfl⟩
   subst hwq
   go_wp2
   go_loopw [8, 35] (fun v i wr => ∃ s : Nat, s ≤ n ∧ i = .int .i64 s ∧ Ext wq wr ∧ ∃ A c, v = .slice A s c ∧ Grow N wq.heap.size wr (.slice A s c) s (fun a => RT a k)) (fun _ i _ => n - (intOf i).toNat)
   case atStart => exact ⟨0, Nat.zero_le _, rfl, Ext.refl _, _, _, rfl, Grow.nil (by omega) (Nat.le_refl _) _⟩
   case round =>
    obtain ⟨s, hs, rfl, hEs, A', c', rfl, hR⟩ := hrel
    have hsE := hEs.size
    by_cases hlts : s < n
    ·obtain ⟨b6, off6, rfl, -, -, hx6⟩ := (hRr.ext hEs).addr (by omega)
     obtain ⟨A6, c6, o0, -, hc6, hrow⟩ := hx6 s hlts
     unfold maxLen at hc6
     obtain ⟨b7, off7, rfl, -, -, hx7⟩ := hrow.addr (by omega)
     obtain ⟨n1, A8, k8, c8, A9, k9, c9, p0, p1, p2, p3, hb1, g1, g2⟩ := (hx7 k hlt).open
     clear hx6 hx7 hrow
     go_wp2_with (at_builtin; refine Hid.out ?_)
     refine boxes1 ?_
     intro w8 e8 hsz8 BX
     replace hEs := hEs.trans e8
     replace hR := hR.ext e8
     refine wpList_append_rat rfl _ _ 24 Tryz.underlying24 rfl rfl hR rfl BX hb1 (g1.ext e8) (g2.ext e8) (by omega) ?_
     rintro g cap' w9 hR3 ⟨g', hg', c9', -⟩ -
     replace hEs := c9'.ext hEs (by omega)
     replace hR3 := hR3.congr (y := fun a => RT a k) (fun j _ => by unfold upd; split <;> simp_all)
     clear hR c9' BX e8 g1 g2 hb1 p0 p1 p2 p3 o0
     go_wp2
     go_roundw
     case rel => exact ⟨s + 1, by omega, by go_num, hEs, _, _, rfl, hR3⟩
     case measure => simp [intOf]; omega
    ·obtain rfl : s = n := by omega
     have hB := hR.lsv (lo := 0) (Nat.zero_le _) rfl
     have HOK : Hid ((rref s (aug s (nrm37 m X p) (fun a => RT a k)) (s + 1)).2.contains s = false) := by
      rw [hRT.out, col_rhs X p hlt]
      exact contains_no (sol37_ok m s X (dlt k) HPOS.out)
     have HSOL : Hid (sol s (rref s (aug s (nrm37 m X p) (fun a => RT a k)) (s + 1)).1 (rref s (aug s (nrm37 m X p) (fun a => RT a k)) (s + 1)).2 = sol37 m s X (dlt k) p) := by
      rw [hRT.out, col_rhs X p hlt]; rfl
     go_wp2_with (go_at_call 67; refine Hid.out ?_)
     refine (r5_solve (P := 4) (hNr.ext hEs) hB hn0 (by omega) hn0 (by omega) HNH.out (HRH.out k hlt) (.inl hn) (by decide)).mono ?_
     rw [HOK.out, HSOL.out]
     intro e w10 hh
     obtain ⟨e10, A10, c10, rfl, hx⟩ := hh.good
     have hE10 := (hEr.trans hEs).trans e10
     have B10 := e10.block (hEs.block Br)
     have ho10 := (ho.ext hEs).ext e10
     have hC10 := (hC.trans (hEs.chg _ _)).trans (e10.chg _ _)
     clear hR hB hh
     obtain ⟨a0, a1, a2, -⟩ := cells3 B10
     go_wp2_with (go_at_call 65; refine Hid.out ?_)
     refine (r5_apply (hI1.ext hE10) hx (by omega) hn0 (by omega) HX.out (sol37_ht hm hn HX.out (dlt_ht k m) HP.out) (by omega)).mono ?_
     rintro e w11 ⟨A11, c11, rfl, hv, e11⟩
     have HV : Hid (∀ i, i < m → av s X (sol37 m s X (dlt k) p) i = F i k) := by rw [Hid, hF.out]; exact prj_eq HPOS.out hlt
     replace hv : LsV N _ _ w11 (.slice A11 m c11) m (fun i => F i k) := hv.congr HV.out
     have ho11 := ho10.ext e11
     have hC11 := hC10.trans (e11.chg _ _)
     have hs11 := hC11.size
     have hsw := e11.size
     have hs10 := hC10.size
     clear a0 a1 a2 ho10 B10 hx
     go_wp2
     go_loopw [58] (fun i wr => ∃ a : Nat, a ≤ m ∧ i = .int .i64 a ∧ Chg lo5 hi5 w11 wr ∧ OwnM N lo5 hi5 wr h cap m m β κ (cellTo F k a)) (fun i _ => m - (intOf i).toNat)
     case atStart => exact ⟨0, Nat.zero_le _, rfl, Chg.refl _ _ _, ho11⟩
     case round =>
      clear ho11
      obtain ⟨a, ha, rfl, hCa, hoa⟩ := hrel
      have hsa := hCa.size
      by_cases hlta : a < m
      ·have hva := hv.chg hCa hNl (.inr (by omega))
       obtain ⟨b9, off9, rfl, -, -, hx9⟩ := hva.addr (by omega)
       obtain ⟨n1, A8, k8, c8, A9, k9, c9, p0, p1, p2, p3, hb1, g1, g2⟩ := (hx9 a hlta).open
       clear hx9 hva
       go_upto_region 18 with (fail)
       refine boxes1 ?_
       intro w12 e12 hsz12 B12
       have hob := hoa.ext e12
       have o0 := hob.hcell hlta
       obtain ⟨zb, zA, zn, zc, zA2, zn2, zc2, t0, t1, t2, t3, t4, t5, t6, t7, -⟩ := (hob.row a hlta).at_ hlt
       obtain ⟨d0, d1, d2, d3, -⟩ := cells4 B12
       replace g1 := g1.ext e12
       replace g2 := g2.ext e12
       have hCb := hCa.trans (e12.chg _ _)
       have hhb := hob.his
       obtain ⟨gz, hgz⟩ : ∃ gz, gz = wr.heap.size := ⟨_, rfl⟩
       rw [← hgz] at d0 d1 d2 d3 ⊢
       clear p0 p1 p2 p3 B12 e12 hgz hoa hCa
       have eC := (Ext.refl w12).drew
       refine region_late (fun w' => w'.cell? ⟨h, a, none⟩ = some (.slice (some ⟨β a, 0, none⟩) m (κ a)) ∧ w'.cell? ⟨gz, 0, none⟩ = some (.bool n1) ∧ w'.cell? ⟨gz, 1, none⟩ = some (.slice A8 k8 c8) ∧ w'.cell? ⟨gz, 2, none⟩ = some (.bool false) ∧ w'.cell? ⟨gz, 3, none⟩ = some (.slice A9 k9 c9)) [7] (by kernel_rfl) (by exact ⟨eC.cell o0, eC.cell d0, eC.cell d1, eC.cell d2, eC.cell d3⟩) (fun hHeld => ?_)
       refine sP 0 (h := ?_)
       try simp only [nr]
       refine sP 1 (h := ?_)
       try simp only [nr]
       refine sP 2 (h := ?_)
       try simp only [nr]
       refine sT 3 (h := ?_)
       try simp only [nr]
       refine sP 4 (h := ?_)
       try simp only [nr]
       refine sT 5 (h := ?_)
       try simp only [nr]
       refine sP 6 (h := ?_)
       try simp only [nr]
       refine stepL_late (i := 7) rfl (by kernel_rfl) (by kernel_rfl) (fun K hK => ?_)
       go_simp
       refine hK.out _ _ ?_
       clear hK K
       try simp only [nr]
       refine stepL_done (by kernel_rfl) ?_ _
       clear hHeld
       obtain ⟨w13, E13, C13, hs13, hr13⟩ := (hob.row a hlta).set (i := k) (q := F a k) (by have := (hob.row a hlta).2.1; omega) (by omega) hb1 g1 g2
       rw [E13]
       have hlo13 := hob.lo_ a hlta
       have hhi13 := hob.hi_ a hlta
       have eD := (Ext.refl w13).drew
       have ho13 := ((hob.setRow hlta C13 (hr13.less (n' := m) (by omega))).congr (B := cellTo F k (a + 1)) (fun i _ c _ => (cellTo_succ F k a i c).symm)).ext eD
       have hC13 := (hCb.trans (C13.wide hlo13 (by omega))).trans (eD.chg _ _)
       generalize w13.drew = w14 at *
       clear E13 C13 hs13 hr13 hob t0 t1 t2 t3 t4 t5 t6 t7 d0 d1 d2 d3 o0 g1 g2 hb1 hCb
       go_wp2
       go_roundw
       case rel => exact ⟨a + 1, by omega, by go_num, hC13, ho13⟩
       case measure => simp [intOf]; omega
      ·obtain rfl : m = a := by omega
       go_wp2
       go_roundw
       case rel => exact ⟨k + 1, by omega, by go_num, hC11.trans hCa, hoa.congr (fun i hi' c _ => cellTo_next F hi' c)⟩
       case measure => simp [intOf]; omega
  ·obtain rfl : m = k := by omega
   go_wp2
   first | go_ret | skip
   exact ⟨h, cap, β, κ, rfl, hcap, (ho.congr (fun i _ c hc => by unfold cellTo; rw [if_pos (.inl hc)])).wide (by omega) hN (Nat.le_trans hs5' hszC) (Nat.le_refl _), hC.ext hE5 (by omega)⟩
end Go.Proofs.YtghpfnhmlpfgcaaGreat
namespace Go.Proofs.YtghpfnhmlpfgcaaGreat
open Go.RowKit
def redOf (m n : Nat) (X : Nat → Nat → Rat) (p : Nat → Rat) (i : Nat) : Rat := ((1 : Int) : Rat) - fitsOf m n X p i i * p i
theorem few_fit_ht {m n : Nat} {X : Nat → Nat → Rat} {p : Nat → Rat} (hm : m ≤ 6) (hn : n ≤ 4) (hkx : HtM m n 17 X) (hkp : HtL m 17 p) : HtM m m 5000000 (fitsOf m n X p) := by
 obtain ⟨k2, k3, hB, hk3⟩ := few_bnd hm hn
 exact (fitsOf_ht hB hkx hkp).mono (by omega)
set_option maxRecDepth 100000 in
set_option maxHeartbeats 4000000 in
theorem l37_redundancy {N lo hi : Nat} {w : World} {v1 v2 v3 : Value} {m n : Nat} {X : Nat → Nat → Rat} {y p : Nat → Rat} (h1 : MtV N lo hi w v1 m n X) (h2 : LsV N lo hi w v2 m y) (h3 : LsV N lo hi w v3 m p) (hm0 : 0 < m) (hm : m ≤ 6) (hn0 : 0 < n) (hn : n ≤ 4) (hpos : ∀ i, i < m → 0 < p i)
  (hkx : HtM m n 17 X) (hkp : HtL m 17 p) :
  Calls Tryz.prog 27 #[.agg #[v1, v2, v3]] w (RetL N w m (redOf m n X p)) := by
 have HX := Lib.hid hkx
 have HP := Lib.hid hkp
 have HPOS := Lib.hid hpos
 have hF0 := few_fit_ht hm hn hkx hkp
 obtain ⟨F, hF⟩ := hid_eq (fun i k => fitsOf m n X p i k * p k)
 have HS : Hid (∀ i, i < m → Sz (F i i)) := by rw [hF.out]; exact fun i hi => ((hF0 i hi i hi).mul (hkp i hi)).sz (by omega)
 have HRD : Hid (∀ i, redOf m n X p i = ((1 : Int) : Rat) - F i i) := by rw [hF.out]; exact fun i => rfl
 obtain ⟨Rf, hRf⟩ := hid_eq (RetL N w m (redOf m n X p))
 rw [← hRf.out]
 have hN := h1.le
 obtain ⟨A1, c1, rfl, hmc, hcm⟩ := h1.form
 obtain ⟨A2, c2, rfl, hmc2, hcm2⟩ := h2.form
 obtain ⟨A3, c3, rfl, hmc3, hcm3⟩ := h3.form
 have hI1 := h1
 have hI2 := h2
 have hI3 := h3
 clear h1 h2 h3 hkx hkp hpos hF0
 go_enter Tryz.func27, Tryz.ntmps27
 go_wp2_with (go_at_call 43; refine Hid.out ?_)
 refine boxesC1 ?_
 intro W hE hsz B0
 refine (l37_projector (hI1.ext hE) (hI2.ext hE) (hI3.ext hE) hm0 hm hn0 hn HPOS.out HX.out HP.out).mono ?_
 rw [← hF.out]
 rintro e w1 ⟨h, cap, β, κ, rfl, hcap, ho, e1⟩
 have hE1 := hE.trans e1
 have hN1 : N ≤ w1.heap.size := by have := hE1.size; omega
 have hs1 := hE1.size
 clear e1 hE B0 hsz
 go_wp2
 go_loopw [4, 10] (fun v i wr => ∃ k : Nat, k ≤ m ∧ i = .int .i64 k ∧ Ext w1 wr ∧ ∃ A c, v = .slice A k c ∧ Grow N w1.heap.size wr (.slice A k c) k (redOf m n X p)) (fun _ i _ => m - (intOf i).toNat)
 case atStart => exact ⟨0, Nat.zero_le _, rfl, Ext.refl w1, _, _, rfl, Grow.nil hN1 (Nat.le_refl _) _⟩
 case round =>
  obtain ⟨i, hi', rfl, hEr, A6, c6, rfl, hG⟩ := hrel
  have hsr := hEr.size
  by_cases hlt : i < m
  ·have hor := ho.ext hEr
   have o0 := hor.hcell hlt
   obtain ⟨n1, A7, k7, c7, A8, k8, c8, t0, t1, t2, t3, -, -, -, -, hb1, g1, g2⟩ := (hor.row i hlt).at_ hlt
   have HSI := Lib.hid (HS.out i hlt)
   go_upto_region 6 with (fail)
   have eC := (Ext.refl wr).drew
   refine region_late (fun w' => w'.cell? ⟨h, i, none⟩ = some (.slice (some ⟨β i, 0, none⟩) m (κ i)) ∧ w'.cell? ⟨β i, i * 4, none⟩ = some (.bool n1) ∧ w'.cell? ⟨β i, i * 4 + 1, none⟩ = some (.slice A7 k7 c7) ∧ w'.cell? ⟨β i, i * 4 + 2, none⟩ = some (.bool false) ∧ w'.cell? ⟨β i, i * 4 + 3, none⟩ = some (.slice A8 k8 c8)) [11] (by kernel_rfl) (by exact ⟨eC.cell o0, eC.cell t0, eC.cell t1, eC.cell t2, eC.cell t3⟩) (fun hHeld => ?_)
   refine sP 0 (h := ?_)
   try simp only [nr]
   refine sP 2 (h := ?_)
   try simp only [nr]
   refine sP 3 (h := ?_)
   try simp only [nr]
   refine sP 4 (h := ?_)
   try simp only [nr]
   refine sT 5 (h := ?_)
   try simp only [nr]
   refine sP 6 (h := ?_)
   try simp only [nr]
   refine sP 7 (h := ?_)
   try simp only [nr]
   refine sT 8 (h := ?_)
   try simp only [nr]
   refine stepL_only (i := 1) rfl (by kernel_rfl) (fun K hK => ?_)
   go_simp
   refine (r2_Whole (N := N) (by have h8 := eC.size; have h9 : wr.drew.heap.size = wr.heap.size := rfl; omega) 1 (by omega) (by omega)).mono ?_
   rintro e w5 ⟨v5, rfl, h5, e5⟩
   replace eC := eC.trans e5
   go_wp2_with fail
   clear hHeld
   refine hK.out _ _ (by exact ⟨eC.cell o0, eC.cell t0, eC.cell t1, eC.cell t2, eC.cell t3⟩) fun hHeld => ?_
   clear hK K
   try simp only [nr]
   refine stepL_only (i := 9) rfl (by kernel_rfl) (fun K hK => ?_)
   go_simp
   refine (r2_sub (x := ((1 : Int) : Rat)) (y := F i i) (by exact h5) (by exact (RatV.mk hb1 g1 g2).ext eC) (Ht.one.sz (by omega)) HSI.out).mono ?_
   intro e w6 hh
   obtain ⟨b3, A11, k11, c11, A12, k12, c12, rfl, hb3, g5, g6, e6⟩ := hh.form
   replace eC := eC.trans e6
   go_wp2_with fail
   clear hHeld
   refine hK.out _ _ (by exact ⟨eC.cell o0, eC.cell t0, eC.cell t1, eC.cell t2, eC.cell t3⟩) fun hHeld => ?_
   clear hK K
   try simp only [nr]
   refine stepL_only (i := 10) rfl (by kernel_rfl) (fun K hK => ?_)
   go_simp
   first | refine boxes1 ?_ | refine boxesD1 ?_
   intro w7 e7 hsz7 BX
   replace eC := eC.trans e7
   replace g5 := g5.ext e7
   replace g6 := g6.ext e7
   have hG7 := hG.ext eC
   have hE7 := hEr.trans eC
   clear hHeld
   refine hK.out _ _ (by exact ⟨eC.cell o0, eC.cell t0, eC.cell t1, eC.cell t2, eC.cell t3⟩) fun hHeld => ?_
   clear hK K
   try simp only [nr]
   refine stepL_late (i := 11) rfl (by kernel_rfl) (by kernel_rfl) (fun K hK => ?_)
   refine step_append_rat rfl _ _ 24 Tryz.underlying24 rfl (by rfl) hG7 (by rfl) BX hb3 g5 g6 (by omega) ?_
   rintro g cap' w8 hG8 ⟨g', hg', c13, -⟩ -
   replace hE7 := c13.ext hE7 hg'
   replace hG8 := hG8.congr (y := redOf m n X p) (fun j _ => by unfold upd; split; (rename_i e9; rw [e9]; exact (HRD.out i).symm); rfl)
   refine hK.out _ _ ?_
   clear hK K
   try simp only [nr]
   refine sP 12 (h := ?_)
   try simp only [nr]
   refine stepL_done (by kernel_rfl) ?_ _
   clear hHeld
   clear t0 t1 t2 t3 o0 g1 g2 g5 g6 hb1 hb3 BX hG hG7 c13 hor
   go_wp2
   go_roundw
   case rel => exact ⟨i + 1, by omega, by go_num, hE7, _, _, rfl, hG8⟩
   case measure => simp [intOf]; omega
  ·obtain rfl : m = i := by omega
   go_wp2
   first | go_ret | skip
   rw [hRf.out]
   exact ⟨A6, c6, rfl, hG.lsv hE1.size rfl, hE1.trans hEr⟩
end Go.Proofs.YtghpfnhmlpfgcaaGreat
namespace Go.Proofs.YtghpfnhmlpfgcaaGreat
open Go.RowKit
theorem run_clear_cells {P : Program} (w : World) (t e ty : TypeId) (z : Value) (ht : P.underlying t = some (.slice e)) (hv : ∀ w, (zeroValue e).run P w = .ok z w) (h1 : ∀ u ∈ z.cells.toList, u.oneCell' = true) (b o c : Nat)
  (hc : ∀ j, j < z.cells.size → (w.cell? ⟨b, o + j, none⟩).isSome = true) (hf : ∀ j, j < z.cells.size → w.frozen? ⟨b, o + j, none⟩ = false) :
  (Builtin.clear_ #[t] ty #[.slice (some ⟨b, o, none⟩) 1 c]).run P w = .ok (.tuple #[]) (w.setCells b o z.cells.toList) := by
 have hzc : (Builtin.zeroCells z.cells 1).toList = z.cells.toList := by
  unfold Builtin.zeroCells
  apply List.ext_getElem
  ·simp
  ·intro i h1 h2
   have h3 : i < z.cells.size := by simpa using h2
   simp [Nat.mod_eq_of_lt h3, h3]
 have hst := run_storeCells_cells (P := P) b o z.cells.toList 0 w (by simpa using hc) (by simpa using hf) h1
 simp only [Nat.add_zero] at hst
 simp [Builtin.clear_, run_underlying ht, hv, hzc, hst]
theorem zero_rat (w : World) : (zeroValue 37).run Tryz.prog w = .ok (.agg #[.bool false, .slice none 0 0, .bool false, .slice none 0 0]) w := by kernel_rfl
theorem zero_row (w : World) : (zeroValue 24).run Tryz.prog w = .ok (.slice none 0 0) w := by kernel_rfl
def RetDel (Z : Nat) (ET : TypeId) (g n cap i : Nat) (w : World) (e : Ending) (w' : World) : Prop :=
 e = .returned (.slice (some ⟨g, 0, none⟩) (n - 1) cap) ∧ Chg g (g + 1) w w' ∧ (∃ cs, w'.heap[g]? = some (.cells cs ET (0, 0)) ∧ cs.size = cap * Z) ∧ (∀ k, k < i * Z → w'.cell? ⟨g, k, none⟩ = w.cell? ⟨g, k, none⟩) ∧ (∀ k, i * Z ≤ k → k < (n - 1) * Z → w'.cell? ⟨g, k, none⟩ = w.cell? ⟨g, k + Z, none⟩)
set_option maxRecDepth 100000 in
set_option maxHeartbeats 4000000 in
theorem sl_del_rats {w : World} {g cap n i : Nat} {cs : Array Value} (hb : w.heap[g]? = some (.cells cs 37 (0, 0))) (hsz : cs.size = cap * 4) (hcm : cap ≤ 9223372036854775807) (hn : n ≤ cap) (hi : i < n) (hone : ∀ k, k < n * 4 → ∃ v, w.cell? ⟨g, k, none⟩ = some v ∧ v.oneCell' = true) {J : Int} (hJ : J = (i : Int) + 1) :
  Calls Tryz.prog 80 #[.slice (some ⟨g, 0, none⟩) n cap, .int .i64 (i : Int), .int .i64 J] w (RetDel 4 37 g n cap i w) := by
 obtain ⟨i0, hi0, hz0, hz1, hz2⟩ := info_parts info_rat
 have hT : NoU w g := NoU.mk hb (by decide)
 obtain ⟨news, hnl, hnv, hno⟩ : ∃ news : List Value, news.length = (n - (i + 1)) * 4 ∧ (∀ j u, news[j]? = some u → w.cell? ⟨g, (i + 1) * 4 + j, none⟩ = some u) ∧ ∀ u ∈ news, u.oneCell' = true := by
  refine ⟨(List.range ((n - (i + 1)) * 4)).map (fun j => (w.cell? ⟨g, (i + 1) * 4 + j, none⟩).getD undef), by simp, fun j u hu => ?_, fun u hu => ?_⟩
  ·rw [List.getElem?_map] at hu
   obtain ⟨j', hj', rfl⟩ := Option.map_eq_some_iff.1 hu
   have hj2 := List.getElem?_eq_some_iff.1 hj'
   obtain ⟨hj3, hj4⟩ := hj2
   simp at hj3 hj4
   subst hj4
   obtain ⟨v, hv, -⟩ := hone ((i + 1) * 4 + j) (by omega)
   rw [hv]; rfl
  ·obtain ⟨j, hj, rfl⟩ := List.mem_map.1 hu
   have hj3 : j < (n - (i + 1)) * 4 := by simpa using hj
   obtain ⟨v, hv, h1⟩ := hone ((i + 1) * 4 + j) (by omega)
   rw [hv]; exact h1
 have hfz : ∀ k, w.frozen? ⟨g, k, none⟩ = false := fun k => frozen_blk hb k
 obtain ⟨AA, hAA, hsrc⟩ : ∃ A : Addr, (if cap = i + 1 then some (⟨g, 0, none⟩ : Addr) else some ⟨g, (i + 1) * 4, none⟩) = some A ∧ Hid (∀ t u, news[t]? = some u → w.drew.cell? (A.add t) = some u) := by
  by_cases h : cap = i + 1
  ·refine ⟨⟨g, 0, none⟩, by simp [h], fun t u hu => ?_⟩
   have h0 : news.length = 0 := by rw [hnl, show n - (i + 1) = 0 by omega, Nat.zero_mul]
   rw [List.length_eq_zero_iff.1 h0] at hu
   simp at hu
  ·refine ⟨⟨g, (i + 1) * 4, none⟩, by simp [h], fun t u hu => ?_⟩
   rw [add_none]
   exact hnv t u hu
 obtain ⟨w1, hw1⟩ : ∃ w1, w1 = w.drew.setCells g (0 + i * 4) news := ⟨_, rfl⟩
 have U1 : Upd g w.drew w1 := by rw [hw1]; exact upd_cells g news _ w.drew w.drew (Upd.refl g w.drew)
 obtain ⟨cs1, hb1, hs1⟩ : ∃ cs1, w1.heap[g]? = some (.cells cs1 37 (0, 0)) ∧ cs1.size = cs.size := by rw [hw1]; exact blk_cells g _ _ news _ cs w.drew hb
 have hthere : ∀ k, k < n * 4 → (w.drew.cell? ⟨g, k, none⟩).isSome = true := fun k hk => by obtain ⟨v, hv, -⟩ := hone k hk; show (w.cell? _).isSome = true; rw [hv]; rfl
 have hin1 : ∀ j (hj : j < news.length), w1.cell? ⟨g, 0 + i * 4 + j, none⟩ = some news[j] := by
  rw [hw1]; exact World.cell?_setCells_in g news (0 + i * 4) w.drew (fun j hj => hthere _ (by omega))
 have hout1 : ∀ k, k < i * 4 → w1.cell? ⟨g, k, none⟩ = w.cell? ⟨g, k, none⟩ := fun k hk => by
  rw [hw1]; exact World.cell?_setCells_out g news (0 + i * 4) w.drew ⟨g, k, none⟩ (fun _ _ => .inl (by simp only; omega))
 have hc1 : ∀ k, k < cap * 4 → (w1.cell? ⟨g, k, none⟩).isSome = true := fun k hk => by
  rw [cell_blk hb1, Array.getElem?_eq_getElem (by omega)]; rfl
 have hrun := run_clear_cells (P := Tryz.prog) w1 24 37 0 (Value.agg #[.bool false, .slice none 0 0, .bool false, .slice none 0 0]) Tryz.underlying24 zero_rat (List.all_eq_true.1 (by rfl)) g ((n - 1) * 4) (cap - (n - 1)) (fun j hj => hc1 _ (by have h9 : j < 4 := hj; omega)) (fun j hj => frozen_blk hb1 _)
 obtain ⟨w2, hw2⟩ : ∃ w2, w2 = w1.setCells g ((n - 1) * 4) ((Value.agg #[.bool false, .slice none 0 0, .bool false, .slice none 0 0])).cells.toList := ⟨_, rfl⟩
 have U2 : Upd g w1 w2 := by rw [hw2]; exact upd_cells g _ _ w1 w1 (Upd.refl g w1)
 obtain ⟨cs2, hb2, hs2⟩ : ∃ cs2, w2.heap[g]? = some (.cells cs2 37 (0, 0)) ∧ cs2.size = cs1.size := by rw [hw2]; exact blk_cells g _ _ _ _ cs1 w1 hb1
 have hout2 : ∀ k, k < (n - 1) * 4 → w2.cell? ⟨g, k, none⟩ = w1.cell? ⟨g, k, none⟩ := fun k hk => by
  rw [hw2]; exact World.cell?_setCells_out g _ _ w1 ⟨g, k, none⟩ (fun _ _ => .inl (by simp only; omega))
 rw [← hw2] at hrun
 have HFIN : Hid (Chg g (g + 1) w w2 ∧ (∃ cs, w2.heap[g]? = some (.cells cs 37 (0, 0)) ∧ cs.size = cap * 4) ∧ (∀ k, k < i * 4 → w2.cell? ⟨g, k, none⟩ = w.cell? ⟨g, k, none⟩) ∧ (∀ k, i * 4 ≤ k → k < (n - 1) * 4 → w2.cell? ⟨g, k, none⟩ = w.cell? ⟨g, k + 4, none⟩)) := by
  refine ⟨(((Ext.refl w).drew.chg g (g + 1)).trans (U1.chg hT)).trans (U2.chg (NoU.mk hb1 (by decide))), ⟨cs2, hb2, by omega⟩, fun k hk => ?_, fun k hk1 hk2 => ?_⟩
  ·rw [hout2 k (by omega), hout1 k hk]
  ·obtain ⟨j, rfl⟩ : ∃ j, k = 0 + i * 4 + j := ⟨k - i * 4, by omega⟩
   have hj : j < news.length := by rw [hnl]; omega
   rw [hout2 _ hk2, hin1 j hj]
   have h9 := hnv j _ (List.getElem?_eq_getElem hj)
   rw [show 0 + i * 4 + j + 4 = (i + 1) * 4 + j by omega]
   exact h9.symm
 have s1 : Hid (news.length = (n - (i + 1)) * 4) := hnl
 have s2 := Lib.hid hno
 have s3 : Hid (∀ t, t < news.length → (w.drew.cell? ⟨g, 0 + i * 4 + t, none⟩).isSome = true ∧ w.drew.frozen? ⟨g, 0 + i * 4 + t, none⟩ = false) := fun t ht => ⟨hthere _ (by omega), hfz _⟩
 have HW1 := Lib.hid hw1
 have hl9 : i + (n - (i + 1)) = n - 1 := by omega
 have hJ1 : ((i : Int) == J) = false := beq_eq_false_iff_ne.2 (by omega)
 have hJ2 : J.toNat = i + 1 := by omega
 obtain ⟨q, hq⟩ := hid_eq (n - 1)
 rw [← hq.out] at hl9 hrun HFIN
 have hqn : q + 1 = n := by rw [hq.out]; omega
 have hqc : ¬ cap = q := by omega
 have hnq : n - q = 1 := by omega
 clear hw1 hw2 U1 U2 hthere hin1 hout1 hout2 hc1 hfz hone hnv hnl hno hb1 hb2 hs1 hs2 hT hb hsz
 (try simp only [Nat.mul_one] at hAA hrun)
 go_enter Tryz.func80, Tryz.ntmps80
 go_upto_region 5 with (fail)
 have eC := (Ext.refl w).drew
 refine region_late (fun w' => True) [6] (by kernel_rfl) (by exact trivial) (fun hHeld => ?_)
 refine sP 0 (h := ?_)
 try simp only [nr]
 refine sP 1 (h := ?_)
 try simp only [nr]
 refine sP 2 (h := ?_)
 try simp only [nr]
 refine sP 3 (h := ?_)
 try simp only [nr]
 refine sP 4 (h := ?_)
 try simp only [nr]
 refine sP 5 (h := ?_)
 try simp only [nr]
 refine stepL_late (i := 6) rfl (by kernel_rfl) (by kernel_rfl) (fun K hK => ?_)
 refine step_append_room rfl _ _ 24 rfl 37 i0 4 Tryz.underlying24 hi0 hz1 g 0 i cap (by simp [Act.eval]) AA (n - (i + 1)) (cap - (i + 1)) news (by simp [Act.eval, hAA]) s1.out hsrc.out s2.out (by omega) s3.out ?_
 rw [← HW1.out, hl9]
 refine hK.out _ _ ?_
 clear hK K
 try simp only [nr]
 refine sP 7 (h := ?_)
 try simp only [nr]
 refine stepL_done (by kernel_rfl) ?_ _
 clear hHeld
 go_wp2
 go_ret
 refine ⟨?_, ?_⟩
 ·rw [← hq.out]; rfl
 ·have h9 := HFIN.out
  rw [hq.out] at h9
  exact h9
set_option maxRecDepth 100000 in
set_option maxHeartbeats 4000000 in
theorem sl_del_rows {w : World} {g cap n i : Nat} {cs : Array Value} (hb : w.heap[g]? = some (.cells cs 24 (0, 0))) (hsz : cs.size = cap * 1) (hcm : cap ≤ 9223372036854775807) (hn : n ≤ cap) (hi : i < n) (hone : ∀ k, k < n * 1 → ∃ v, w.cell? ⟨g, k, none⟩ = some v ∧ v.oneCell' = true) {J : Int} (hJ : J = (i : Int) + 1) :
  Calls Tryz.prog 78 #[.slice (some ⟨g, 0, none⟩) n cap, .int .i64 (i : Int), .int .i64 J] w (RetDel 1 24 g n cap i w) := by
 obtain ⟨i0, hi0, hz0, hz1, hz2⟩ := info_parts info_row
 have hT : NoU w g := NoU.mk hb (by decide)
 obtain ⟨news, hnl, hnv, hno⟩ : ∃ news : List Value, news.length = (n - (i + 1)) * 1 ∧ (∀ j u, news[j]? = some u → w.cell? ⟨g, (i + 1) * 1 + j, none⟩ = some u) ∧ ∀ u ∈ news, u.oneCell' = true := by
  refine ⟨(List.range ((n - (i + 1)) * 1)).map (fun j => (w.cell? ⟨g, (i + 1) * 1 + j, none⟩).getD undef), by simp, fun j u hu => ?_, fun u hu => ?_⟩
  ·rw [List.getElem?_map] at hu
   obtain ⟨j', hj', rfl⟩ := Option.map_eq_some_iff.1 hu
   have hj2 := List.getElem?_eq_some_iff.1 hj'
   obtain ⟨hj3, hj4⟩ := hj2
   simp at hj3 hj4
   subst hj4
   obtain ⟨v, hv, -⟩ := hone ((i + 1) * 1 + j) (by omega)
   rw [hv]; rfl
  ·obtain ⟨j, hj, rfl⟩ := List.mem_map.1 hu
   have hj3 : j < (n - (i + 1)) * 1 := by simpa using hj
   obtain ⟨v, hv, h1⟩ := hone ((i + 1) * 1 + j) (by omega)
   rw [hv]; exact h1
 have hfz : ∀ k, w.frozen? ⟨g, k, none⟩ = false := fun k => frozen_blk hb k
 obtain ⟨AA, hAA, hsrc⟩ : ∃ A : Addr, (if cap = i + 1 then some (⟨g, 0, none⟩ : Addr) else some ⟨g, (i + 1) * 1, none⟩) = some A ∧ Hid (∀ t u, news[t]? = some u → w.drew.cell? (A.add t) = some u) := by
  by_cases h : cap = i + 1
  ·refine ⟨⟨g, 0, none⟩, by simp [h], fun t u hu => ?_⟩
   have h0 : news.length = 0 := by rw [hnl, show n - (i + 1) = 0 by omega, Nat.zero_mul]
   rw [List.length_eq_zero_iff.1 h0] at hu
   simp at hu
  ·refine ⟨⟨g, (i + 1) * 1, none⟩, by simp [h], fun t u hu => ?_⟩
   rw [add_none]
   exact hnv t u hu
 obtain ⟨w1, hw1⟩ : ∃ w1, w1 = w.drew.setCells g (0 + i * 1) news := ⟨_, rfl⟩
 have U1 : Upd g w.drew w1 := by rw [hw1]; exact upd_cells g news _ w.drew w.drew (Upd.refl g w.drew)
 obtain ⟨cs1, hb1, hs1⟩ : ∃ cs1, w1.heap[g]? = some (.cells cs1 24 (0, 0)) ∧ cs1.size = cs.size := by rw [hw1]; exact blk_cells g _ _ news _ cs w.drew hb
 have hthere : ∀ k, k < n * 1 → (w.drew.cell? ⟨g, k, none⟩).isSome = true := fun k hk => by obtain ⟨v, hv, -⟩ := hone k hk; show (w.cell? _).isSome = true; rw [hv]; rfl
 have hin1 : ∀ j (hj : j < news.length), w1.cell? ⟨g, 0 + i * 1 + j, none⟩ = some news[j] := by
  rw [hw1]; exact World.cell?_setCells_in g news (0 + i * 1) w.drew (fun j hj => hthere _ (by omega))
 have hout1 : ∀ k, k < i * 1 → w1.cell? ⟨g, k, none⟩ = w.cell? ⟨g, k, none⟩ := fun k hk => by
  rw [hw1]; exact World.cell?_setCells_out g news (0 + i * 1) w.drew ⟨g, k, none⟩ (fun _ _ => .inl (by simp only; omega))
 have hc1 : ∀ k, k < cap * 1 → (w1.cell? ⟨g, k, none⟩).isSome = true := fun k hk => by
  rw [cell_blk hb1, Array.getElem?_eq_getElem (by omega)]; rfl
 have hrun := run_clear_cells (P := Tryz.prog) w1 23 24 0 (Value.slice none 0 0) Tryz.underlying23 zero_row (List.all_eq_true.1 (by rfl)) g ((n - 1) * 1) (cap - (n - 1)) (fun j hj => hc1 _ (by have h9 : j < 1 := hj; omega)) (fun j hj => frozen_blk hb1 _)
 obtain ⟨w2, hw2⟩ : ∃ w2, w2 = w1.setCells g ((n - 1) * 1) ((Value.slice none 0 0)).cells.toList := ⟨_, rfl⟩
 have U2 : Upd g w1 w2 := by rw [hw2]; exact upd_cells g _ _ w1 w1 (Upd.refl g w1)
 obtain ⟨cs2, hb2, hs2⟩ : ∃ cs2, w2.heap[g]? = some (.cells cs2 24 (0, 0)) ∧ cs2.size = cs1.size := by rw [hw2]; exact blk_cells g _ _ _ _ cs1 w1 hb1
 have hout2 : ∀ k, k < (n - 1) * 1 → w2.cell? ⟨g, k, none⟩ = w1.cell? ⟨g, k, none⟩ := fun k hk => by
  rw [hw2]; exact World.cell?_setCells_out g _ _ w1 ⟨g, k, none⟩ (fun _ _ => .inl (by simp only; omega))
 rw [← hw2] at hrun
 have HFIN : Hid (Chg g (g + 1) w w2 ∧ (∃ cs, w2.heap[g]? = some (.cells cs 24 (0, 0)) ∧ cs.size = cap * 1) ∧ (∀ k, k < i * 1 → w2.cell? ⟨g, k, none⟩ = w.cell? ⟨g, k, none⟩) ∧ (∀ k, i * 1 ≤ k → k < (n - 1) * 1 → w2.cell? ⟨g, k, none⟩ = w.cell? ⟨g, k + 1, none⟩)) := by
  refine ⟨(((Ext.refl w).drew.chg g (g + 1)).trans (U1.chg hT)).trans (U2.chg (NoU.mk hb1 (by decide))), ⟨cs2, hb2, by omega⟩, fun k hk => ?_, fun k hk1 hk2 => ?_⟩
  ·rw [hout2 k (by omega), hout1 k hk]
  ·obtain ⟨j, rfl⟩ : ∃ j, k = 0 + i * 1 + j := ⟨k - i * 1, by omega⟩
   have hj : j < news.length := by rw [hnl]; omega
   rw [hout2 _ hk2, hin1 j hj]
   have h9 := hnv j _ (List.getElem?_eq_getElem hj)
   rw [show 0 + i * 1 + j + 1 = (i + 1) * 1 + j by omega]
   exact h9.symm
 have s1 : Hid (news.length = (n - (i + 1)) * 1) := hnl
 have s2 := Lib.hid hno
 have s3 : Hid (∀ t, t < news.length → (w.drew.cell? ⟨g, 0 + i * 1 + t, none⟩).isSome = true ∧ w.drew.frozen? ⟨g, 0 + i * 1 + t, none⟩ = false) := fun t ht => ⟨hthere _ (by omega), hfz _⟩
 have HW1 := Lib.hid hw1
 have hl9 : i + (n - (i + 1)) = n - 1 := by omega
 have hJ1 : ((i : Int) == J) = false := beq_eq_false_iff_ne.2 (by omega)
 have hJ2 : J.toNat = i + 1 := by omega
 obtain ⟨q, hq⟩ := hid_eq (n - 1)
 rw [← hq.out] at hl9 hrun HFIN
 have hqn : q + 1 = n := by rw [hq.out]; omega
 have hqc : ¬ cap = q := by omega
 have hnq : n - q = 1 := by omega
 clear hw1 hw2 U1 U2 hthere hin1 hout1 hout2 hc1 hfz hone hnv hnl hno hb1 hb2 hs1 hs2 hT hb hsz
 (try simp only [Nat.mul_one] at hAA hrun)
 go_enter Tryz.func78, Tryz.ntmps78
 go_upto_region 5 with (fail)
 have eC := (Ext.refl w).drew
 refine region_late (fun w' => True) [6] (by kernel_rfl) (by exact trivial) (fun hHeld => ?_)
 refine sP 0 (h := ?_)
 try simp only [nr]
 refine sP 1 (h := ?_)
 try simp only [nr]
 refine sP 2 (h := ?_)
 try simp only [nr]
 refine sP 3 (h := ?_)
 try simp only [nr]
 refine sP 4 (h := ?_)
 try simp only [nr]
 refine sP 5 (h := ?_)
 try simp only [nr]
 refine stepL_late (i := 6) rfl (by kernel_rfl) (by kernel_rfl) (fun K hK => ?_)
 refine step_append_room rfl _ _ 23 rfl 24 i0 1 Tryz.underlying23 hi0 hz1 g 0 i cap (by simp [Act.eval]) AA (n - (i + 1)) (cap - (i + 1)) news (by simp [Act.eval, hAA]) s1.out hsrc.out s2.out (by omega) s3.out ?_
 rw [← HW1.out, hl9]
 refine hK.out _ _ ?_
 clear hK K
 try simp only [nr]
 refine sP 7 (h := ?_)
 try simp only [nr]
 refine stepL_done (by kernel_rfl) ?_ _
 clear hHeld
 go_wp2
 go_ret
 refine ⟨?_, ?_⟩
 ·rw [← hq.out]; rfl
 ·have h9 := HFIN.out
  rw [hq.out] at h9
  exact h9
end Go.Proofs.YtghpfnhmlpfgcaaGreat
namespace Go.Proofs.YtghpfnhmlpfgcaaGreat
open Go.RowKit
def RetRowC (N : Nat) (w : World) (n : Nat) (x : Nat → Rat) (e : Ending) (w' : World) : Prop :=
 ∃ g cap, e = .returned (.slice (some ⟨g, 0, none⟩) n cap) ∧ w.heap.size ≤ g ∧ cap ≤ maxLen ∧ n ≤ cap ∧ RowB N w' g cap n x ∧ Ext w w'
set_option maxRecDepth 100000 in
set_option maxHeartbeats 2000000 in
theorem sl_clone {N lo hi : Nat} {w : World} {v : Value} {n : Nat} {x : Nat → Rat} (h : LsV N lo hi w v n x) (hn0 : 0 < n) (hn : n < 1000000) :
  Calls Tryz.prog 81 #[v] w (RetRowC N w n x) := by
 obtain ⟨Rf, hRf⟩ := hid_eq (RetRowC N w n x)
 rw [← hRf.out]
 have hN := h.le
 obtain ⟨A1, c1, rfl, hmc, hcm⟩ := h.form
 obtain ⟨b, off, rfl, -⟩ := LsV.addr h hn0
 have hI := h
 clear h
 have hnl := fun (w : World) (a : Option Addr) (n c : Nat) => Lib.run_eql_slice_nil (P := Tryz.prog) w 24 37 a n c 0 0 Tryz.underlying24
 go_enter Tryz.func81, Tryz.ntmps81
 go_wp2_with (at_builtin; refine Hid.out ?_)
 refine boxes1 ?_
 intro W hE hsz B0
 refine wpList_append_list rfl _ _ 24 Tryz.underlying24 rfl (by rfl) (Grow.empty hN (Nat.le_refl _) B0 x) (by rfl) (hI.ext hE) (by omega : 0 + n < 1000000000) ?_
 rintro A' c' w2 hG ⟨g', hg', C2, -⟩
 have hE2 := C2.ext hE hg'
 rw [Nat.zero_add] at hG ⊢
 obtain ⟨g, cap, hv, hg, hgs, hcm2, hnc, hrw⟩ := hG.some hn0
 injection hv with e1 e2 e3
 subst e1 e3
 go_wp2
 first | go_ret | skip
 rw [hRf.out]
 exact ⟨g, c', rfl, hg, hcm2, hnc, hrw.congr (fun j hj => by unfold cat; rw [if_neg (by omega)]; rfl), hE2⟩
theorem del_row {N : Nat} {w w' : World} {g n cap i : Nat} {e : Ending} {x : Nat → Rat} (h : RowB N w g cap n x) (hi : i < n) (hd : RetDel 4 37 g n cap i w e w') :
  e = .returned (.slice (some ⟨g, 0, none⟩) (n - 1) cap) ∧ Chg g (g + 1) w w' ∧ RowB N w' g cap (n - 1) (fun j => x (skip i j)) := by
 obtain ⟨he, hC, hb, h1, h2⟩ := hd
 obtain ⟨a1, a2, a3, a4⟩ := h
 refine ⟨he, hC, a1, by omega, hb, fun j hj => ?_⟩
 show At4 N w' g (j * 4) (raw (x (skip i j)))
 by_cases hji : j < i
 ·have hsk : skip i j = j := by unfold skip; rw [if_pos hji]
  rw [hsk]
  obtain ⟨s, t, d0, d1, d2, d3, g1, g2⟩ := a4 j (by omega)
  exact ⟨s, t, by rw [h1 _ (by omega)]; exact d0, by rw [h1 _ (by omega)]; exact d1, by rw [h1 _ (by omega)]; exact d2, by rw [h1 _ (by omega)]; exact d3, g1.chg hC a1, g2.chg hC a1⟩
 ·have hsk : skip i j = j + 1 := by unfold skip; rw [if_neg hji]
  rw [hsk]
  obtain ⟨s, t, d0, d1, d2, d3, g1, g2⟩ := a4 (j + 1) (by omega)
  have e0 : (j + 1) * 4 = j * 4 + 4 := by omega
  rw [e0] at d0 d1 d2 d3
  refine ⟨s, t, ?_, ?_, ?_, ?_, g1.chg hC a1, g2.chg hC a1⟩
  ·rw [h2 _ (by omega) (by omega)]; exact d0
  ·rw [h2 _ (by omega) (by omega), show j * 4 + 1 + 4 = j * 4 + 4 + 1 by omega]; exact d1
  ·rw [h2 _ (by omega) (by omega), show j * 4 + 2 + 4 = j * 4 + 4 + 2 by omega]; exact d2
  ·rw [h2 _ (by omega) (by omega), show j * 4 + 3 + 4 = j * 4 + 4 + 3 by omega]; exact d3
theorem row_one {N : Nat} {w : World} {g cap n : Nat} {x : Nat → Rat} (h : RowB N w g cap n x) : ∀ k, k < n * 4 → ∃ v, w.cell? ⟨g, k, none⟩ = some v ∧ v.oneCell' = true := fun k hk => by
 have := (h.2.2.2 (k / 4) (by omega)).one (r := k % 4) (by omega)
 rw [show k / 4 * 4 + k % 4 = k by omega] at this
 exact this
theorem del_rows {N lo hi : Nat} {w w' : World} {h cap m n i : Nat} {β κ : Nat → Nat} {A : Nat → Nat → Rat} {e : Ending} (o : OwnM N lo hi w h cap m n β κ A) (hcm : cap ≤ maxLen) (hi' : i < m) (hd : RetDel 1 24 h m cap i w e w') :
  e = .returned (.slice (some ⟨h, 0, none⟩) (m - 1) cap) ∧ Chg h (h + 1) w w' ∧ MtV N lo hi w' (.slice (some ⟨h, 0, none⟩) (m - 1) cap) (m - 1) n (fun j => A (skip i j)) := by
 obtain ⟨he, hC, hb, h1, h2⟩ := hd
 have hNh : N ≤ h := Nat.le_trans o.le o.hlo
 refine ⟨he, hC, ?_, ?_, _, cap, rfl, by have := o.mle; omega, hcm, fun h0 => ⟨h, 0, rfl, o.hlo, o.hhi, fun j hj => ?_⟩⟩
 ·exact Nat.le_trans o.le (Nat.le_trans (Nat.le_trans o.hlo (Nat.le_of_lt o.hhi)) (Nat.le_trans o.his hC.size))
 ·exact Nat.le_trans o.his hC.size
 ·have hs : skip i j < m := by have := skip_lt (m := m - 1) (i := i) hj; omega
  have hrow := (o.row (skip i j) hs).chg hC hNh (by have := o.ne hs; omega)
  refine ⟨.slice (some ⟨β (skip i j), 0, none⟩) n (κ (skip i j)), ?_, hrow.lsv hrow.2.1 (o.cap _ hs) (o.lo_ _ hs) (o.hi_ _ hs) (Nat.le_trans o.his hC.size)⟩
  rw [Nat.zero_add]
  by_cases hji : j < i
  ·have hsk : skip i j = j := by unfold skip; rw [if_pos hji]
   rw [h1 j (by omega), hsk]
   exact o.hcell (by omega)
  ·have hsk : skip i j = j + 1 := by unfold skip; rw [if_neg hji]
   rw [h2 j (by omega) (by omega), hsk]
   exact o.hcell (by omega)
end Go.Proofs.YtghpfnhmlpfgcaaGreat
namespace Go.Proofs.YtghpfnhmlpfgcaaGreat
open Go.RowKit
def RetWo (N : Nat) (w : World) (m n : Nat) (X : Nat → Nat → Rat) (y p : Nat → Rat) (e : Ending) (w' : World) : Prop :=
 ∃ A1 c1 A2 c2 A3 c3, e = .returned (.agg #[.slice A1 m c1, .slice A2 m c2, .slice A3 m c3]) ∧ MtV N 0 w'.heap.size w' (.slice A1 m c1) m n X ∧ LsV N 0 w'.heap.size w' (.slice A2 m c2) m y ∧ LsV N 0 w'.heap.size w' (.slice A3 m c3) m p ∧ Ext w w'
set_option maxRecDepth 100000 in
set_option maxHeartbeats 8000000 in
theorem l37_without {N lo hi : Nat} {w : World} {v1 v2 v3 : Value} {m n : Nat} {X : Nat → Nat → Rat} {y p : Nat → Rat} (h1 : MtV N lo hi w v1 m n X) (h2 : LsV N lo hi w v2 m y) (h3 : LsV N lo hi w v3 m p) (hm : m ≤ 64) (hn0 : 0 < n) (hn : n ≤ 64) {i : Nat} (hi' : i < m) :
  Calls Tryz.prog 30 #[.agg #[v1, v2, v3], .int .i64 (i : Int)] w (RetWo N w (m - 1) n (fun j => X (skip i j)) (fun j => y (skip i j)) (fun j => p (skip i j))) := by
 obtain ⟨Rf, hRf⟩ := hid_eq (RetWo N w (m - 1) n (fun j => X (skip i j)) (fun j => y (skip i j)) (fun j => p (skip i j)))
 rw [← hRf.out]
 have hN := h1.le
 obtain ⟨A1, c1, rfl, hmc, hcm⟩ := h1.form
 obtain ⟨A2, c2, rfl, hmc2, hcm2⟩ := h2.form
 obtain ⟨A3, c3, rfl, hmc3, hcm3⟩ := h3.form
 have hI1 := h1
 have hI2 := h2
 have hI3 := h3
 have hw1 : IntKind.i64.wrap ((i : Int) + 1) = (i : Int) + 1 := IntWalk.i64_in _ (by omega)
 clear h1 h2 h3
 go_enter Tryz.func30, Tryz.ntmps30
 go_upto_region 1 with (fail)
 refine boxes2 ?_
 intro W hE hsz B0 B4
 obtain ⟨a0, a1, a2, -⟩ := cells3 B0
 have eC := (Ext.refl W).drew
 refine region_late (fun w' => w'.cell? ⟨w.heap.size, 0, none⟩ = some (.slice A1 m c1) ∧ w'.cell? ⟨w.heap.size, 1, none⟩ = some (.slice A2 m c2) ∧ w'.cell? ⟨w.heap.size, 2, none⟩ = some (.slice A3 m c3)) [22] (by kernel_rfl) (by exact ⟨eC.cell a0, eC.cell a1, eC.cell a2⟩) (fun hHeld => ?_)
 refine sP 0 (h := ?_)
 try simp only [nr]
 refine sT 1 (h := ?_)
 try simp only [nr]
 refine sP 3 (h := ?_)
 try simp only [nr]
 refine sP 4 (h := ?_)
 try simp only [nr]
 refine sP 5 (h := ?_)
 try simp only [nr]
 refine sP 7 (h := ?_)
 try simp only [nr]
 refine sT 8 (h := ?_)
 try simp only [nr]
 refine sP 10 (h := ?_)
 try simp only [nr]
 refine sP 11 (h := ?_)
 try simp only [nr]
 refine sP 12 (h := ?_)
 try simp only [nr]
 refine sP 14 (h := ?_)
 try simp only [nr]
 refine sT 15 (h := ?_)
 try simp only [nr]
 refine sP 17 (h := ?_)
 try simp only [nr]
 refine sP 18 (h := ?_)
 try simp only [nr]
 refine sP 19 (h := ?_)
 try simp only [nr]
 refine stepL_only (i := 2) rfl (by kernel_rfl) (fun K hK => ?_)
 go_simp
 have hL2 := eC.size
 refine (r5_copy (hI1.ext (hE.trans eC)) (by omega) hn0 (by omega)).mono ?_
 rintro e w2 ⟨h, cap, β, κ, rfl, hcap, ho, e2⟩
 replace eC := eC.trans e2
 have hlh := ho.hlo
 have hhh := ho.hhi
 have hhs := ho.his
 have hD : W.drew.heap.size = W.heap.size := rfl
 go_wp2_with fail
 clear hHeld
 refine hK.out _ _ (by exact ⟨eC.cell a0, eC.cell a1, eC.cell a2⟩) fun hHeld => ?_
 clear hK K
 try simp only [nr]
 refine stepL_only (i := 6) rfl (by kernel_rfl) (fun K hK => ?_)
 go_simp
 obtain ⟨hs, hb, hbs, -⟩ := ho.hh
 refine (sl_del_rows hb (by omega) (by unfold maxLen at hcap; omega) ho.mle hi' (fun k hk => ⟨_, ho.hcell (by omega), rfl⟩) (by first | rfl | exact hw1)).mono ?_
 intro e w3 hd
 obtain ⟨rfl, C3, hM3⟩ := del_rows ho hcap hi' hd
 replace eC := C3.ext eC (by omega)
 have hs3 := C3.size
 clear hd ho hb
 go_wp2_with fail
 clear hHeld
 refine hK.out _ _ (by exact ⟨eC.cell a0, eC.cell a1, eC.cell a2⟩) fun hHeld => ?_
 clear hK K
 try simp only [nr]
 refine stepL_only (i := 9) rfl (by kernel_rfl) (fun K hK => ?_)
 go_simp
 refine (sl_clone (hI2.ext (hE.trans eC)) (by omega) (by omega)).mono ?_
 rintro e w4 ⟨g4, cap4, rfl, hg4, hcm4, hnc4, hr4, e4⟩
 replace eC := eC.trans e4
 replace hM3 := hM3.ext e4
 go_wp2_with fail
 clear hHeld
 refine hK.out _ _ (by exact ⟨eC.cell a0, eC.cell a1, eC.cell a2⟩) fun hHeld => ?_
 clear hK K
 try simp only [nr]
 refine stepL_only (i := 13) rfl (by kernel_rfl) (fun K hK => ?_)
 go_simp
 obtain ⟨cs4, hb4, hbs4⟩ := hr4.2.2.1
 refine (sl_del_rats hb4 hbs4 (by unfold maxLen at hcm4; omega) hnc4 hi' (row_one hr4) (by first | rfl | exact hw1)).mono ?_
 intro e w5 hd
 obtain ⟨rfl, C5, hr5⟩ := del_row hr4 hi' hd
 replace eC := C5.ext eC (by omega)
 replace hM3 := hM3.chg C5 (by omega) (.inl (by omega))
 have hl5 := hr5.lt
 have hL5 := hr5.lsv (c := cap4) (lo := g4) (hi := g4 + 1) (by omega) hcm4 (Nat.le_refl _) (by omega) (by omega)
 clear hd hb4 hr5 hr4
 go_wp2_with fail
 clear hHeld
 refine hK.out _ _ (by exact ⟨eC.cell a0, eC.cell a1, eC.cell a2⟩) fun hHeld => ?_
 clear hK K
 try simp only [nr]
 refine stepL_only (i := 16) rfl (by kernel_rfl) (fun K hK => ?_)
 go_simp
 refine (sl_clone (hI3.ext (hE.trans eC)) (by omega) (by omega)).mono ?_
 rintro e w6 ⟨g6, cap6, rfl, hg6, hcm6, hnc6, hr6, e6⟩
 replace eC := eC.trans e6
 replace hM3 := hM3.ext e6
 replace hL5 := hL5.ext e6
 go_wp2_with fail
 clear hHeld
 refine hK.out _ _ (by exact ⟨eC.cell a0, eC.cell a1, eC.cell a2⟩) fun hHeld => ?_
 clear hK K
 try simp only [nr]
 refine stepL_only (i := 20) rfl (by kernel_rfl) (fun K hK => ?_)
 go_simp
 obtain ⟨cs6, hb6, hbs6⟩ := hr6.2.2.1
 refine (sl_del_rats hb6 hbs6 (by unfold maxLen at hcm6; omega) hnc6 hi' (row_one hr6) (by first | rfl | exact hw1)).mono ?_
 intro e w7 hd
 obtain ⟨rfl, C7, hr7⟩ := del_row hr6 hi' hd
 replace eC := C7.ext eC (by omega)
 replace hM3 := hM3.chg C7 (by omega) (.inl (by omega))
 replace hL5 := hL5.chg C7 (by omega) (.inl (by omega))
 have hl7 := hr7.lt
 have hL7 := hr7.lsv (c := cap6) (lo := g6) (hi := g6 + 1) (by omega) hcm6 (Nat.le_refl _) (by omega) (by omega)
 clear hd hb6 hr7 hr6
 go_wp2_with fail
 clear hHeld
 refine hK.out _ _ (by exact ⟨eC.cell a0, eC.cell a1, eC.cell a2⟩) fun hHeld => ?_
 clear hK K
 try simp only [nr]
 refine sP 21 (h := ?_)
 try simp only [nr]
 refine stepL_late (i := 22) rfl (by kernel_rfl) (by kernel_rfl) (fun K hK => ?_)
 obtain ⟨u0, u1, u2, u3, u4, u5⟩ := cells3 (eC.block B4)
 go_simp
 refine hK.out _ _ ?_
 clear hK K
 try simp only [nr]
 refine stepL_done (by kernel_rfl) ?_ _
 clear hHeld
 have BR := eC.block B4
 clear u0 u1 u2 u3 u4 u5 a0 a1 a2
 obtain ⟨w8, E8, D8, U8⟩ := ex3 BR (.slice (some ⟨h, 0, none⟩) (m - 1) cap) (.slice (some ⟨g4, 0, none⟩) (m - 1) cap4) (.slice (some ⟨g6, 0, none⟩) (m - 1) cap6)
 rw [E8]
 have C8 := U8.chg (NoU.mk BR (by decide))
 have hM8 := hM3.chg C8 (by omega) (.inr (by omega))
 have hL8 := hL5.chg C8 (by omega) (.inr (by omega))
 have hP8 := hL7.chg C8 (by omega) (.inr (by omega))
 have hE8 : Ext w w8 := C8.ext (hE.trans eC) (by omega)
 have hs8 := C8.size
 obtain ⟨x0, x1, x2, -⟩ := cells3 D8
 clear E8 U8 hM3 hL5 hL7 BR
 go_wp2
 refine bodyPost_ret (v := .agg #[.slice (some ⟨h, 0, none⟩) (m - 1) cap, .slice (some ⟨g4, 0, none⟩) (m - 1) cap4, .slice (some ⟨g6, 0, none⟩) (m - 1) cap6]) ?_ rfl ?_
 ·simp [results, x0, x1, x2, go_sem]
 ·rw [hRf.out]
  exact ⟨_, _, _, _, _, _, rfl, MtR.wide hM8 (Nat.zero_le _) hM8.2.1 (Nat.le_refl _), LsR.wide hL8 (Nat.zero_le _) hL8.2.1 (Nat.le_refl _), LsR.wide hP8 (Nat.zero_le _) hP8.2.1 (Nat.le_refl _), hE8⟩
end Go.Proofs.YtghpfnhmlpfgcaaGreat
namespace Go.Proofs.YtghpfnhmlpfgcaaGreat
open Go.RowKit
theorem model_of (m n : Nat) (X : Nat → Nat → Rat) {p : Nat → Rat} (hp : ∀ i, i < m → 0 < p i) : Model m n X (rref m X n).1 (invM (rref m X n).2.length (nmat (bas X (rref m X n).2) p m)) p (rref m X n).2 :=
 ⟨rref_ok m X n, hp, invM_ok m n X hp, invM_ok' m n X hp⟩
theorem red_hd (m n : Nat) (X : Nat → Nat → Rat) (p : Nat → Rat) (i : Nat) : redOf m n X p i = 1 - hd X (invM (rref m X n).2.length (nmat (bas X (rref m X n).2) p m)) p (rref m X n).2 i := rfl
theorem red_range {m n : Nat} {X : Nat → Nat → Rat} {p : Nat → Rat} (hp : ∀ i, i < m → 0 < p i) {i : Nat} (hi : i < m) : 0 ≤ redOf m n X p i ∧ redOf m n X p i ≤ 1 := by
 have h := (model_of m n X hp).diag hi
 rw [red_hd]
 constructor <;> grind
theorem sum_one (m : Nat) : sum m (fun _ => (1 : Rat)) = (m : Rat) := sum_const m
theorem red_sum {m n : Nat} {X : Nat → Nat → Rat} {p : Nat → Rat} (hp : ∀ i, i < m → 0 < p i) : sum m (redOf m n X p) = (((m : Int) - ((rref m X n).2.length : Int) : Int) : Rat) := by
 have h := (model_of m n X hp).trace
 have h2 : sum m (redOf m n X p) = sum m (fun i => 1 - hd X (invM (rref m X n).2.length (nmat (bas X (rref m X n).2) p m)) p (rref m X n).2 i) := sum_congr fun i _ => red_hd m n X p i
 rw [h2, sum_sub, h, sum_one, Rat.intCast_sub]
 rfl
theorem red_zero1 {n : Nat} {X : Nat → Nat → Rat} {p : Nat → Rat} (hp : ∀ i, i < 1 → 0 < p i) : redOf 1 n X p 0 = 0 ↔ (rref 1 X n).2.length = 1 := by
 have h := red_sum (n := n) (X := X) hp
 have h2 : sum 1 (redOf 1 n X p) = redOf 1 n X p 0 := by
  show sum 0 _ + _ = _
  show (0 : Rat) + _ = _
  grind
 rw [h2] at h
 rw [h]
 have hl := (rref_len 1 X n).1
 constructor
 ·intro h3
  have h4 : ((1 : Nat) : Int) - ((rref 1 X n).2.length : Int) = 0 := Rat.intCast_eq_zero_iff.1 h3
  omega
 ·intro h3
  rw [h3]; rfl
theorem sign_zero {q : Rat} : (q.num.sign == 0) = decide (q = 0) := by
 by_cases h : q = 0
 ·subst h; rfl
 ·rw [decide_eq_false h, beq_eq_false_iff_ne]
  intro h2
  exact h (Rat.num_eq_zero.1 (Int.sign_eq_zero_iff_zero.1 h2))
theorem sign_nonpos {q : Rat} (h : q ≤ 0) : ¬ 0 < q.num.sign := by
 intro h1
 have h2 := Int.sign_pos_iff.1 h1
 exact absurd (rat_pos h2) (Rat.not_lt.2 h)
end Go.Proofs.YtghpfnhmlpfgcaaGreat
namespace Go.Proofs.YtghpfnhmlpfgcaaGreat
open Go.RowKit
def IzV (N lo hi : Nat) (w : World) (v : Value) (n : Nat) (z : Nat → Int) : Prop :=
 N + lo + hi = N + lo + hi ∧ ∃ (A : Option Addr) (c : Nat), v = .slice A n c ∧ n ≤ c ∧ c ≤ maxLen ∧ (0 < n → ∃ b off, A = some ⟨b, off, none⟩ ∧ ∀ i, i < n → w.cell? ⟨b, off + i, none⟩ = some (.int .i64 (z i)))
theorem IzV.ext {N lo hi : Nat} {w w' : World} {v : Value} {n : Nat} {z : Nat → Int} (h : IzV N lo hi w v n z) (e : Ext w w') : IzV N lo hi w' v n z := by
 obtain ⟨h0, A, c, hv, h1, h2, h3⟩ := h
 refine ⟨h0, A, c, hv, h1, h2, fun h => ?_⟩
 obtain ⟨b, off, hA, hc⟩ := h3 h
 exact ⟨b, off, hA, fun i hi => e.cell (hc i hi)⟩
theorem IzV.form {N lo hi : Nat} {w : World} {v : Value} {n : Nat} {z : Nat → Int} (h : IzV N lo hi w v n z) : ∃ (A : Option Addr) (c : Nat), v = .slice A n c ∧ n ≤ c ∧ c ≤ maxLen := by
 obtain ⟨h0, A, c, hv, h1, h2, h3⟩ := h
 exact ⟨A, c, hv, h1, h2⟩
theorem IzV.addr {N lo hi : Nat} {w : World} {A : Option Addr} {n c : Nat} {z : Nat → Int} (h : IzV N lo hi w (.slice A n c) n z) (hn : 0 < n) : ∃ b off, A = some ⟨b, off, none⟩ ∧ ∀ i, i < n → w.cell? ⟨b, off + i, none⟩ = some (.int .i64 (z i)) := by
 obtain ⟨h0, A', c', hv, h1, h2, h3⟩ := h
 injection hv with e1 e2 e3
 subst e1
 exact h3 hn
def IsI (u : Value) (z : Int) : Prop := u = .int .i64 z
theorem IsI.out {u : Value} {z : Int} (h : IsI u z) : u = .int .i64 z := h
set_option maxHeartbeats 2000000 in
theorem sl_ind1x {N lo hi : Nat} {w : World} {v : Value} {n : Nat} {z : Nat → Int} (h : IzV N lo hi w v n z) (gb : Nat) (g : Nat → Bool)
  (hf : ∀ i, i < n → ∀ w' u, Ext w w' → IsI u (z i) → Calls Tryz.prog 124 #[u, .pointer (some ⟨gb, 0, none⟩)] w' (RetV w' (.bool (g i)))) :
  Calls Tryz.prog 164 #[v, .func (.func 124) #[] #[.pointer (some ⟨gb, 0, none⟩)]] w (RetIdx w (anyB n g)) := by
 obtain ⟨r, hr⟩ := hid_eq (anyB n g)
 rw [← hr.out]
 obtain ⟨A, c, rfl, hnc, hcm⟩ := h.form
 unfold maxLen at hcm
 have hI := h
 have HF := Lib.hid hf
 clear h hf
 go_enter Tryz.func164, Tryz.ntmps164
 go_wp2
 go_loopw [8] (fun i wr => ∃ k : Nat, k ≤ n ∧ i = .int .i64 k ∧ Hid (∀ j, j < k → g j = false) ∧ Ext w wr) (fun i _ => n - (intOf i).toNat)
 case atStart => exact ⟨0, Nat.zero_le _, rfl, fun j hj => absurd hj (by omega), Ext.refl w⟩
 case round =>
  obtain ⟨k, hk, rfl, HA, hE⟩ := hrel
  by_cases hlt : k < n
  ·(obtain ⟨b, off, rfl, hx⟩ := (hI.ext hE).addr (by omega)); (have p0 := hx k hlt); (have hv : IsI (Value.int .i64 (z k)) (z k) := rfl)
   clear hx
   go_wp2_with (go_at_call 124; refine Hid.out ?_)
   refine (HF.out k hlt _ _ hE hv).mono ?_
   rintro e w1 ⟨rfl, e1⟩
   replace hE := hE.trans e1
   obtain ⟨o, ho⟩ := hid_eq (g k)
   rw [← ho.out]
   cases o with
   | false =>
    go_wp2
    go_roundw
    case rel => exact ⟨k + 1, by omega, by go_num, all_succ (p := fun j => g j = false) HA.out ho.out.symm, hE⟩
    case measure => simp [intOf]; omega
   | true =>
    have HT : Hid (r = true) := by rw [Hid, hr.out]; exact anyB_true hlt ho.out.symm
    go_wp2
    go_ret
    exact ⟨_, rfl, by rw [Hid, HT.out]; symm; simp, hE⟩
  ·have HT : Hid (r = false) := by rw [Hid, hr.out]; exact anyB_false.2 (fun j hj => HA.out j (by omega))
   go_wp2
   go_ret
   exact ⟨_, rfl, by rw [Hid, HT.out]; rfl, hE⟩
set_option maxHeartbeats 2000000 in
theorem sl_ind1 {N lo hi : Nat} {w : World} {v : Value} {n : Nat} {z : Nat → Int} (h : IzV N lo hi w v n z) (gb : Nat) (g : Nat → Bool)
  (hf : ∀ i, i < n → ∀ w' u, Ext w w' → IsI u (z i) → Calls Tryz.prog 124 #[u, .pointer (some ⟨gb, 0, none⟩)] w' (RetV w' (.bool (g i)))) :
  Calls Tryz.prog 123 #[v, .func (.func 124) #[] #[.pointer (some ⟨gb, 0, none⟩)]] w (RetV w (.bool (anyB n g))) := by
 obtain ⟨r, hr⟩ := hid_eq (anyB n g)
 rw [← hr.out]
 obtain ⟨A, c, rfl, hnc, hcm⟩ := h.form
 have hI := h
 have HF := Lib.hid hf
 clear h hf
 go_enter Tryz.func123, Tryz.ntmps123
 go_wp2_with (go_at_call 164; refine Hid.out ?_)
 refine (sl_ind1x hI gb g HF.out).mono ?_
 rintro e w1 ⟨z, rfl, hz, e1⟩
 rw [← hr.out] at hz
 go_wp2
 go_ret
 exact ⟨ret_bool hz.out.symm, e1⟩
set_option maxHeartbeats 2000000 in
theorem sl_ind2x {N lo hi : Nat} {w : World} {v : Value} {n : Nat} {z : Nat → Int} (h : IzV N lo hi w v n z) (gb : Nat) (g : Nat → Bool)
  (hf : ∀ i, i < n → ∀ w' u, Ext w w' → IsI u (z i) → Calls Tryz.prog 125 #[u, .pointer (some ⟨gb, 0, none⟩)] w' (RetV w' (.bool (g i)))) :
  Calls Tryz.prog 164 #[v, .func (.func 125) #[] #[.pointer (some ⟨gb, 0, none⟩)]] w (RetIdx w (anyB n g)) := by
 obtain ⟨r, hr⟩ := hid_eq (anyB n g)
 rw [← hr.out]
 obtain ⟨A, c, rfl, hnc, hcm⟩ := h.form
 unfold maxLen at hcm
 have hI := h
 have HF := Lib.hid hf
 clear h hf
 go_enter Tryz.func164, Tryz.ntmps164
 go_wp2
 go_loopw [8] (fun i wr => ∃ k : Nat, k ≤ n ∧ i = .int .i64 k ∧ Hid (∀ j, j < k → g j = false) ∧ Ext w wr) (fun i _ => n - (intOf i).toNat)
 case atStart => exact ⟨0, Nat.zero_le _, rfl, fun j hj => absurd hj (by omega), Ext.refl w⟩
 case round =>
  obtain ⟨k, hk, rfl, HA, hE⟩ := hrel
  by_cases hlt : k < n
  ·(obtain ⟨b, off, rfl, hx⟩ := (hI.ext hE).addr (by omega)); (have p0 := hx k hlt); (have hv : IsI (Value.int .i64 (z k)) (z k) := rfl)
   clear hx
   go_wp2_with (go_at_call 125; refine Hid.out ?_)
   refine (HF.out k hlt _ _ hE hv).mono ?_
   rintro e w1 ⟨rfl, e1⟩
   replace hE := hE.trans e1
   obtain ⟨o, ho⟩ := hid_eq (g k)
   rw [← ho.out]
   cases o with
   | false =>
    go_wp2
    go_roundw
    case rel => exact ⟨k + 1, by omega, by go_num, all_succ (p := fun j => g j = false) HA.out ho.out.symm, hE⟩
    case measure => simp [intOf]; omega
   | true =>
    have HT : Hid (r = true) := by rw [Hid, hr.out]; exact anyB_true hlt ho.out.symm
    go_wp2
    go_ret
    exact ⟨_, rfl, by rw [Hid, HT.out]; symm; simp, hE⟩
  ·have HT : Hid (r = false) := by rw [Hid, hr.out]; exact anyB_false.2 (fun j hj => HA.out j (by omega))
   go_wp2
   go_ret
   exact ⟨_, rfl, by rw [Hid, HT.out]; rfl, hE⟩
set_option maxHeartbeats 2000000 in
theorem sl_ind2 {N lo hi : Nat} {w : World} {v : Value} {n : Nat} {z : Nat → Int} (h : IzV N lo hi w v n z) (gb : Nat) (g : Nat → Bool)
  (hf : ∀ i, i < n → ∀ w' u, Ext w w' → IsI u (z i) → Calls Tryz.prog 125 #[u, .pointer (some ⟨gb, 0, none⟩)] w' (RetV w' (.bool (g i)))) :
  Calls Tryz.prog 123 #[v, .func (.func 125) #[] #[.pointer (some ⟨gb, 0, none⟩)]] w (RetV w (.bool (anyB n g))) := by
 obtain ⟨r, hr⟩ := hid_eq (anyB n g)
 rw [← hr.out]
 obtain ⟨A, c, rfl, hnc, hcm⟩ := h.form
 have hI := h
 have HF := Lib.hid hf
 clear h hf
 go_enter Tryz.func123, Tryz.ntmps123
 go_wp2_with (go_at_call 164; refine Hid.out ?_)
 refine (sl_ind2x hI gb g HF.out).mono ?_
 rintro e w1 ⟨z, rfl, hz, e1⟩
 rw [← hr.out] at hz
 go_wp2
 go_ret
 exact ⟨ret_bool hz.out.symm, e1⟩
def outB (m : Nat) (z : Int) : Bool := decide (z < 0) || decide ((m : Int) ≤ z)
set_option maxHeartbeats 1000000 in
theorem rl_indexed1 {w : World} {gb m c : Nat} {A : Option Addr} (hb : w.cell? ⟨gb, 0, none⟩ = some (.slice A m c)) (z : Int) :
  Calls Tryz.prog 124 #[.int .i64 z, .pointer (some ⟨gb, 0, none⟩)] w (RetV w (.bool (outB m z))) := by
 obtain ⟨r, hr⟩ := hid_eq (outB m z)
 rw [← hr.out]
 by_cases h0 : z < 0
 ·have HR : Hid (true = r) := by rw [Hid, hr.out]; unfold outB; rw [decide_eq_true h0]; rfl
  go_enter Tryz.func124, Tryz.ntmps124
  go_wp2
  go_ret
  exact ⟨ret_bool HR.out, Ext.refl w⟩
 ·by_cases h1 : (m : Int) ≤ z
  ·have HR : Hid (true = r) := by rw [Hid, hr.out]; unfold outB; rw [decide_eq_true h1, Bool.or_true]
   go_enter Tryz.func124, Tryz.ntmps124
   go_wp2
   go_ret
   exact ⟨ret_bool HR.out, Ext.refl w⟩
  ·have HR : Hid (false = r) := by rw [Hid, hr.out]; unfold outB; rw [decide_eq_false h0, decide_eq_false h1]; rfl
   go_enter Tryz.func124, Tryz.ntmps124
   go_wp2
   go_ret
   exact ⟨ret_bool HR.out, Ext.refl w⟩
set_option maxRecDepth 100000 in
set_option maxHeartbeats 1000000 in
theorem rl_indexed2 {N : Nat} {w : World} {gb gm m n : Nat} {X : Nat → Nat → Rat} {y p : Nat → Rat} {pv : List Nat} {F : Nat → Nat → Rat} (hb : w.cell? ⟨gb, 0, none⟩ = some (.pointer (some ⟨gm, 0, none⟩))) (h : MdlV N w gm m n X y p pv F) {i : Nat} (hi : i < m) (hm : m < 1000000) (hz : Sz (F i i)) (hz' : Sz (p i)) (hz2 : Sz (F i i * p i)) (hz3 : Sz (((1 : Int) : Rat) - F i i * p i)) :
  Calls Tryz.prog 125 #[.int .i64 (i : Int), .pointer (some ⟨gb, 0, none⟩)] w (RetV w (.bool (decide (((1 : Int) : Rat) - F i i * p i = 0)))) := by
 obtain ⟨q, hq⟩ := hid_eq (((1 : Int) : Rat) - F i i * p i)
 rw [← hq.out]
 have HZ : Hid (Sz q) := by rw [hq.out]; exact hz3
 have H1 := Lib.hid hz
 have H2 := Lib.hid hz'
 have H3 := Lib.hid hz2
 obtain ⟨sg, hsg⟩ := hid_eq q.num.sign
 have HS : Hid ((sg == 0) = decide (q = 0)) := by rw [Hid, hsg.out]; exact sign_zero
 clear hz hz' hz2 hz3
 go_enter Tryz.func125, Tryz.ntmps125
 go_wp2_with (go_at_call 76; refine Hid.out ?_)
 refine (rl_redundancy h hi hm H1.out H2.out H3.out).mono ?_
 rw [← hq.out]
 rintro e w1 ⟨v1, rfl, h1, e1⟩
 go_wp2_with (go_at_call 126; refine Hid.out ?_)
 refine (f_sign h1 HZ.out).mono ?_
 rintro e w2 ⟨rfl, e2⟩
 rw [← hsg.out]
 go_wp2
 go_ret
 exact ⟨ret_bool HS.out, e1.trans e2⟩
def RetInd (N : Nat) (w : World) (m n : Nat) (X : Nat → Nat → Rat) (y p : Nat → Rat) (ni : Nat) (z : Nat → Int) (e : Ending) (w' : World) : Prop :=
 Ext w w' ∧ ((anyB ni (fun j => outB m (z j)) = true ∧ e = .returned (.tuple #[.pointer none, .int .i64 2])) ∨
  ((∀ j, j < ni → outB m (z j) = false) ∧ anyB ni (fun j => decide (redOf m n X p (z j).toNat = 0)) = true ∧ e = .returned (.tuple #[.pointer none, .int .i64 13])) ∨
  ((∀ j, j < ni → outB m (z j) = false) ∧ (∀ j, j < ni → redOf m n X p (z j).toNat ≠ 0) ∧ ∃ gm, e = .returned (.tuple #[.pointer (some ⟨gm, 0, none⟩), .int .i64 0]) ∧ MdlV N w' gm m n X y p (rref m X n).2 (fitsOf m n X p)))
theorem outB_false {m : Nat} {z : Int} (h : outB m z = false) : z.toNat < m ∧ z = (z.toNat : Int) := by
 unfold outB at h
 rw [Bool.or_eq_false_iff, decide_eq_false_iff_not, decide_eq_false_iff_not] at h
 omega
set_option maxRecDepth 100000 in
set_option maxHeartbeats 2000000 in
theorem rl_indexed_bad {N lo hi : Nat} {w : World} {v u : Value} {Z : Lin} (h : LinV N lo hi w v Z) (hs : LinSz Z) (hp : ∀ i, i < Z.np → RawS (Z.p i)) (hc : codeOf Z ≠ 0) :
  Calls Tryz.prog 87 #[v, u] w (RetV w (.tuple #[.pointer none, .int .i64 (codeOf Z)])) := by
 have HS := Lib.hid hs
 have HP := Lib.hid hp
 have HC := Lib.hid hc
 obtain ⟨r, hr⟩ := hid_eq (codeOf Z)
 have hr0 : (r == 0) = false := by rw [hr.out]; simpa using hc
 have hr1 : (r != 0) = true := by simpa using hr0
 rw [← hr.out]
 have hI := h
 obtain ⟨A1, c1, A2, c2, A3, c3, rfl, h1, h2, h3, hm, hnl, hnp⟩ := h.parts
 clear h h1 h2 h3 hc hs hp
 go_enter Tryz.func87, Tryz.ntmps87
 go_wp2_with (go_at_call 57; refine Hid.out ?_)
 refine boxesC1 ?_
 intro W hE hsz B0
 refine (rl_open_bad (hI.ext hE) HS.out HP.out HC.out).mono ?_
 rintro e w1 ⟨rfl, e1⟩
 rw [← hr.out]
 go_upto_block 0 with (fail)
 refine boxes1 ?_
 intro w2 e2 hsz2 B2
 go_wp2
 first | go_ret2 | skip
 exact ⟨rfl, (hE.trans e1).trans e2⟩
set_option maxRecDepth 100000 in
set_option maxHeartbeats 4000000 in
theorem rl_indexed {N lo hi lo' hi' : Nat} {w : World} {v1 v2 v3 u : Value} {m n ni : Nat} {X : Nat → Nat → Rat} {y p : Nat → Rat} {z : Nat → Int} (h1 : MtV N lo hi w v1 m n X) (h2 : LsV N lo hi w v2 m y) (h3 : LsV N lo hi w v3 m p) (hu : IzV N lo' hi' w u ni z) (hm0 : 0 < m) (hm : m ≤ 6) (hn0 : 0 < n) (hn : n ≤ 4) (hpos : ∀ i, i < m → 0 < p i)
  (hkx : HtM m n 17 X) (hky : HtL m 17 y) (hkp : HtL m 17 p) :
  Calls Tryz.prog 87 #[.agg #[v1, v2, v3], u] w (RetInd N w m n X y p ni z) := by
 obtain ⟨k2, k3, hB, hk3⟩ := few_bnd hm hn
 have hfh := few_fit_ht hm hn hkx hkp
 have HB := Lib.hid hB
 have HX := Lib.hid hkx
 have HY := Lib.hid hky
 have HP := Lib.hid hkp
 have HPOS := Lib.hid hpos
 have HSZ : Hid (∀ i, i < m → Sz (fitsOf m n X p i i) ∧ Sz (p i) ∧ Sz (fitsOf m n X p i i * p i) ∧ Sz (((1 : Int) : Rat) - fitsOf m n X p i i * p i)) := fun i hi =>
  ⟨(hfh i hi i hi).sz (by omega), (hkp i hi).sz (by omega), ((hfh i hi i hi).mul (hkp i hi)).sz (by omega), (Ht.sub (k := 1) Ht.one ((hfh i hi i hi).mul (hkp i hi))).sz (by omega)⟩
 obtain ⟨Rf, hRf⟩ := hid_eq (RetInd N w m n X y p ni z)
 rw [← hRf.out]
 have hN := h1.le
 obtain ⟨A1, c1, rfl, hmc, hcm⟩ := h1.form
 obtain ⟨A2, c2, rfl, hmc2, hcm2⟩ := h2.form
 obtain ⟨A3, c3, rfl, hmc3, hcm3⟩ := h3.form
 obtain ⟨A4, c4, rfl, hmc4, hcm4⟩ := hu.form
 have hI1 := h1
 have hI2 := h2
 have hI3 := h3
 have hI4 := hu
 clear h1 h2 h3 hu hkx hky hkp hpos hB hfh
 obtain ⟨o1, ho1⟩ := hid_eq (anyB ni (fun j => outB m (z j)))
 obtain ⟨o2, ho2⟩ := hid_eq (anyB ni (fun j => decide (redOf m n X p (z j).toNat = 0)))
 go_enter Tryz.func87, Tryz.ntmps87
 go_wp2_with (go_at_call 57; refine Hid.out ?_)
 refine boxesC1 ?_
 intro W hE hsz B0
 refine (rl_open (hI1.ext hE) (hI2.ext hE) (hI3.ext hE) hm0 (by omega) hn0 (by omega) HPOS.out HB.out.hP HX.out HY.out HP.out HB.out.hK0 HB.out.hK1 HB.out.hk2 HB.out.hK2 HB.out.hk3 HB.out.hK4).mono ?_
 rintro e w1 ⟨gm, rfl, hM, e1⟩
 replace hE := hE.trans e1
 replace B0 := e1.block B0
 go_upto_block 0 with (fail)
 refine boxes1 ?_
 intro w2 e2 hsz2 B2
 replace hE := hE.trans e2
 replace B0 := e2.block B0
 replace hM := hM.ext e2
 obtain ⟨a0, a1, a2, -⟩ := cells3 B0
 have b0 := (cells1 B2).1
 obtain ⟨gx, hgx⟩ : ∃ gx, gx = w1.heap.size := ⟨_, rfl⟩
 rw [← hgx] at b0 B2 ⊢
 clear hgx hsz2 e2 e1
 go_wp2_with (go_at_call 123; refine Hid.out ?_)
 refine (sl_ind1 (hI4.ext hE) _ (fun j => outB m (z j)) (fun i hi w' u e hu => by rw [hu.out]; exact rl_indexed1 (e.cell a0) (z i))).mono ?_
 rintro e w3 ⟨rfl, e3⟩
 rw [← ho1.out]
 have hE3 := hE.trans e3
 cases o1 with
 | true =>
  go_wp2
  first | go_ret2 | skip
  rw [hRf.out]
  exact ⟨hE3, .inl ⟨ho1.out.symm, rfl⟩⟩
 | false =>
  have hout := anyB_false.1 ho1.out.symm
  have HOUT := Lib.hid hout
  replace hM := hM.ext e3
  have b3 := e3.cell b0
  clear hout
  go_wp2_with (go_at_call 123; refine Hid.out ?_)
  refine (sl_ind2 (hI4.ext hE3) _ (fun j => decide (redOf m n X p (z j).toNat = 0)) (fun i hi w' u e hu => by
   obtain ⟨hz1, hz2⟩ := outB_false (HOUT.out i hi)
   rw [hu.out, hz2, Int.toNat_natCast]
   exact rl_indexed2 (e.cell b3) (hM.ext e) hz1 (by omega) (HSZ.out _ hz1).1 (HSZ.out _ hz1).2.1 (HSZ.out _ hz1).2.2.1 (HSZ.out _ hz1).2.2.2)).mono ?_
  rintro e w4 ⟨rfl, e4⟩
  rw [← ho2.out]
  cases o2 with
  | true =>
   go_wp2
   first | go_ret2 | skip
   rw [hRf.out]
   exact ⟨hE3.trans e4, .inr (.inl ⟨HOUT.out, ho2.out.symm, rfl⟩)⟩
  | false =>
   have b4 := e4.cell b3
   go_wp2
   first | go_ret2 | skip
   rw [hRf.out]
   exact ⟨hE3.trans e4, .inr (.inr ⟨HOUT.out, fun j hj => of_decide_eq_false (anyB_false.1 ho2.out.symm j hj), gm, rfl, hM.ext e4⟩)⟩
end Go.Proofs.YtghpfnhmlpfgcaaGreat
