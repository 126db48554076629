import Derived.Test.YtghpfnhmlpfgcaaGreatWa37
import Derived.Test.YtghpfnhmlpfgcaaGreatWa34
import Derived.Deep.Slices
import Derived.Deep.Strs
import Derived.Lib.SmallJoins
import Derived.ProofKit
import Derived.OpenShut
set_option linter.all false
namespace Go.Proofs.YtghpfnhmlpfgcaaGreat
open Go.RowKit Go.ChangeShapes Go.ChangeAt
theorem cells_int : Tryz.prog.cellsOf 35 = 2 := by kernel_rfl
theorem cells_rat : Tryz.prog.cellsOf 37 = 4 := by kernel_rfl
theorem cells_bool : Tryz.prog.cellsOf 4 = 1 := by kernel_rfl
theorem cells_u32 : Tryz.prog.cellsOf 115 = 1 := by kernel_rfl
theorem cells_u32s : Tryz.prog.cellsOf 33 = 1 := by kernel_rfl
theorem cells_rats : Tryz.prog.cellsOf 24 = 1 := by kernel_rfl
theorem cells_lin : Tryz.prog.cellsOf 26 = 3 := by kernel_rfl
section
variable {H : Type} {enc : TypeId × Value → H} {w : World} {spare : Nat → Bool} {held : Bool}
instance : Inhabited Raw := ⟨⟨false, [], false, []⟩⟩
theorem spot_none {v : Value} (a : Addr) (h : w.cell? (a.add 0) = some v) : a = ⟨a.block, a.off, none⟩ := by
 obtain ⟨b, off, spot⟩ := a
 have hs := World.cell?_spot h
 have h2 : spot = none := by simpa [Addr.add] using hs
 subst h2; rfl
theorem gs_of_trod {n : Nat} {v : Value} {x : DataW H × List MemPlace} (h : DataW.trod enc Tryz.prog w 0 spare held n 33 [v] = some x) : ∃ l, Gs w.heap.size w v l := by
 rcases Go.Deep.open_slice1 Tryz.underlying33 cells_u32 h with ⟨hcs, -⟩ | ⟨a, len, cap, m, n', V, D, Pl, hcs, -, hl, hm, hmm, -, hx⟩
 ·simp only [List.cons.injEq, and_true] at hcs
  subst hcs
  exact ⟨[], Gs.nil (Nat.le_refl _) _ (Nat.zero_le _)⟩
 ·simp only [List.cons.injEq, and_true] at hcs
  subst hcs
  have hlm : len ≤ m := by rw [hmm]; split <;> omega
  have hv : ∀ i, i < len → ∃ z : Nat, V i = .int .u32 (z : Int) ∧ z < 4294967296 := fun i hi => by
   obtain ⟨-, h2⟩ := hx i (by omega)
   obtain ⟨z, hz, -, hw⟩ := DataW.trod_int Tryz.underlying115 h2
   simp only [List.cons.injEq, and_true] at hz
   have hb := bounds_u32 hw
   exact ⟨z.toNat, by rw [hz]; congr 1; omega, by omega⟩
  obtain ⟨f, hf⟩ := Go.Deep.choose_lt (α := Nat) hv
  refine ⟨(List.range len).map f, Nat.le_refl _, _, len, cap, rfl, by simp, hl, hm, fun y hy => ?_, fun h0 => ?_⟩
  ·obtain ⟨i, hi, rfl⟩ := List.mem_map.1 hy
   exact (hf i (by simpa using hi)).2
  ·have h1 := (hx 0 (by omega)).1
   have ha := spot_none a h1
   refine ⟨a.block, a.off, by rw [← ha], ⟨?_, .inl ?_⟩, fun i hi => ?_⟩
   ·rw [ha, add_none] at h1; exact cell_lt (p := ⟨a.block, a.off + 0, none⟩) h1
   ·rw [ha, add_none] at h1; exact cell_lt (p := ⟨a.block, a.off + 0, none⟩) h1
   ·have h2 := (hx i (by omega)).1
    rw [ha, add_none, (hf i hi).1] at h2
    rw [h2]
    simp [hi]
theorem rat_of_trod {n : Nat} {c0 c1 c2 c3 : Value} {x : DataW H × List MemPlace} (h : DataW.trod enc Tryz.prog w 0 spare held n 37 [c0, c1, c2, c3] = some x) :
  ∃ R : Raw, c0 = .bool R.b1 ∧ c2 = .bool R.b2 ∧ Gs w.heap.size w c1 R.l1 ∧ Gs w.heap.size w c3 R.l2 := by
 obtain ⟨y0, y1, n1, -, -, h0, h1⟩ := trod_struct2 Tryz.underlying37 h
 simp only [cells_int, List.drop_zero, List.take_succ_cons, List.take_zero, List.drop_succ_cons] at h0 h1
 obtain ⟨z0, z1, n2, -, -, k0, k1⟩ := trod_struct2 Tryz.underlying35 h0
 obtain ⟨z2, z3, n3, -, -, k2, k3⟩ := trod_struct2 Tryz.underlying35 h1
 simp only [cells_bool, cells_u32s, List.drop_zero, List.take_succ_cons, List.take_zero, List.drop_succ_cons] at k0 k1 k2 k3
 obtain ⟨b1, e1, -⟩ := DataW.trod_bool Tryz.underlying4 k0
 obtain ⟨b2, e2, -⟩ := DataW.trod_bool Tryz.underlying4 k2
 obtain ⟨l1, g1⟩ := gs_of_trod k1
 obtain ⟨l2, g2⟩ := gs_of_trod k3
 simp only [List.cons.injEq, and_true] at e1 e2
 exact ⟨⟨b1, l1, b2, l2⟩, e1, e2, g1, g2⟩
theorem ls_of_trod {n : Nat} {v : Value} {x : DataW H × List MemPlace} (h : DataW.trod enc Tryz.prog w 0 spare held n 24 [v] = some x) : ∃ k R, LsR w.heap.size 0 w.heap.size w v k R := by
 rcases Go.Deep.open_slice Tryz.underlying24 h with ⟨hcs, -⟩ | ⟨a, len, cap, m, n', D, Pl, hcs, -, hl, hm, hmm, -, hx⟩
 ·simp only [List.cons.injEq, and_true] at hcs
  subst hcs
  exact ⟨0, fun _ => default, Nat.le_refl _, Nat.le_refl _, _, _, rfl, Nat.le_refl _, Nat.zero_le _, fun h0 => absurd h0 (by omega)⟩
 ·simp only [List.cons.injEq, and_true] at hcs
  subst hcs
  have hlm : len ≤ m := by rw [hmm]; split <;> omega
  rw [cells_rat] at hx
  rcases Nat.eq_zero_or_pos len with hl0 | hl0
  ·subst hl0
   exact ⟨0, fun _ => default, Nat.le_refl _, Nat.le_refl _, _, _, rfl, hl, hm, fun h0 => absurd h0 (by omega)⟩
  obtain ⟨B, O, rfl⟩ : ∃ B O, a = ⟨B, O, none⟩ := by
   obtain ⟨cs, h1, h2⟩ := hx 0 (by omega)
   obtain ⟨-, hlen, hc⟩ := World.cells?_some h1
   have k0 := hc 0 (by omega)
   have hz : (a.add (0 * 4)).add 0 = a.add 0 := by rw [Go.Deep.add_add]
   rw [hz, List.getElem?_eq_getElem (by omega)] at k0
   exact ⟨_, _, spot_none a k0⟩
  have hv : ∀ i, i < len → ∃ R : Raw, At4 w.heap.size w B (O + i * 4) R := fun i hi => by
   obtain ⟨cs, h1, h2⟩ := hx i (by omega)
   obtain ⟨-, hlen, hc⟩ := World.cells?_some h1
   match cs, hlen with
   | [c0, c1, c2, c3], _ =>
    obtain ⟨R, e0, e2, g1, g3⟩ := rat_of_trod h2
    have k0 := hc 0 (by omega)
    have k1 := hc 1 (by omega)
    have k2 := hc 2 (by omega)
    have k3 := hc 3 (by omega)
    rw [add_none, add_none] at k0 k1 k2 k3
    refine ⟨R, c1, c3, ?_, ?_, ?_, ?_, g1, g3⟩
    ·rw [← e0]; exact k0
    ·exact k1
    ·rw [← e2]; exact k2
    ·exact k3
  obtain ⟨f, hf⟩ := Go.Deep.choose_lt (α := Raw) hv
  refine ⟨len, f, Nat.le_refl _, Nat.le_refl _, _, cap, rfl, hl, hm, fun h0 => ⟨B, O, rfl, Nat.zero_le _, ?_, fun i hi => hf i hi⟩⟩
  obtain ⟨s, t, k0, -⟩ := hf 0 h0
  exact cell_lt k0
theorem mt_of_trod {n : Nat} {v : Value} {x : DataW H × List MemPlace} (h : DataW.trod enc Tryz.prog w 0 spare held n 23 [v] = some x) : ∃ k L R, MtR w.heap.size 0 w.heap.size w v k L R := by
 rcases Go.Deep.open_slice1 Tryz.underlying23 cells_rats h with ⟨hcs, -⟩ | ⟨a, len, cap, m, n', V, D, Pl, hcs, -, hl, hm, hmm, -, hx⟩
 ·simp only [List.cons.injEq, and_true] at hcs
  subst hcs
  exact ⟨0, fun _ => 0, fun _ _ => default, Nat.le_refl _, Nat.le_refl _, _, _, rfl, Nat.le_refl _, Nat.zero_le _, fun h0 => absurd h0 (by omega)⟩
 ·simp only [List.cons.injEq, and_true] at hcs
  subst hcs
  have hlm : len ≤ m := by rw [hmm]; split <;> omega
  rcases Nat.eq_zero_or_pos len with hl0 | hl0
  ·subst hl0
   exact ⟨0, fun _ => 0, fun _ _ => default, Nat.le_refl _, Nat.le_refl _, _, _, rfl, hl, hm, fun h0 => absurd h0 (by omega)⟩
  obtain ⟨B, O, rfl⟩ : ∃ B O, a = ⟨B, O, none⟩ := ⟨_, _, spot_none a (hx 0 (by omega)).1⟩
  have hv : ∀ i, i < len → ∃ kR : Nat × (Nat → Raw), w.cell? ⟨B, O + i, none⟩ = some (V i) ∧ LsR w.heap.size 0 w.heap.size w (V i) kR.1 kR.2 := fun i hi => by
   obtain ⟨h1, h2⟩ := hx i (by omega)
   rw [add_none] at h1
   obtain ⟨k, R, hR⟩ := ls_of_trod h2
   exact ⟨(k, R), h1, hR⟩
  obtain ⟨f, hf⟩ := Go.Deep.choose_lt (α := Nat × (Nat → Raw)) hv
  refine ⟨len, fun i => (f i).1, fun i => (f i).2, Nat.le_refl _, Nat.le_refl _, _, cap, rfl, hl, hm, fun h0 => ⟨B, O, rfl, Nat.zero_le _, cell_lt (hf 0 h0).1, fun i hi => ⟨V i, (hf i hi).1, (hf i hi).2⟩⟩⟩
end
end Go.Proofs.YtghpfnhmlpfgcaaGreat
