import Derived.Test.YtghpfnhmlpfgcaaGreatWb26
set_option linter.all false
namespace Go.Proofs.YtghpfnhmlpfgcaaGreat
open Go.RowKit
def anyB (n : Nat) (p : Nat → Bool) : Bool := (List.range n).any p
theorem anyB_true {n : Nat} {p : Nat → Bool} {i : Nat} (hi : i < n) (h : p i = true) : anyB n p = true := by
 unfold anyB; rw [List.any_eq_true]; exact ⟨i, List.mem_range.2 hi, h⟩
theorem anyB_false {n : Nat} {p : Nat → Bool} : anyB n p = false ↔ ∀ i, i < n → p i = false := by simp [anyB]
theorem anyB_not (n : Nat) (p : Nat → Bool) : (!anyB n (fun i => !p i)) = allB n p := by
 cases h : allB n p with
 | true =>
  have : anyB n (fun i => !p i) = false := anyB_false.2 (fun i hi => by rw [allB_true.1 h i hi]; rfl)
  rw [this]; rfl
 | false =>
  cases h2 : anyB n (fun i => !p i) with
  | true => rfl
  | false =>
   have : allB n p = true := allB_true.2 (fun i hi => by have := anyB_false.1 h2 i hi; simpa using this)
   rw [this] at h; cases h
def RetIdx (w : World) (r : Bool) (e : Ending) (w' : World) : Prop := ∃ z : Int, e = .returned (.int .i64 z) ∧ Hid (r = decide (0 ≤ z)) ∧ Ext w w'
set_option maxHeartbeats 2000000 in
theorem sl_shortx {N lo hi : Nat} {w : World} {v : Value} {n : Nat} {R : Nat → Raw} (h : LsR N lo hi w v n R)  (g : Nat → Bool)
  (hf : ∀ i, i < n → ∀ w' u, Ext w w' → RawV N w' u (R i) → Calls Tryz.prog 55 #[u] w' (RetV w' (.bool (g i)))) :
  Calls Tryz.prog 103 #[v, .func (.func 55) #[] #[]] w (RetIdx w (anyB n g)) := by
 obtain ⟨r, hr⟩ := hid_eq (anyB n g)
 rw [← hr.out]
 obtain ⟨A, c, rfl, hnc, hcm⟩ := h.form
 unfold maxLen at hcm
 have hI := h
 have HF := Lib.hid hf
 clear h hf
 go_enter Tryz.func103, Tryz.ntmps103
 go_wp2
 go_loopw [8] (fun i wr => ∃ k : Nat, k ≤ n ∧ i = .int .i64 k ∧ Hid (∀ j, j < k → g j = false) ∧ Ext w wr) (fun i _ => n - (intOf i).toNat)
 case atStart => exact ⟨0, Nat.zero_le _, rfl, fun j hj => absurd hj (by omega), Ext.refl w⟩
 case round =>
  obtain ⟨k, hk, rfl, HA, hE⟩ := hrel
  by_cases hlt : k < n
  ·(obtain ⟨b, off, rfl, -, -, hx⟩ := (hI.ext hE).addr (by omega)); (obtain ⟨A1, n1, c1, A2, n2, c2, p0, p1, p2, p3, hv⟩ := (hx k hlt).val)
   clear hx
   go_wp2_with (go_at_call 55; refine Hid.out ?_)
   refine (HF.out k hlt _ _ hE hv).mono ?_
   rintro e w1 ⟨rfl, e1⟩
   replace hE := hE.trans e1
   obtain ⟨o, ho⟩ := hid_eq (g k)
   rw [← ho.out]
   cases o with
   | false =>
    go_wp2
    go_roundw
    case rel => exact ⟨k + 1, by omega, by go_num, all_succ (p := fun j => g j = false) HA.out ho.out.symm, hE⟩
    case measure => simp [intOf]; omega
   | true =>
    have HT : Hid (r = true) := by rw [Hid, hr.out]; exact anyB_true hlt ho.out.symm
    go_wp2
    go_ret
    exact ⟨_, rfl, by rw [Hid, HT.out]; symm; simp, hE⟩
  ·have HT : Hid (r = false) := by rw [Hid, hr.out]; exact anyB_false.2 (fun j hj => HA.out j (by omega))
   go_wp2
   go_ret
   exact ⟨_, rfl, by rw [Hid, HT.out]; rfl, hE⟩
set_option maxHeartbeats 2000000 in
theorem sl_short {N lo hi : Nat} {w : World} {v : Value} {n : Nat} {R : Nat → Raw} (h : LsR N lo hi w v n R)  (g : Nat → Bool)
  (hf : ∀ i, i < n → ∀ w' u, Ext w w' → RawV N w' u (R i) → Calls Tryz.prog 55 #[u] w' (RetV w' (.bool (g i)))) :
  Calls Tryz.prog 54 #[v, .func (.func 55) #[] #[]] w (RetV w (.bool (anyB n g))) := by
 obtain ⟨r, hr⟩ := hid_eq (anyB n g)
 rw [← hr.out]
 obtain ⟨A, c, rfl, hnc, hcm⟩ := h.form
 have hI := h
 have HF := Lib.hid hf
 clear h hf
 go_enter Tryz.func54, Tryz.ntmps54
 go_wp2_with (go_at_call 103; refine Hid.out ?_)
 refine (sl_shortx hI  g HF.out).mono ?_
 rintro e w1 ⟨z, rfl, hz, e1⟩
 rw [← hr.out] at hz
 go_wp2
 go_ret
 exact ⟨ret_bool hz.out.symm, e1⟩
set_option maxHeartbeats 2000000 in
theorem sl_mcanonx {N lo hi : Nat} {w : World} {v : Value} {n : Nat} {R : Nat → Raw} (h : LsR N lo hi w v n R)  (g : Nat → Bool)
  (hf : ∀ i, i < n → ∀ w' u, Ext w w' → RawV N w' u (R i) → Calls Tryz.prog 200 #[u] w' (RetV w' (.bool (g i)))) :
  Calls Tryz.prog 103 #[v, .func (.func 200) #[] #[]] w (RetIdx w (anyB n g)) := by
 obtain ⟨r, hr⟩ := hid_eq (anyB n g)
 rw [← hr.out]
 obtain ⟨A, c, rfl, hnc, hcm⟩ := h.form
 unfold maxLen at hcm
 have hI := h
 have HF := Lib.hid hf
 clear h hf
 go_enter Tryz.func103, Tryz.ntmps103
 go_wp2
 go_loopw [8] (fun i wr => ∃ k : Nat, k ≤ n ∧ i = .int .i64 k ∧ Hid (∀ j, j < k → g j = false) ∧ Ext w wr) (fun i _ => n - (intOf i).toNat)
 case atStart => exact ⟨0, Nat.zero_le _, rfl, fun j hj => absurd hj (by omega), Ext.refl w⟩
 case round =>
  obtain ⟨k, hk, rfl, HA, hE⟩ := hrel
  by_cases hlt : k < n
  ·(obtain ⟨b, off, rfl, -, -, hx⟩ := (hI.ext hE).addr (by omega)); (obtain ⟨A1, n1, c1, A2, n2, c2, p0, p1, p2, p3, hv⟩ := (hx k hlt).val)
   clear hx
   go_wp2_with (go_at_call 200; refine Hid.out ?_)
   refine (HF.out k hlt _ _ hE hv).mono ?_
   rintro e w1 ⟨rfl, e1⟩
   replace hE := hE.trans e1
   obtain ⟨o, ho⟩ := hid_eq (g k)
   rw [← ho.out]
   cases o with
   | false =>
    go_wp2
    go_roundw
    case rel => exact ⟨k + 1, by omega, by go_num, all_succ (p := fun j => g j = false) HA.out ho.out.symm, hE⟩
    case measure => simp [intOf]; omega
   | true =>
    have HT : Hid (r = true) := by rw [Hid, hr.out]; exact anyB_true hlt ho.out.symm
    go_wp2
    go_ret
    exact ⟨_, rfl, by rw [Hid, HT.out]; symm; simp, hE⟩
  ·have HT : Hid (r = false) := by rw [Hid, hr.out]; exact anyB_false.2 (fun j hj => HA.out j (by omega))
   go_wp2
   go_ret
   exact ⟨_, rfl, by rw [Hid, HT.out]; rfl, hE⟩
set_option maxHeartbeats 2000000 in
theorem sl_mcanon {N lo hi : Nat} {w : World} {v : Value} {n : Nat} {R : Nat → Raw} (h : LsR N lo hi w v n R)  (g : Nat → Bool)
  (hf : ∀ i, i < n → ∀ w' u, Ext w w' → RawV N w' u (R i) → Calls Tryz.prog 200 #[u] w' (RetV w' (.bool (g i)))) :
  Calls Tryz.prog 54 #[v, .func (.func 200) #[] #[]] w (RetV w (.bool (anyB n g))) := by
 obtain ⟨r, hr⟩ := hid_eq (anyB n g)
 rw [← hr.out]
 obtain ⟨A, c, rfl, hnc, hcm⟩ := h.form
 have hI := h
 have HF := Lib.hid hf
 clear h hf
 go_enter Tryz.func54, Tryz.ntmps54
 go_wp2_with (go_at_call 103; refine Hid.out ?_)
 refine (sl_mcanonx hI  g HF.out).mono ?_
 rintro e w1 ⟨z, rfl, hz, e1⟩
 rw [← hr.out] at hz
 go_wp2
 go_ret
 exact ⟨ret_bool hz.out.symm, e1⟩
set_option maxHeartbeats 2000000 in
theorem sl_ncanonx {N lo hi : Nat} {w : World} {v : Value} {n : Nat} {R : Nat → Raw} (h : LsR N lo hi w v n R)  (g : Nat → Bool)
  (hf : ∀ i, i < n → ∀ w' u, Ext w w' → RawV N w' u (R i) → Calls Tryz.prog 187 #[u] w' (RetV w' (.bool (g i)))) :
  Calls Tryz.prog 103 #[v, .func (.func 187) #[] #[]] w (RetIdx w (anyB n g)) := by
 obtain ⟨r, hr⟩ := hid_eq (anyB n g)
 rw [← hr.out]
 obtain ⟨A, c, rfl, hnc, hcm⟩ := h.form
 unfold maxLen at hcm
 have hI := h
 have HF := Lib.hid hf
 clear h hf
 go_enter Tryz.func103, Tryz.ntmps103
 go_wp2
 go_loopw [8] (fun i wr => ∃ k : Nat, k ≤ n ∧ i = .int .i64 k ∧ Hid (∀ j, j < k → g j = false) ∧ Ext w wr) (fun i _ => n - (intOf i).toNat)
 case atStart => exact ⟨0, Nat.zero_le _, rfl, fun j hj => absurd hj (by omega), Ext.refl w⟩
 case round =>
  obtain ⟨k, hk, rfl, HA, hE⟩ := hrel
  by_cases hlt : k < n
  ·(obtain ⟨b, off, rfl, -, -, hx⟩ := (hI.ext hE).addr (by omega)); (obtain ⟨A1, n1, c1, A2, n2, c2, p0, p1, p2, p3, hv⟩ := (hx k hlt).val)
   clear hx
   go_wp2_with (go_at_call 187; refine Hid.out ?_)
   refine (HF.out k hlt _ _ hE hv).mono ?_
   rintro e w1 ⟨rfl, e1⟩
   replace hE := hE.trans e1
   obtain ⟨o, ho⟩ := hid_eq (g k)
   rw [← ho.out]
   cases o with
   | false =>
    go_wp2
    go_roundw
    case rel => exact ⟨k + 1, by omega, by go_num, all_succ (p := fun j => g j = false) HA.out ho.out.symm, hE⟩
    case measure => simp [intOf]; omega
   | true =>
    have HT : Hid (r = true) := by rw [Hid, hr.out]; exact anyB_true hlt ho.out.symm
    go_wp2
    go_ret
    exact ⟨_, rfl, by rw [Hid, HT.out]; symm; simp, hE⟩
  ·have HT : Hid (r = false) := by rw [Hid, hr.out]; exact anyB_false.2 (fun j hj => HA.out j (by omega))
   go_wp2
   go_ret
   exact ⟨_, rfl, by rw [Hid, HT.out]; rfl, hE⟩
set_option maxHeartbeats 2000000 in
theorem sl_ncanon {N lo hi : Nat} {w : World} {v : Value} {n : Nat} {R : Nat → Raw} (h : LsR N lo hi w v n R)  (g : Nat → Bool)
  (hf : ∀ i, i < n → ∀ w' u, Ext w w' → RawV N w' u (R i) → Calls Tryz.prog 187 #[u] w' (RetV w' (.bool (g i)))) :
  Calls Tryz.prog 54 #[v, .func (.func 187) #[] #[]] w (RetV w (.bool (anyB n g))) := by
 obtain ⟨r, hr⟩ := hid_eq (anyB n g)
 rw [← hr.out]
 obtain ⟨A, c, rfl, hnc, hcm⟩ := h.form
 have hI := h
 have HF := Lib.hid hf
 clear h hf
 go_enter Tryz.func54, Tryz.ntmps54
 go_wp2_with (go_at_call 103; refine Hid.out ?_)
 refine (sl_ncanonx hI  g HF.out).mono ?_
 rintro e w1 ⟨z, rfl, hz, e1⟩
 rw [← hr.out] at hz
 go_wp2
 go_ret
 exact ⟨ret_bool hz.out.symm, e1⟩
set_option maxHeartbeats 2000000 in
theorem sl_code2x {N lo hi : Nat} {w : World} {v : Value} {n : Nat} {R : Nat → Raw} (h : LsR N lo hi w v n R)  (g : Nat → Bool)
  (hf : ∀ i, i < n → ∀ w' u, Ext w w' → RawV N w' u (R i) → Calls Tryz.prog 64 #[u] w' (RetV w' (.bool (g i)))) :
  Calls Tryz.prog 103 #[v, .func (.func 64) #[] #[]] w (RetIdx w (anyB n g)) := by
 obtain ⟨r, hr⟩ := hid_eq (anyB n g)
 rw [← hr.out]
 obtain ⟨A, c, rfl, hnc, hcm⟩ := h.form
 unfold maxLen at hcm
 have hI := h
 have HF := Lib.hid hf
 clear h hf
 go_enter Tryz.func103, Tryz.ntmps103
 go_wp2
 go_loopw [8] (fun i wr => ∃ k : Nat, k ≤ n ∧ i = .int .i64 k ∧ Hid (∀ j, j < k → g j = false) ∧ Ext w wr) (fun i _ => n - (intOf i).toNat)
 case atStart => exact ⟨0, Nat.zero_le _, rfl, fun j hj => absurd hj (by omega), Ext.refl w⟩
 case round =>
  obtain ⟨k, hk, rfl, HA, hE⟩ := hrel
  by_cases hlt : k < n
  ·(obtain ⟨b, off, rfl, -, -, hx⟩ := (hI.ext hE).addr (by omega)); (obtain ⟨A1, n1, c1, A2, n2, c2, p0, p1, p2, p3, hv⟩ := (hx k hlt).val)
   clear hx
   go_wp2_with (go_at_call 64; refine Hid.out ?_)
   refine (HF.out k hlt _ _ hE hv).mono ?_
   rintro e w1 ⟨rfl, e1⟩
   replace hE := hE.trans e1
   obtain ⟨o, ho⟩ := hid_eq (g k)
   rw [← ho.out]
   cases o with
   | false =>
    go_wp2
    go_roundw
    case rel => exact ⟨k + 1, by omega, by go_num, all_succ (p := fun j => g j = false) HA.out ho.out.symm, hE⟩
    case measure => simp [intOf]; omega
   | true =>
    have HT : Hid (r = true) := by rw [Hid, hr.out]; exact anyB_true hlt ho.out.symm
    go_wp2
    go_ret
    exact ⟨_, rfl, by rw [Hid, HT.out]; symm; simp, hE⟩
  ·have HT : Hid (r = false) := by rw [Hid, hr.out]; exact anyB_false.2 (fun j hj => HA.out j (by omega))
   go_wp2
   go_ret
   exact ⟨_, rfl, by rw [Hid, HT.out]; rfl, hE⟩
set_option maxHeartbeats 2000000 in
theorem sl_code2 {N lo hi : Nat} {w : World} {v : Value} {n : Nat} {R : Nat → Raw} (h : LsR N lo hi w v n R)  (g : Nat → Bool)
  (hf : ∀ i, i < n → ∀ w' u, Ext w w' → RawV N w' u (R i) → Calls Tryz.prog 64 #[u] w' (RetV w' (.bool (g i)))) :
  Calls Tryz.prog 54 #[v, .func (.func 64) #[] #[]] w (RetV w (.bool (anyB n g))) := by
 obtain ⟨r, hr⟩ := hid_eq (anyB n g)
 rw [← hr.out]
 obtain ⟨A, c, rfl, hnc, hcm⟩ := h.form
 have hI := h
 have HF := Lib.hid hf
 clear h hf
 go_enter Tryz.func54, Tryz.ntmps54
 go_wp2_with (go_at_call 103; refine Hid.out ?_)
 refine (sl_code2x hI  g HF.out).mono ?_
 rintro e w1 ⟨z, rfl, hz, e1⟩
 rw [← hr.out] at hz
 go_wp2
 go_ret
 exact ⟨ret_bool hz.out.symm, e1⟩
set_option maxHeartbeats 2000000 in
theorem sl_fewx {N lo hi : Nat} {w : World} {v : Value} {n : Nat} {L : Nat → Nat} {R : Nat → Nat → Raw} (h : MtR N lo hi w v n L R)  (g : Nat → Bool)
  (hf : ∀ i, i < n → ∀ w' u, Ext w w' → LsR N lo hi w' u (L i) (R i) → Calls Tryz.prog 53 #[u] w' (RetV w' (.bool (g i)))) :
  Calls Tryz.prog 102 #[v, .func (.func 53) #[] #[]] w (RetIdx w (anyB n g)) := by
 obtain ⟨r, hr⟩ := hid_eq (anyB n g)
 rw [← hr.out]
 obtain ⟨A, c, rfl, hnc, hcm⟩ := h.form
 unfold maxLen at hcm
 have hI := h
 have HF := Lib.hid hf
 clear h hf
 go_enter Tryz.func102, Tryz.ntmps102
 go_wp2
 go_loopw [8] (fun i wr => ∃ k : Nat, k ≤ n ∧ i = .int .i64 k ∧ Hid (∀ j, j < k → g j = false) ∧ Ext w wr) (fun i _ => n - (intOf i).toNat)
 case atStart => exact ⟨0, Nat.zero_le _, rfl, fun j hj => absurd hj (by omega), Ext.refl w⟩
 case round =>
  obtain ⟨k, hk, rfl, HA, hE⟩ := hrel
  by_cases hlt : k < n
  ·(obtain ⟨b, off, rfl, -, -, hx⟩ := (hI.ext hE).addr (by omega)); (obtain ⟨A1, c1, p0, -, -, hv⟩ := hx k hlt)
   clear hx
   go_wp2_with (go_at_call 53; refine Hid.out ?_)
   refine (HF.out k hlt _ _ hE hv).mono ?_
   rintro e w1 ⟨rfl, e1⟩
   replace hE := hE.trans e1
   obtain ⟨o, ho⟩ := hid_eq (g k)
   rw [← ho.out]
   cases o with
   | false =>
    go_wp2
    go_roundw
    case rel => exact ⟨k + 1, by omega, by go_num, all_succ (p := fun j => g j = false) HA.out ho.out.symm, hE⟩
    case measure => simp [intOf]; omega
   | true =>
    have HT : Hid (r = true) := by rw [Hid, hr.out]; exact anyB_true hlt ho.out.symm
    go_wp2
    go_ret
    exact ⟨_, rfl, by rw [Hid, HT.out]; symm; simp, hE⟩
  ·have HT : Hid (r = false) := by rw [Hid, hr.out]; exact anyB_false.2 (fun j hj => HA.out j (by omega))
   go_wp2
   go_ret
   exact ⟨_, rfl, by rw [Hid, HT.out]; rfl, hE⟩
set_option maxHeartbeats 2000000 in
theorem sl_few {N lo hi : Nat} {w : World} {v : Value} {n : Nat} {L : Nat → Nat} {R : Nat → Nat → Raw} (h : MtR N lo hi w v n L R)  (g : Nat → Bool)
  (hf : ∀ i, i < n → ∀ w' u, Ext w w' → LsR N lo hi w' u (L i) (R i) → Calls Tryz.prog 53 #[u] w' (RetV w' (.bool (g i)))) :
  Calls Tryz.prog 52 #[v, .func (.func 53) #[] #[]] w (RetV w (.bool (anyB n g))) := by
 obtain ⟨r, hr⟩ := hid_eq (anyB n g)
 rw [← hr.out]
 obtain ⟨A, c, rfl, hnc, hcm⟩ := h.form
 have hI := h
 have HF := Lib.hid hf
 clear h hf
 go_enter Tryz.func52, Tryz.ntmps52
 go_wp2_with (go_at_call 102; refine Hid.out ?_)
 refine (sl_fewx hI  g HF.out).mono ?_
 rintro e w1 ⟨z, rfl, hz, e1⟩
 rw [← hr.out] at hz
 go_wp2
 go_ret
 exact ⟨ret_bool hz.out.symm, e1⟩
set_option maxHeartbeats 2000000 in
theorem sl_code1x {N lo hi : Nat} {w : World} {v : Value} {n : Nat} {L : Nat → Nat} {R : Nat → Nat → Raw} (h : MtR N lo hi w v n L R) (gb : Nat) (g : Nat → Bool)
  (hf : ∀ i, i < n → ∀ w' u, Ext w w' → LsR N lo hi w' u (L i) (R i) → Calls Tryz.prog 63 #[u, .pointer (some ⟨gb, 0, none⟩)] w' (RetV w' (.bool (g i)))) :
  Calls Tryz.prog 102 #[v, .func (.func 63) #[] #[.pointer (some ⟨gb, 0, none⟩)]] w (RetIdx w (anyB n g)) := by
 obtain ⟨r, hr⟩ := hid_eq (anyB n g)
 rw [← hr.out]
 obtain ⟨A, c, rfl, hnc, hcm⟩ := h.form
 unfold maxLen at hcm
 have hI := h
 have HF := Lib.hid hf
 clear h hf
 go_enter Tryz.func102, Tryz.ntmps102
 go_wp2
 go_loopw [8] (fun i wr => ∃ k : Nat, k ≤ n ∧ i = .int .i64 k ∧ Hid (∀ j, j < k → g j = false) ∧ Ext w wr) (fun i _ => n - (intOf i).toNat)
 case atStart => exact ⟨0, Nat.zero_le _, rfl, fun j hj => absurd hj (by omega), Ext.refl w⟩
 case round =>
  obtain ⟨k, hk, rfl, HA, hE⟩ := hrel
  by_cases hlt : k < n
  ·(obtain ⟨b, off, rfl, -, -, hx⟩ := (hI.ext hE).addr (by omega)); (obtain ⟨A1, c1, p0, -, -, hv⟩ := hx k hlt)
   clear hx
   go_wp2_with (go_at_call 63; refine Hid.out ?_)
   refine (HF.out k hlt _ _ hE hv).mono ?_
   rintro e w1 ⟨rfl, e1⟩
   replace hE := hE.trans e1
   obtain ⟨o, ho⟩ := hid_eq (g k)
   rw [← ho.out]
   cases o with
   | false =>
    go_wp2
    go_roundw
    case rel => exact ⟨k + 1, by omega, by go_num, all_succ (p := fun j => g j = false) HA.out ho.out.symm, hE⟩
    case measure => simp [intOf]; omega
   | true =>
    have HT : Hid (r = true) := by rw [Hid, hr.out]; exact anyB_true hlt ho.out.symm
    go_wp2
    go_ret
    exact ⟨_, rfl, by rw [Hid, HT.out]; symm; simp, hE⟩
  ·have HT : Hid (r = false) := by rw [Hid, hr.out]; exact anyB_false.2 (fun j hj => HA.out j (by omega))
   go_wp2
   go_ret
   exact ⟨_, rfl, by rw [Hid, HT.out]; rfl, hE⟩
set_option maxHeartbeats 2000000 in
theorem sl_code1 {N lo hi : Nat} {w : World} {v : Value} {n : Nat} {L : Nat → Nat} {R : Nat → Nat → Raw} (h : MtR N lo hi w v n L R) (gb : Nat) (g : Nat → Bool)
  (hf : ∀ i, i < n → ∀ w' u, Ext w w' → LsR N lo hi w' u (L i) (R i) → Calls Tryz.prog 63 #[u, .pointer (some ⟨gb, 0, none⟩)] w' (RetV w' (.bool (g i)))) :
  Calls Tryz.prog 52 #[v, .func (.func 63) #[] #[.pointer (some ⟨gb, 0, none⟩)]] w (RetV w (.bool (anyB n g))) := by
 obtain ⟨r, hr⟩ := hid_eq (anyB n g)
 rw [← hr.out]
 obtain ⟨A, c, rfl, hnc, hcm⟩ := h.form
 have hI := h
 have HF := Lib.hid hf
 clear h hf
 go_enter Tryz.func52, Tryz.ntmps52
 go_wp2_with (go_at_call 102; refine Hid.out ?_)
 refine (sl_code1x hI gb g HF.out).mono ?_
 rintro e w1 ⟨z, rfl, hz, e1⟩
 rw [← hr.out] at hz
 go_wp2
 go_ret
 exact ⟨ret_bool hz.out.symm, e1⟩
set_option maxHeartbeats 2000000 in
theorem sl_mcheckx {N lo hi : Nat} {w : World} {v : Value} {n : Nat} {L : Nat → Nat} {R : Nat → Nat → Raw} (h : MtR N lo hi w v n L R) (gb : Nat) (g : Nat → Bool)
  (hf : ∀ i, i < n → ∀ w' u, Ext w w' → LsR N lo hi w' u (L i) (R i) → Calls Tryz.prog 174 #[u, .pointer (some ⟨gb, 0, none⟩)] w' (RetV w' (.bool (g i)))) :
  Calls Tryz.prog 102 #[v, .func (.func 174) #[] #[.pointer (some ⟨gb, 0, none⟩)]] w (RetIdx w (anyB n g)) := by
 obtain ⟨r, hr⟩ := hid_eq (anyB n g)
 rw [← hr.out]
 obtain ⟨A, c, rfl, hnc, hcm⟩ := h.form
 unfold maxLen at hcm
 have hI := h
 have HF := Lib.hid hf
 clear h hf
 go_enter Tryz.func102, Tryz.ntmps102
 go_wp2
 go_loopw [8] (fun i wr => ∃ k : Nat, k ≤ n ∧ i = .int .i64 k ∧ Hid (∀ j, j < k → g j = false) ∧ Ext w wr) (fun i _ => n - (intOf i).toNat)
 case atStart => exact ⟨0, Nat.zero_le _, rfl, fun j hj => absurd hj (by omega), Ext.refl w⟩
 case round =>
  obtain ⟨k, hk, rfl, HA, hE⟩ := hrel
  by_cases hlt : k < n
  ·(obtain ⟨b, off, rfl, -, -, hx⟩ := (hI.ext hE).addr (by omega)); (obtain ⟨A1, c1, p0, -, -, hv⟩ := hx k hlt)
   clear hx
   go_wp2_with (go_at_call 174; refine Hid.out ?_)
   refine (HF.out k hlt _ _ hE hv).mono ?_
   rintro e w1 ⟨rfl, e1⟩
   replace hE := hE.trans e1
   obtain ⟨o, ho⟩ := hid_eq (g k)
   rw [← ho.out]
   cases o with
   | false =>
    go_wp2
    go_roundw
    case rel => exact ⟨k + 1, by omega, by go_num, all_succ (p := fun j => g j = false) HA.out ho.out.symm, hE⟩
    case measure => simp [intOf]; omega
   | true =>
    have HT : Hid (r = true) := by rw [Hid, hr.out]; exact anyB_true hlt ho.out.symm
    go_wp2
    go_ret
    exact ⟨_, rfl, by rw [Hid, HT.out]; symm; simp, hE⟩
  ·have HT : Hid (r = false) := by rw [Hid, hr.out]; exact anyB_false.2 (fun j hj => HA.out j (by omega))
   go_wp2
   go_ret
   exact ⟨_, rfl, by rw [Hid, HT.out]; rfl, hE⟩
set_option maxHeartbeats 2000000 in
theorem sl_mcheck {N lo hi : Nat} {w : World} {v : Value} {n : Nat} {L : Nat → Nat} {R : Nat → Nat → Raw} (h : MtR N lo hi w v n L R) (gb : Nat) (g : Nat → Bool)
  (hf : ∀ i, i < n → ∀ w' u, Ext w w' → LsR N lo hi w' u (L i) (R i) → Calls Tryz.prog 174 #[u, .pointer (some ⟨gb, 0, none⟩)] w' (RetV w' (.bool (g i)))) :
  Calls Tryz.prog 52 #[v, .func (.func 174) #[] #[.pointer (some ⟨gb, 0, none⟩)]] w (RetV w (.bool (anyB n g))) := by
 obtain ⟨r, hr⟩ := hid_eq (anyB n g)
 rw [← hr.out]
 obtain ⟨A, c, rfl, hnc, hcm⟩ := h.form
 have hI := h
 have HF := Lib.hid hf
 clear h hf
 go_enter Tryz.func52, Tryz.ntmps52
 go_wp2_with (go_at_call 102; refine Hid.out ?_)
 refine (sl_mcheckx hI gb g HF.out).mono ?_
 rintro e w1 ⟨z, rfl, hz, e1⟩
 rw [← hr.out] at hz
 go_wp2
 go_ret
 exact ⟨ret_bool hz.out.symm, e1⟩
end Go.Proofs.YtghpfnhmlpfgcaaGreat
namespace Go.Proofs.YtghpfnhmlpfgcaaGreat
open Go.RowKit
def briefB (R : Raw) : Bool := decide (R.l1.length ≤ 1) && decide (R.l2.length ≤ 1) && decide (R.l1[0]?.getD 0 < 100000) && decide (R.l2[0]?.getD 0 ≤ 100)
set_option maxHeartbeats 4000000 in
theorem r2_brief {N : Nat} {w : World} {v : Value} {R : Raw} (h : RawV N w v R) :
  Calls Tryz.prog 56 #[v] w (RetV w (.bool (briefB R))) := by
 obtain ⟨r, hr⟩ := hid_eq (briefB R)
 rw [← hr.out]
 obtain ⟨A1, n1, c1, A2, n2, c2, rfl, g1, g2⟩ := h.parts
 obtain ⟨_, _, _, e1, h1, hc1, hm1⟩ := g1.form
 injection e1 with e1 e1' e1''
 subst e1 e1' e1''
 obtain ⟨_, _, _, e2, h2, hc2, hm2⟩ := g2.form
 injection e2 with e2 e2' e2''
 subst e2 e2' e2''
 obtain ⟨b1, l1, b2, l2⟩ := R
 dsimp only at g1 g2 h1 h2 ⊢
 have HR : Hid (r = (decide (n1 ≤ 1) && decide (n2 ≤ 1) && decide (l1[0]?.getD 0 < 100000) && decide (l2[0]?.getD 0 ≤ 100))) := by
  rw [Hid, hr.out, ← h1.out, ← h2.out]; rfl
 have L1 : Hid (n1 = 0 → l1 = []) := fun e => List.eq_nil_of_length_eq_zero (by rw [h1.out]; exact e)
 have L2 : Hid (n2 = 0 → l2 = []) := fun e => List.eq_nil_of_length_eq_zero (by rw [h2.out]; exact e)
 clear hr h
 go_enter Tryz.func56, Tryz.ntmps56
 go_upto_region 1 with (fail)
 refine boxes1 ?_
 intro W hE hsz B0
 obtain ⟨a0, a1, a2, a3, -⟩ := cells4 B0
 have eC := (Ext.refl W).drew
 refine region_late (fun w' => w'.cell? ⟨w.heap.size, 0, none⟩ = some (.bool b1) ∧ w'.cell? ⟨w.heap.size, 1, none⟩ = some (.slice A1 n1 c1) ∧ w'.cell? ⟨w.heap.size, 2, none⟩ = some (.bool b2) ∧ w'.cell? ⟨w.heap.size, 3, none⟩ = some (.slice A2 n2 c2)) [] (by kernel_rfl) (by exact ⟨eC.cell a0, eC.cell a1, eC.cell a2, eC.cell a3⟩) (fun hHeld => ?_)
 refine sP 0 (h := ?_)
 try simp only [nr]
 refine sP 1 (h := ?_)
 try simp only [nr]
 refine sT 2 (h := ?_)
 try simp only [nr]
 refine sP 3 (h := ?_)
 try simp only [nr]
 refine sP 4 (h := ?_)
 try simp only [nr]
 refine sT 5 (h := ?_)
 try simp only [nr]
 refine sP 6 (h := ?_)
 try simp only [nr]
 refine sP 7 (h := ?_)
 try simp only [nr]
 refine stepL_done (by kernel_rfl) ?_ _
 clear hHeld
 replace hE := hE.trans eC
 replace g1 := g1.ext hE
 replace g2 := g2.ext hE
 clear a0 a1 a2 a3 B0 eC
 by_cases hn1 : n1 ≤ 1
 ·by_cases hn2 : n2 ≤ 1
  ·have HR2 : Hid (r = (decide (l1[0]?.getD 0 < 100000) && decide (l2[0]?.getD 0 ≤ 100))) := by rw [Hid, HR.out, decide_eq_true hn1, decide_eq_true hn2]; rfl
   clear HR
   rcases Nat.eq_zero_or_pos n1 with h0 | h0
   ·obtain ⟨x, hx⟩ := hid_eq (decide (l1[0]?.getD 0 < 100000))
    have hx1 : x = true := by rw [hx.out, L1.out h0]; rfl
    rw [← hx.out, hx1] at HR2
    subst h0
    rcases Nat.eq_zero_or_pos n2 with h4 | h4
    ·have HF : Hid (r = true) := by rw [Hid, HR2.out, L2.out h4]; rfl
     subst h4
     go_wp2
     go_ret
     exact ⟨ret_bool HF.out.symm, hE⟩
    ·obtain rfl : n2 = 1 := by omega
     obtain ⟨b, off, z, rfl, -, p0, hz0, hz1, HZ⟩ := g2.at_ (k := 0) (by omega)
     rw [Nat.add_zero] at p0
     by_cases hz : z ≤ 100
     ·have HF : Hid (r = true) := by rw [Hid, HR2.out]; simp only [Bool.true_and, decide_eq_true_eq]; have := HZ.out; omega
      go_wp2
      go_ret
      exact ⟨ret_bool HF.out.symm, hE⟩
     ·have HF : Hid (r = false) := by rw [Hid, HR2.out]; simp only [Bool.true_and, decide_eq_false_iff_not]; have := HZ.out; omega
      go_wp2
      go_ret
      exact ⟨ret_bool HF.out.symm, hE⟩
   ·obtain rfl : n1 = 1 := by omega
    obtain ⟨b, off, z, rfl, -, p0, hz0, hz1, HZ⟩ := g1.at_ (k := 0) (by omega)
    rw [Nat.add_zero] at p0
    by_cases hz : z < 100000
    ·have HR3 : Hid (r = decide (l2[0]?.getD 0 ≤ 100)) := by
      rw [Hid, HR2.out, show decide (l1[0]?.getD 0 < 100000) = true by simp only [decide_eq_true_eq]; have := HZ.out; omega]; rfl
     rcases Nat.eq_zero_or_pos n2 with h4 | h4
     ·have HF : Hid (r = true) := by rw [Hid, HR3.out, L2.out h4]; rfl
      subst h4
      go_wp2
      go_ret
      exact ⟨ret_bool HF.out.symm, hE⟩
     ·obtain rfl : n2 = 1 := by omega
      obtain ⟨b', off', z', rfl, -, q0, hz0', hz1', HZ'⟩ := g2.at_ (k := 0) (by omega)
      rw [Nat.add_zero] at q0
      by_cases hz' : z' ≤ 100
      ·have HF : Hid (r = true) := by rw [Hid, HR3.out]; simp only [decide_eq_true_eq]; have := HZ'.out; omega
       go_wp2
       go_ret
       exact ⟨ret_bool HF.out.symm, hE⟩
      ·have HF : Hid (r = false) := by rw [Hid, HR3.out]; simp only [decide_eq_false_iff_not]; have := HZ'.out; omega
       go_wp2
       go_ret
       exact ⟨ret_bool HF.out.symm, hE⟩
    ·have HF : Hid (r = false) := by
      rw [Hid, HR2.out, show decide (l1[0]?.getD 0 < 100000) = false by simp only [decide_eq_false_iff_not]; have := HZ.out; omega]; rfl
     go_wp2
     go_ret
     exact ⟨ret_bool HF.out.symm, hE⟩
  ·have HF : Hid (r = false) := by rw [Hid, HR.out, decide_eq_false hn2]; simp
   go_wp2
   go_ret
   exact ⟨ret_bool HF.out.symm, hE⟩
 ·have HF : Hid (r = false) := by rw [Hid, HR.out, decide_eq_false hn1]; simp
  go_wp2
  go_ret
  exact ⟨ret_bool HF.out.symm, hE⟩
set_option maxHeartbeats 1000000 in
theorem l37_short1 {N : Nat} {w : World} {v : Value} {R : Raw} (h : RawV N w v R)  :
  Calls Tryz.prog 55 #[v] w (RetV w (.bool (!briefB R))) := by
 obtain ⟨A1, n1, c1, A2, n2, c2, rfl, g1, g2⟩ := h.parts
 obtain ⟨r, hr⟩ := hid_eq (briefB R)
 rw [← hr.out]
 have hI := h
 clear g1 g2 h
 go_enter Tryz.func55, Tryz.ntmps55
 go_wp2_with (go_at_call 56; refine Hid.out ?_)
 refine boxesC1 ?_
 intro W hE hsz B0
 refine (r2_brief (hI.ext hE)).mono ?_
 rintro e w1 ⟨rfl, e1⟩
 rw [← hr.out]
 go_wp2
 go_ret
 exact ⟨rfl, hE.trans e1⟩
set_option maxHeartbeats 1000000 in
theorem n_canon1 {N : Nat} {w : World} {v : Value} {R : Raw} (h : RawV N w v R) (hs : RawSz R) :
  Calls Tryz.prog 187 #[v] w (RetV w (.bool (!okR R))) := by
 obtain ⟨A1, n1, c1, A2, n2, c2, rfl, g1, g2⟩ := h.parts
 obtain ⟨r, hr⟩ := hid_eq (okR R)
 rw [← hr.out]
 have hI := h
 clear g1 g2 h
 go_enter Tryz.func187, Tryz.ntmps187
 go_wp2_with (go_at_call 93; refine Hid.out ?_)
 refine boxesC1 ?_
 intro W hE hsz B0
 refine (f_valid (hI.ext hE) hs.1 hs.2).mono ?_
 rintro e w1 ⟨rfl, e1⟩
 rw [← hr.out]
 go_wp2
 go_ret
 exact ⟨rfl, hE.trans e1⟩
set_option maxHeartbeats 1000000 in
theorem m_canon1 {N : Nat} {w : World} {v : Value} {R : Raw} (h : RawV N w v R) (hs : RawSz R) :
  Calls Tryz.prog 200 #[v] w (RetV w (.bool (!okR R))) := by
 obtain ⟨A1, n1, c1, A2, n2, c2, rfl, g1, g2⟩ := h.parts
 obtain ⟨r, hr⟩ := hid_eq (okR R)
 rw [← hr.out]
 have hI := h
 clear g1 g2 h
 go_enter Tryz.func200, Tryz.ntmps200
 go_wp2_with (go_at_call 93; refine Hid.out ?_)
 refine boxesC1 ?_
 intro W hE hsz B0
 refine (f_valid (hI.ext hE) hs.1 hs.2).mono ?_
 rintro e w1 ⟨rfl, e1⟩
 rw [← hr.out]
 go_wp2
 go_ret
 exact ⟨rfl, hE.trans e1⟩
def shortB (n : Nat) (R : Nat → Raw) : Bool := decide (n ≤ 8) && allB n (fun i => briefB (R i))
set_option maxHeartbeats 1000000 in
theorem l37_short {N lo hi : Nat} {w : World} {v : Value} {n : Nat} {R : Nat → Raw} (h : LsR N lo hi w v n R) :
  Calls Tryz.prog 11 #[v] w (RetV w (.bool (shortB n R))) := by
 obtain ⟨r, hr⟩ := hid_eq (shortB n R)
 rw [← hr.out]
 obtain ⟨A, c, rfl, hnc, hcm⟩ := h.form
 unfold maxLen at hcm
 have hI := h
 clear h
 go_enter Tryz.func11, Tryz.ntmps11
 by_cases hn : n ≤ 8
 ·have hn' : decide ((n : Int) ≤ 8) = true := by simp; omega
  have HR : Hid (r = !anyB n (fun i => !briefB (R i))) := by rw [Hid, hr.out, anyB_not]; unfold shortB; rw [decide_eq_true hn]; rfl
  obtain ⟨s, hs⟩ := hid_eq (anyB n (fun i => !briefB (R i)))
  rw [← hs.out] at HR
  go_wp2_with (go_at_call 54; refine Hid.out ?_)
  refine (sl_short hI (fun i => !briefB (R i)) (fun i hi w' u e hu => l37_short1 hu)).mono ?_
  rintro e w1 ⟨rfl, e1⟩
  rw [← hs.out]
  go_wp2
  go_ret
  exact ⟨ret_bool HR.out.symm, e1⟩
 ·have hn' : decide ((n : Int) ≤ 8) = false := by simp; omega
  have HR : Hid (r = false) := by rw [Hid, hr.out]; unfold shortB; rw [decide_eq_false hn]; rfl
  go_wp2
  go_ret
  exact ⟨ret_bool HR.out.symm, Ext.refl w⟩
set_option maxHeartbeats 1000000 in
theorem l37_few1 {N lo hi : Nat} {w : World} {v : Value} {n : Nat} {R : Nat → Raw} (h : LsR N lo hi w v n R) :
  Calls Tryz.prog 53 #[v] w (RetV w (.bool (!(decide (n ≤ 4) && shortB n R)))) := by
 obtain ⟨r, hr⟩ := hid_eq (!(decide (n ≤ 4) && shortB n R))
 rw [← hr.out]
 obtain ⟨A, c, rfl, hnc, hcm⟩ := h.form
 unfold maxLen at hcm
 have hI := h
 clear h
 go_enter Tryz.func53, Tryz.ntmps53
 by_cases hn : n ≤ 4
 ·have hn' : decide ((4 : Int) < (n : Int)) = false := by simp; omega
  have HR : Hid (r = !shortB n R) := by rw [Hid, hr.out, decide_eq_true hn]; rfl
  obtain ⟨s, hs⟩ := hid_eq (shortB n R)
  rw [← hs.out] at HR
  go_wp2_with (go_at_call 11; refine Hid.out ?_)
  refine (l37_short hI).mono ?_
  rintro e w1 ⟨rfl, e1⟩
  rw [← hs.out]
  go_wp2
  go_ret
  exact ⟨ret_bool HR.out.symm, e1⟩
 ·have HR : Hid (r = true) := by rw [Hid, hr.out, decide_eq_false hn]; rfl
  go_wp2
  go_ret
  exact ⟨ret_bool HR.out.symm, Ext.refl w⟩
structure Lin where
 m : Nat
 L : Nat → Nat
 A : Nat → Nat → Raw
 nl : Nat
 l : Nat → Raw
 np : Nat
 p : Nat → Raw
def LinV (N lo hi : Nat) (w : World) (v : Value) (Z : Lin) : Prop := ∃ s1 s2 s3, v = .agg #[s1, s2, s3] ∧ MtR N lo hi w s1 Z.m Z.L Z.A ∧ LsR N lo hi w s2 Z.nl Z.l ∧ LsR N lo hi w s3 Z.np Z.p
theorem LinV.ext {N lo hi : Nat} {w w' : World} {v : Value} {Z : Lin} (h : LinV N lo hi w v Z) (e : Ext w w') : LinV N lo hi w' v Z := by
 obtain ⟨s1, s2, s3, hv, h1, h2, h3⟩ := h
 exact ⟨s1, s2, s3, hv, h1.ext e, h2.ext e, h3.ext e⟩
theorem LinV.parts {N lo hi : Nat} {w : World} {v : Value} {Z : Lin} (h : LinV N lo hi w v Z) : ∃ (A1 : Option Addr) (c1 : Nat) (A2 : Option Addr) (c2 : Nat) (A3 : Option Addr) (c3 : Nat), v = .agg #[.slice A1 Z.m c1, .slice A2 Z.nl c2, .slice A3 Z.np c3] ∧
  MtR N lo hi w (.slice A1 Z.m c1) Z.m Z.L Z.A ∧ LsR N lo hi w (.slice A2 Z.nl c2) Z.nl Z.l ∧ LsR N lo hi w (.slice A3 Z.np c3) Z.np Z.p ∧ Z.m ≤ 9223372036854775807 ∧ Z.nl ≤ 9223372036854775807 ∧ Z.np ≤ 9223372036854775807 := by
 obtain ⟨s1, s2, s3, rfl, h1, h2, h3⟩ := h
 obtain ⟨A1, c1, rfl, a1, b1⟩ := h1.form
 obtain ⟨A2, c2, rfl, a2, b2⟩ := h2.form
 obtain ⟨A3, c3, rfl, a3, b3⟩ := h3.form
 unfold maxLen at b1 b2 b3
 exact ⟨A1, c1, A2, c2, A3, c3, rfl, h1, h2, h3, by omega, by omega, by omega⟩
def fewB (Z : Lin) : Bool := decide (Z.m ≤ 6) && shortB Z.nl Z.l && shortB Z.np Z.p && allB Z.m (fun i => decide (Z.L i ≤ 4) && shortB (Z.L i) (Z.A i))
set_option maxHeartbeats 2000000 in
theorem l37_few {N lo hi : Nat} {w : World} {v : Value} {Z : Lin} (h : LinV N lo hi w v Z) :
  Calls Tryz.prog 10 #[v] w (RetV w (.bool (fewB Z))) := by
 obtain ⟨r, hr⟩ := hid_eq (fewB Z)
 rw [← hr.out]
 obtain ⟨A1, c1, A2, c2, A3, c3, rfl, h1, h2, h3, hm, hnl, hnp⟩ := h.parts
 obtain ⟨m, L, A, nl, l, np, p⟩ := Z
 dsimp only at h1 h2 h3 hm hnl hnp ⊢
 have HR : Hid (r = (decide (m ≤ 6) && shortB nl l && shortB np p && allB m (fun i => decide (L i ≤ 4) && shortB (L i) (A i)))) := hr
 obtain ⟨s1, hs1⟩ := hid_eq (shortB nl l)
 obtain ⟨s2, hs2⟩ := hid_eq (shortB np p)
 obtain ⟨s3, hs3⟩ := hid_eq (anyB m (fun i => !(decide (L i ≤ 4) && shortB (L i) (A i))))
 rw [← hs1.out, ← hs2.out, ← anyB_not, ← hs3.out] at HR
 clear h hr
 go_enter Tryz.func10, Tryz.ntmps10
 by_cases hm6 : m ≤ 6
 ·go_wp2_with (go_at_call 11; refine Hid.out ?_)
  refine boxesC1 ?_
  intro W hE hsz B0
  refine (l37_short (h2.ext hE)).mono ?_
  rintro e w1 ⟨rfl, e1⟩
  rw [← hs1.out]
  replace hE := hE.trans e1
  replace B0 := e1.block B0
  obtain ⟨a0, a1, a2, -⟩ := cells3 B0
  rw [decide_eq_true hm6] at HR
  cases s1 with
  | false =>
   have HF : Hid (r = false) := HR.out
   go_wp2
   go_ret
   exact ⟨ret_bool HF.out.symm, hE⟩
  | true =>
   go_wp2_with (go_at_call 11; refine Hid.out ?_)
   refine (l37_short (h3.ext hE)).mono ?_
   rintro e w2 ⟨rfl, e2⟩
   rw [← hs2.out]
   replace hE := hE.trans e2
   replace B0 := e2.block B0
   clear a0 a1 a2
   obtain ⟨a0, a1, a2, -⟩ := cells3 B0
   cases s2 with
   | false =>
    have HF : Hid (r = false) := HR.out
    go_wp2
    go_ret
    exact ⟨ret_bool HF.out.symm, hE⟩
   | true =>
    have HF : Hid (r = !s3) := HR.out
    go_wp2_with (go_at_call 52; refine Hid.out ?_)
    refine (sl_few (h1.ext hE) (fun i => !(decide (L i ≤ 4) && shortB (L i) (A i))) (fun i hi w' u e hu => l37_few1 hu)).mono ?_
    rintro e w3 ⟨rfl, e3⟩
    rw [← hs3.out]
    go_wp2
    go_ret
    exact ⟨ret_bool HF.out.symm, hE.trans e3⟩
 ·have HF : Hid (r = false) := by rw [Hid, HR.out, decide_eq_false hm6]; rfl
  go_wp2
  go_ret
  exact ⟨ret_bool HF.out.symm, (Ext.refl w).alloc _⟩
end Go.Proofs.YtghpfnhmlpfgcaaGreat
