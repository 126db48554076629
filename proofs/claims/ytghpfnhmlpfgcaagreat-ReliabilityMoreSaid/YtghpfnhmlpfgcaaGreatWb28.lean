import Derived.Test.YtghpfnhmlpfgcaaGreatWb27
import Derived.Test.YtghpfnhmlpfgcaaGreatWb23
import Derived.Test.YtghpfnhmlpfgcaaGreatWb24
set_option linter.all false
namespace Go.Proofs.YtghpfnhmlpfgcaaGreat
open Go.RowKit
set_option maxHeartbeats 2000000 in
theorem r5_has {lo hi : Nat} {w : World} {v : Value} {p : List Nat} (h : IsV lo hi w v p) (z : Nat) (hz : z < 1000000000) (hp : ∀ x ∈ p, x < 1000000000) :
  Calls Tryz.prog 117 #[v, .int .i64 (z : Int)] w (RetV w (.bool (p.contains z))) := by
 obtain ⟨r, hr⟩ := hid_eq (p.contains z)
 rw [← hr.out]
 obtain ⟨A, c, rfl, hnc, hcm⟩ := h.form
 unfold maxLen at hcm
 have hI := h
 have HP := Lib.hid hp
 clear h hp
 obtain ⟨n, hn⟩ := hid_eq p.length
 rw [← hn.out] at hI hnc ⊢
 go_enter Tryz.func117, Tryz.ntmps117
 go_wp2
 go_loop [5] (fun i => ∃ k : Nat, k ≤ n ∧ i = .int .i64 k ∧ Hid (∀ j, j < k → p[j]?.getD 0 ≠ z)) (fun i => n - (intOf i).toNat)
 case atStart => exact ⟨0, Nat.zero_le _, rfl, fun j hj => by omega⟩
 case round =>
  obtain ⟨k, hk, rfl, HA⟩ := hrel
  by_cases hlt : k < n
  ·have hkp : k < p.length := by rw [← hn.out]; exact hlt
   obtain ⟨b, off, y, rfl, p0, HY⟩ := hI.at_ hkp
   have hpl : p.length = n := hn.out.symm
   have HPL := Lib.hid hpl
   clear hpl hkp
   by_cases hyz : y = z
   ·have HF : Hid (r = true) := by
     rw [Hid, hr.out, List.contains_iff_mem]
     have h1 : p[k]? = some z := by
      have h2 := HY.out
      have h3 : k < p.length := by have := HPL.out; omega
      rw [List.getElem?_eq_getElem h3] at h2 ⊢
      simp only [Option.getD_some] at h2
      rw [← h2, hyz]
     exact List.mem_of_getElem? h1
    subst hyz
    go_wp2
    go_ret
    exact ⟨ret_bool HF.out.symm, Ext.refl w⟩
   ·have hne : ((y : Int) == (z : Int)) = false := beq_eq_false_iff_ne.2 (by omega)
    go_wp2
    go_round
    case rel => exact ⟨k + 1, by omega, by go_num, all_succ (p := fun j => p[j]?.getD 0 ≠ z) HA.out (by rw [← HY.out]; exact hyz)⟩
    case measure => simp [intOf]; omega
  ·have HF : Hid (r = false) := by
    rw [Hid, hr.out]
    cases hc : p.contains z with
    | false => rfl
    | true =>
     rw [List.contains_iff_mem] at hc
     obtain ⟨j, hj, he⟩ := List.getElem_of_mem hc
     exact absurd (by rw [List.getElem?_eq_getElem hj]; simpa using he) (HA.out j (by have := hn.out; omega))
   go_wp2
   go_ret
   exact ⟨ret_bool HF.out.symm, Ext.refl w⟩
set_option maxHeartbeats 2000000 in
theorem r5_rank {N lo hi : Nat} {w : World} {v : Value} {m n : Nat} {X : Nat → Nat → Rat} (h : MtV N lo hi w v m n X) (hm0 : 0 < m) (hm : m < 1000000) (hn0 : 0 < n) (hn : n < 1000000)
  {q P : Nat} (hq : HtM m n q X) (hP : m ≤ P ∨ n ≤ P) (hK : 5 * (5 ^ P * q) ≤ 29000000000) :
  Calls Tryz.prog 22 #[v] w (RetV w (.int .i64 (((rref m X n).2.length : Nat) : Int))) := by
 obtain ⟨r, hr⟩ := hid_eq (rref m X n).2.length
 rw [← hr.out]
 have HC : Hid (Calls Tryz.prog 71 #[v] w (RetEch N w m n (rref m X n).1 (rref m X n).2)) := r5_echelon h hm0 hm hn0 hn hq hP hK
 obtain ⟨A, c, rfl, hmc, hcm⟩ := h.form
 clear h hq hP hK
 go_enter Tryz.func22, Tryz.ntmps22
 go_wp2_with (go_at_call 71; refine Hid.out ?_)
 refine HC.out.mono ?_
 rintro e w1 ⟨h, cap, β, κ, A', c', rfl, hcap, ho, hi', hE⟩
 rw [← hr.out]
 clear hi' ho
 go_wp2
 go_ret
 exact ⟨rfl, hE⟩
set_option maxHeartbeats 2000000 in
theorem r5_apply {N lo hi lo' hi' : Nat} {w : World} {v v' : Value} {m n : Nat} {X : Nat → Nat → Rat} {x : Nat → Rat} (h : MtV N lo hi w v m n X) (h' : LsV N lo' hi' w v' n x) (hm : m < 1000000) (hn0 : 0 < n) (hn : n < 1000000)
  {kx ky : Nat} (hkx : HtM m n kx X) (hky : HtL n ky x) (hK : n * (kx + ky + 1) + 1 ≤ 29000000000) :
  Calls Tryz.prog 65 #[v, v'] w (RetL N w m (fun i => sum n (fun c => X i c * x c))) := by
 have hI := h
 have hI' := h'
 obtain ⟨A, c, rfl, hmc, hcm⟩ := h.form
 obtain ⟨A0, c0, rfl, hmc0, hcm0⟩ := h'.form
 have HX := Lib.hid hkx
 have HY := Lib.hid hky
 have HK := Lib.hid hK
 clear h h' hkx hky hK hcm hcm0
 go_enter Tryz.func65, Tryz.ntmps65
 go_wp2_with (go_at_call 116; refine Hid.out ?_)
 refine (r5_column hI' hn).mono ?_
 intro e w1 hh
 obtain ⟨A2, c2, rfl, h2, e2⟩ := hh.mt
 go_wp2_with (go_at_call 35; refine Hid.out ?_)
 refine (r5_mul (hI.ext e2) h2 hm hn0 hn (by omega) (by omega) HX.out (fun i hi j _ => HY.out i hi) HK.out).mono ?_
 intro e w3 hh
 obtain ⟨A3, c3, rfl, h3, e3⟩ := hh.mt
 go_wp2_with (go_at_call 115; refine Hid.out ?_)
 refine (r5_first h3 hm (by omega)).mono ?_
 rintro e w4 ⟨A4, c4, rfl, h4, e4⟩
 go_wp2
 go_ret
 have hs2 := e2.size
 have hs3 := e3.size
 exact ⟨A4, c4, rfl, LsR.wide h4 (by omega) (Nat.le_refl _) (Nat.le_refl _), (e2.trans e3).trans e4⟩
def solTo (n : Nat) (M : Nat → Nat → Rat) (p : List Nat) (k c : Nat) : Rat := sum k (fun s => dlt (p[s]?.getD 0) c * M s n)
theorem solTo_succ {n : Nat} {M : Nat → Nat → Rat} {p : List Nat} {k : Nat} (hp : ∀ s, s < k → p[s]?.getD 0 ≠ p[k]?.getD 0) (c : Nat) : solTo n M p (k + 1) c = upd (solTo n M p k) (p[k]?.getD 0) (M k n) c := by
 unfold solTo upd
 rw [sum_succ]
 by_cases h : c = p[k]?.getD 0
 ·rw [if_pos h, h, dlt_same, sum_eq_zero (fun s hs => by rw [dlt_ne (hp s hs)]; grind)]; grind
 ·rw [if_neg h, dlt_ne (fun e => h e.symm)]; grind
def RetSol (N : Nat) (w : World) (n : Nat) (ok : Bool) (x : Nat → Rat) (e : Ending) (w' : World) : Prop :=
 Ext w w' ∧ ((ok = false ∧ e = .returned (.tuple #[.slice none 0 0, .bool false])) ∨ (ok = true ∧ ∃ A c, e = .returned (.tuple #[.slice A n c, .bool true]) ∧ LsV N w.heap.size w'.heap.size w' (.slice A n c) n x))
set_option maxHeartbeats 8000000 in
theorem r5_solve {N lo hi lo' hi' : Nat} {w : World} {v v' : Value} {m n : Nat} {X : Nat → Nat → Rat} {y : Nat → Rat} (h : MtV N lo hi w v m n X) (h' : LsV N lo' hi' w v' m y) (hm0 : 0 < m) (hm : m < 1000000) (hn0 : 0 < n) (hn : n < 100000)
  {q P : Nat} (hq : HtM m n q X) (hq' : HtL m q y) (hP : m ≤ P ∨ n + 1 ≤ P) (hK : 5 * (5 ^ P * q) ≤ 29000000000) :
  Calls Tryz.prog 67 #[v, v'] w (RetSol N w n (!(rref m (aug n X y) (n + 1)).2.contains n) (sol n (rref m (aug n X y) (n + 1)).1 (rref m (aug n X y) (n + 1)).2)) := by
 have hI := h
 have hI' := h'
 have hN := h.le
 have hRr := rref_ok m (aug n X y) (n + 1)
 have HQ : Hid (HtM m (n + 1) q (aug n X y)) := fun i hi c hc => by
  unfold aug; split
  ·exact hq i hi c (by assumption)
  ·exact hq' i hi
 have HE : Hid (∀ w1 v1 lo1 hi1, MtV N lo1 hi1 w1 v1 m (n + 1) (aug n X y) → Calls Tryz.prog 71 #[v1] w1 (RetEch N w1 m (n + 1) (rref m (aug n X y) (n + 1)).1 (rref m (aug n X y) (n + 1)).2)) :=
  fun w1 v1 lo1 hi1 h1 => r5_echelon h1 hm0 hm (by omega) (by omega) HQ.out hP hK
 obtain ⟨Rf, hRf⟩ := hid_eq (RetSol N w n (!(rref m (aug n X y) (n + 1)).2.contains n) (sol n (rref m (aug n X y) (n + 1)).1 (rref m (aug n X y) (n + 1)).2))
 rw [← hRf.out]
 generalize rref m (aug n X y) (n + 1) = st at hRr HE hRf
 obtain ⟨M, p⟩ := st
 simp only at hRr HE hRf
 have HR := Lib.hid hRr
 obtain ⟨A, c, rfl, hmc, hcm⟩ := h.form
 obtain ⟨A0, c0, rfl, hmc0, hcm0⟩ := h'.form
 unfold maxLen at hcm hcm0
 obtain ⟨b, off, rfl, -, -, hx⟩ := h.addr hm0
 obtain ⟨A1, c1, p0, hnc, hcm1, -⟩ := hx 0 hm0
 rw [Nat.add_zero] at p0
 unfold maxLen at hcm1
 have hpl : p.length ≤ m := hRr.len
 obtain ⟨np, hnp⟩ := hid_eq p.length
 obtain ⟨ok, hok⟩ := hid_eq (p.contains n)
 rw [← hok.out] at hRf
 have hpl' : np ≤ m := by rw [hnp.out]; exact hpl
 clear h h' hx hRr hq hq' hP hK hpl
 go_enter Tryz.func67, Tryz.ntmps67
 go_wp2_with (go_at_call 116; refine Hid.out ?_)
 refine (r5_column hI' hm).mono ?_
 intro e w1 hh
 obtain ⟨A2, c2, rfl, h2, e2⟩ := hh.mt
 go_wp2_with (go_at_call 82; refine Hid.out ?_)
 refine (r5_beside (hI.ext e2) h2 hm hn0 (by omega)).mono ?_
 intro e w3 hh
 obtain ⟨A3, c3, rfl, h3, e3⟩ := hh.mt
 go_wp2_with (go_at_call 71; refine Hid.out ?_)
 refine (HE.out w3 _ _ _ h3).mono ?_
 rintro e w4 ⟨h, cap, β, κ, A', c', rfl, hcap, ho, hi', e4⟩
 rw [← hnp.out] at hi' ⊢
 have hE := (e2.trans e3).trans e4
 have hs2 := e2.size
 have hs3 := e3.size
 have hs4 := e4.size
 clear h2 h3 e2 e3 e4 p0
 go_wp2_with (go_at_call 117; refine Hid.out ?_)
 refine (r5_has hi' n (by omega) (fun x hx => by
  obtain ⟨i, hi, he⟩ := List.getElem_of_mem hx
  have := HR.out.low i hi
  rw [List.getElem?_eq_getElem hi] at this
  simp only [Option.getD_some] at this
  omega)).mono ?_
 rintro e w5 ⟨rfl, e5⟩
 rw [← hok.out]
 replace hE := hE.trans e5
 replace ho := ho.ext e5
 replace hi' := hi'.ext e5
 have hs5 := e5.size
 clear e5
 cases ok with
 | true =>
  go_wp2
  rw [hRf.out]
  exact ⟨hE, .inl ⟨rfl, rfl⟩⟩
 | false =>
  go_wp2_with (go_at_call 41; refine Hid.out ?_)
  refine (r5_zeros (N := N) (by omega) 1 n rfl rfl (by omega) hn0 (by omega)).mono ?_
  rintro e w6 ⟨h6, cap6, β6, κ6, rfl, hcap6, ho6, e6⟩
  have z0 := ho6.hcell (i := 0) (by omega)
  have hRow := ho6.row 0 (by omega)
  have hRlo := ho6.lo_ 0 (by omega)
  have hRhi := ho6.hi_ 0 (by omega)
  have hRcap := ho6.cap 0 (by omega)
  replace hE := hE.trans e6
  replace ho := ho.ext e6
  replace hi' := hi'.ext e6
  have hs6 := e6.size
  clear ho6
  generalize β6 0 = g at *
  generalize κ6 0 = kg at *
  have HNP : Hid (∀ s k, s < k → k < p.length → p[s]?.getD 0 < p[k]?.getD 0) := HR.out.inc
  have HNN : Hid (∀ s, s < p.length → p[s]?.getD 0 < n) := fun s hs => by
   have h1 := HR.out.low s hs
   have h2 : p[s]?.getD 0 ≠ n := fun e => by
    have h3 : p.contains n = true := by
     rw [List.contains_iff_mem]
     have : p[s]? = some n := by
      rw [List.getElem?_eq_getElem hs] at e ⊢
      simpa using e
     exact List.mem_of_getElem? this
    rw [← hok.out] at h3; cases h3
   omega
  go_wp2
  go_loopw [10] (fun i wr => ∃ k : Nat, k ≤ np ∧ i = .int .i64 k ∧ Ext w wr ∧ w6.heap.size ≤ wr.heap.size ∧ OwnM N w3.heap.size w4.heap.size wr h cap m (n + 1) β κ M ∧ IsV w3.heap.size w4.heap.size wr (.slice A' np c') p ∧ RowB N wr g kg n (solTo n M p k)) (fun i _ => np - (intOf i).toNat)
  case atStart => exact ⟨0, Nat.zero_le _, rfl, hE, Nat.le_refl _, ho, hi', hRow.congr (fun c _ => by unfold solTo; rfl)⟩
  case round =>
   clear hE ho hi' hRow z0
   obtain ⟨k, hk, rfl, hE, hsr, ho, hi', hRow⟩ := hrel
   by_cases hlt : k < np
   ·have hkp : k < p.length := by rw [← hnp.out]; exact hlt
    obtain ⟨bp, op, z, rfl, y0, HZ⟩ := hi'.at_ hkp
    have hzn : z < n := by rw [HZ.out]; exact HNN.out k hkp
    have hkm : k < m := by omega
    have hnn : (n : Int) < (n : Int) + 1 := by omega
    have r0 := ho.hcell (i := k) (by omega)
    obtain ⟨n1, A3, k3, c3, A4, k4, c4, t0, t1, t2, t3, t4, t5, t6, t7, hb3, g3, g4⟩ := (ho.row k (by omega)).at_ (i := n) (by omega)
    obtain ⟨zb, zA, zn, zc, zA2, zn2, zc2, u0, u1, u2, u3, u4, u5, u6, u7, -⟩ := hRow.at_ hzn
    have HS : Hid (∀ c, solTo n M p (k + 1) c = upd (solTo n M p k) z (M k n) c) := fun c => by
     rw [HZ.out]; exact solTo_succ (fun s hs => by have := HNP.out s k hs hkp; omega) c
    clear hkp
    go_upto_region 9 with (fail)
    have eC := (Ext.refl wr).drew
    refine region_late (fun w' => w'.cell? ⟨bp, op + k, none⟩ = some (.int .i64 (z : Int)) ∧ w'.cell? ⟨h, k, none⟩ = some (.slice (some ⟨β k, 0, none⟩) (n + 1) (κ k)) ∧ w'.cell? ⟨β k, n * 4, none⟩ = some (.bool n1) ∧ w'.cell? ⟨β k, n * 4 + 1, none⟩ = some (.slice A3 k3 c3) ∧ w'.cell? ⟨β k, n * 4 + 2, none⟩ = some (.bool false) ∧ w'.cell? ⟨β k, n * 4 + 3, none⟩ = some (.slice A4 k4 c4)) [13] (by kernel_rfl) (by exact ⟨eC.cell y0, eC.cell r0, eC.cell t0, eC.cell t1, eC.cell t2, eC.cell t3⟩) (fun hHeld => ?_)
    refine sP 0 (h := ?_)
    try simp only [nr]
    refine sP 1 (h := ?_)
    try simp only [nr]
    refine sP 2 (h := ?_)
    try simp only [nr]
    refine sP 3 (h := ?_)
    try simp only [nr]
    refine sT 4 (h := ?_)
    try simp only [nr]
    refine sP 5 (h := ?_)
    try simp only [nr]
    refine sP 6 (h := ?_)
    try simp only [nr]
    refine sP 7 (h := ?_)
    try simp only [nr]
    refine sT 8 (h := ?_)
    try simp only [nr]
    refine sP 9 (h := ?_)
    try simp only [nr]
    refine sP 10 (h := ?_)
    try simp only [nr]
    refine sT 11 (h := ?_)
    try simp only [nr]
    refine sP 12 (h := ?_)
    try simp only [nr]
    refine stepL_late (i := 13) rfl (by kernel_rfl) (by kernel_rfl) (fun K hK => ?_)
    go_simp
    refine hK.out _ _ ?_
    clear hK K
    try simp only [nr]
    refine stepL_done (by kernel_rfl) ?_ _
    clear hHeld
    obtain ⟨w7, E7, C7, hs7, hr7⟩ := hRow.set (i := z) (q := M k n) (by have := hRow.2.1; omega) (by omega) hb3 g3 g4
    rw [E7]
    replace hE := C7.ext hE (by omega)
    replace ho := ho.chg C7 (by omega) (.inl (by omega))
    replace hi' := hi'.chg C7 (.inl (by omega))
    have hr8 := (hr7.less (n' := n) (by omega)).congr (y := solTo n M p (k + 1)) (fun c _ => (HS.out c).symm)
    have hsr7 : w6.heap.size ≤ w7.heap.size := by omega
    clear E7 C7 hs7 hr7 hRow t0 t1 t2 t3 t4 t5 t6 t7 u0 u1 u2 u3 u4 u5 u6 u7 r0 y0
    go_wp2
    go_roundw
    case rel => exact ⟨k + 1, by omega, by go_num, hE.drew, hsr7, ho.ext (Ext.refl _).drew, hi'.ext (Ext.refl _).drew, hr8.ext (Ext.refl _).drew⟩
    case measure => simp [intOf]; omega
   ·obtain rfl : k = np := by omega
    go_wp2
    rw [hRf.out]
    refine ⟨hE, .inr ⟨rfl, _, _, rfl, ?_⟩⟩
    have hl := hRow.lsv (c := kg) (lo := w.heap.size) (hi := wr.heap.size) hRow.2.1 hRcap (by omega) hRow.lt (Nat.le_refl _)
    exact hl.congr (fun c _ => by unfold solTo sol; rw [← hnp.out])
end Go.Proofs.YtghpfnhmlpfgcaaGreat
namespace Go.Proofs.YtghpfnhmlpfgcaaGreat
open Go.RowKit
theorem run_make_rows (w : World) (kl kc : IntKind) (n : Nat) (hn : n * 24 ≤ 281474976710656) :
  ∃ w' cs, (Instr.makeSlice 23 (.int kl n) (.int kc n)).run Tryz.prog w = .ok (.slice (some ⟨w.heap.size, 0, none⟩) n n) w' ∧ w'.heap[w.heap.size]? = some (.cells cs 24 (0, 0)) ∧ cs.size = n ∧ Ext w w' := by
 obtain ⟨i0, hi0, hz0, hz1, hz2⟩ := info_parts info_row
 obtain ⟨w', hrun, hown, hgr⟩ := run_make_full (P := Tryz.prog) w w.heap.size 23 24 i0 _ 1 Tryz.underlying23 hi0 hz0 hz1 kl kc n (by rw [hz2]; omega) (by unfold maxLen; omega) (Nat.le_refl _)
 have hx := (Ext.refl w).grown hgr (fun k hk => by cases hk)
 rcases hown.2 with ⟨h, _⟩ | ⟨g, cap, cur, hv, hg, hh, hnc, hcm, hcs, htk⟩
 ·cases h
 ·have e1 : w.heap.size = g := Option.some.inj (congrArg Value.ownBlock hv)
  have e3 : n = cap := congrArg (fun v : Value => match v with | .slice _ _ c => c | _ => 0) hv
  subst e1 e3
  exact ⟨w', cur, hrun, hh, by omega, hx⟩
theorem run_make_rats (w : World) (kl kc : IntKind) (n : Nat) (hn : n * 64 ≤ 281474976710656) :
  ∃ w' cs, (Instr.makeSlice 24 (.int kl n) (.int kc n)).run Tryz.prog w = .ok (.slice (some ⟨w.heap.size, 0, none⟩) n n) w' ∧ w'.heap[w.heap.size]? = some (.cells cs 37 (0, 0)) ∧ cs.size = n * 4 ∧ Ext w w' := by
 obtain ⟨i0, hi0, hz0, hz1, hz2⟩ := info_parts info_rat
 obtain ⟨w', hrun, hown, hgr⟩ := run_make_full (P := Tryz.prog) w w.heap.size 24 37 i0 _ 4 Tryz.underlying24 hi0 hz0 hz1 kl kc n (by rw [hz2]; omega) (by unfold maxLen; omega) (Nat.le_refl _)
 have hx := (Ext.refl w).grown hgr (fun k hk => by cases hk)
 rcases hown.2 with ⟨h, _⟩ | ⟨g, cap, cur, hv, hg, hh, hnc, hcm, hcs, htk⟩
 ·cases h
 ·have e1 : w.heap.size = g := Option.some.inj (congrArg Value.ownBlock hv)
  have e3 : n = cap := congrArg (fun v : Value => match v with | .slice _ _ c => c | _ => 0) hv
  subst e1 e3
  exact ⟨w', cur, hrun, hh, hcs, hx⟩
theorem wpList_make_rows {w : World} {ops : Array Oper} {rest : List Oper} {o : Oper} {a : Act} {Q : Exit → Act → World → Prop} (hg : o.guard = none) (l c : Operand) (hop : o.op = Op.makeSlice 23 l c)
  (kl kc : IntKind) (L C : Int) (n : Nat) (hl : a.eval l = .int kl L) (hc : a.eval c = .int kc C) (hL : L = (n : Int)) (hC : C = (n : Int)) (hn : n < 1000000)
  (hK : ∀ w' cs, w'.heap[w.heap.size]? = some (.cells cs 24 (0, 0)) → cs.size = n → Ext w w' → wpList Tryz.prog ops Q rest (a.put o.dst (.slice (some ⟨w.heap.size, 0, none⟩) n n)) w') : wpList Tryz.prog ops Q (o :: rest) a w := by
 refine wpList_plain hg fun K hK' => ?_
 obtain ⟨w', cs, hrun, r1, r2, r3⟩ := run_make_rows w kl kc n (by omega)
 subst hL
 subst hC
 unfold Oper.wp
 simp [execOp, hop, hl, hc, hrun, Result.andThen]
 exact hK' _ _ (hK w' cs r1 r2 r3)
theorem wpList_make_rats {w : World} {ops : Array Oper} {rest : List Oper} {o : Oper} {a : Act} {Q : Exit → Act → World → Prop} (hg : o.guard = none) (l c : Operand) (hop : o.op = Op.makeSlice 24 l c)
  (kl kc : IntKind) (L C : Int) (n : Nat) (hl : a.eval l = .int kl L) (hc : a.eval c = .int kc C) (hL : L = (n : Int)) (hC : C = (n : Int)) (hn : n < 1000000)
  (hK : ∀ w' cs, w'.heap[w.heap.size]? = some (.cells cs 37 (0, 0)) → cs.size = n * 4 → Ext w w' → wpList Tryz.prog ops Q rest (a.put o.dst (.slice (some ⟨w.heap.size, 0, none⟩) n n)) w') : wpList Tryz.prog ops Q (o :: rest) a w := by
 refine wpList_plain hg fun K hK' => ?_
 obtain ⟨w', cs, hrun, r1, r2, r3⟩ := run_make_rats w kl kc n (by omega)
 subst hL
 subst hC
 unfold Oper.wp
 simp [execOp, hop, hl, hc, hrun, Result.andThen]
 exact hK' _ _ (hK w' cs r1 r2 r3)
theorem OwnM.more {N lo hi : Nat} {w : World} {h k m n : Nat} {β κ : Nat → Nat} {A : Nat → Nat → Rat} (o : OwnM N lo hi w h k m n β κ A) (hm : m < k) {b cap : Nat} {x : Nat → Rat} (hc : w.cell? ⟨h, m, none⟩ = some (.slice (some ⟨b, 0, none⟩) n cap)) (hr : RowB N w b cap n x) (hb : hi ≤ b) (hcm : cap ≤ maxLen) :
  OwnM N lo w.heap.size w h k (m + 1) n (fun i => if i = m then b else β i) (fun i => if i = m then cap else κ i) (updM A m x) := by
 obtain ⟨hs, h1, h2, h3⟩ := o.hh
 have hlt := hr.lt
 have hlo := o.hlo
 have hhi := o.hhi
 have his := o.his
 refine ⟨o.le, ⟨hs, h1, h2, fun i hi' => ?_⟩, by omega, hlo, by omega, Nat.le_refl _, fun i hi' => ?_, fun i hi' => ?_, fun i hi' => ?_, fun i hi' => ?_, fun i j hi' hj' hij => ?_⟩
 ·by_cases e : i = m
  ·subst e; rw [cell_blk h1] at hc; rw [hc]; simp
  ·rw [h3 i (by omega)]; simp [e]
 ·by_cases e : i = m
  ·simp only [e, if_true]; omega
  ·simp only [e, if_false]; exact o.lo_ i (by omega)
 ·by_cases e : i = m
  ·simp only [e, if_true]; exact hlt
  ·simp only [e, if_false]; have := o.hi_ i (by omega); omega
 ·by_cases e : i = m
  ·simp only [e, if_true]; exact hcm
  ·simp only [e, if_false]; exact o.cap i (by omega)
 ·by_cases e : i = m
  ·simp only [e, if_true]; rw [updM_same]; exact hr
  ·simp only [e, if_false]; rw [updM_ne A x e]; exact o.row i (by omega)
 ·by_cases e : i = m
  ·have e2 : j ≠ m := by omega
   simp only [e, e2, if_true, if_false]; have := o.hi_ j (by omega); omega
  ·by_cases e2 : j = m
   ·simp only [e, e2, if_true, if_false]; have := o.hi_ i (by omega); omega
   ·simp only [e, e2, if_false]; exact o.inj i j (by omega) (by omega) hij
theorem OwnM.start {N lo : Nat} {w : World} {h k n : Nat} {cs : Array Value} (hN : N ≤ lo) (hl : lo ≤ h) (hb : w.heap[h]? = some (.cells cs 24 (0, 0))) (hk : cs.size = k) (A : Nat → Nat → Rat) {hi : Nat} (h1 : h < hi) (h2 : hi ≤ w.heap.size) : OwnM N lo hi w h k 0 n (fun _ => 0) (fun _ => 0) A :=
 ⟨hN, ⟨cs, hb, hk, fun i hi => by omega⟩, by omega, hl, h1, h2, fun i hi => by omega, fun i hi => by omega, fun i hi => by omega, fun i hi => by omega, fun i j hi => by omega⟩
theorem OwnM.setHead {N lo hi : Nat} {w : World} {h k m n : Nat} {β κ : Nat → Nat} {A : Nat → Nat → Rat} (o : OwnM N lo hi w h k m n β κ A) {i : Nat} (hi' : m ≤ i) (hik : i < k) (v : Value) :
  ∃ w', w.setCell ⟨h, i, none⟩ v = w' ∧ Chg h (h + 1) w w' ∧ w'.heap.size = w.heap.size ∧ w'.cell? ⟨h, i, none⟩ = some v ∧ OwnM N lo hi w' h k m n β κ A := by
 obtain ⟨hs, h1, h2, h3⟩ := o.hh
 have b1 := heap_set h1 i v
 have U : Upd h w (w.setCell ⟨h, i, none⟩ v) := (Upd.refl h w).set i v
 have c := U.chg o.noU
 have hlo := o.hlo
 have hN := o.le
 refine ⟨_, rfl, c, U.size, ?_, o.le, ⟨_, b1, by simp [h2], fun j hj => ?_⟩, o.mle, o.hlo, o.hhi, Nat.le_trans o.his c.size, o.lo_, o.hi_, o.cap, fun j hj => (o.row j hj).chg c (by omega) (by have := o.ne hj; omega), o.inj⟩
 ·rw [cell_blk b1, Array.getElem?_setIfInBounds_self_of_lt (by omega)]
 ·rw [Array.getElem?_setIfInBounds_ne (by omega)]; exact h3 j hj
theorem OwnM.hthere {N lo hi : Nat} {w : World} {h k m n : Nat} {β κ : Nat → Nat} {A : Nat → Nat → Rat} (o : OwnM N lo hi w h k m n β κ A) {i : Nat} (hi' : i < k) : ∃ u, w.cell? ⟨h, i, none⟩ = some u := by
 obtain ⟨hs, h1, h2, -⟩ := o.hh
 rw [cell_blk h1]; exact ⟨_, Array.getElem?_eq_getElem (by omega)⟩
set_option maxHeartbeats 4000000 in
theorem m_made_copied {N : Nat} {w : World} (hN : N ≤ w.heap.size) (m n : Nat) {M' N' : Int} (hM' : M' = (m : Int)) (hN' : N' = (n : Int)) (hm : m < 1000000) (hn : n < 1000000) (X : Nat → Nat → Rat) {gb : Nat}
  (hf : ∀ i, i < m → ∀ j, j < n → ∀ w', Ext w w' → Calls Tryz.prog 188 #[.int .i64 (i : Int), .int .i64 (j : Int), .pointer (some ⟨gb, 0, none⟩)] w' (RetR N w' (X i j))) :
  Calls Tryz.prog 154 #[.int .i64 M', .int .i64 N', .func (.func 188) #[] #[.pointer (some ⟨gb, 0, none⟩)]] w (RetOwn N w m n X) := by
 subst hM' hN'
 have HF := Lib.hid hf
 clear hf
 go_enter Tryz.func154, Tryz.ntmps154
 go_wp2_with (at_make; refine Hid.out ?_)
 refine wpList_make_rows rfl _ _ rfl .i64 .i64 _ _ m rfl rfl rfl rfl hm ?_
 intro w1 cs B0 hcs e1
 have ho : OwnM N w.heap.size w1.heap.size w1 w.heap.size m 0 n (fun _ => 0) (fun _ => 0) X := OwnM.start hN (Nat.le_refl _) B0 hcs X (blk_lt B0) (Nat.le_refl _)
 have hs1 : w.heap.size < w1.heap.size := blk_lt B0
 clear B0
 have HCS := Lib.hid hcs
 clear hcs
 go_wp2
 go_loopw [14] (fun i wr => ∃ k : Nat, k ≤ m ∧ i = .int .i64 k ∧ Ext w wr ∧ ∃ β κ, OwnM N w.heap.size wr.heap.size wr w.heap.size m k n β κ X) (fun i _ => m - (intOf i).toNat)
 case atStart => exact ⟨0, Nat.zero_le _, rfl, e1, _, _, ho⟩
 case round =>
  clear ho e1
  obtain ⟨k, hk, rfl, hE, β, κ, ho⟩ := hrel
  have hsr : w.heap.size < wr.heap.size := by have := ho.hhi; omega
  by_cases hlt : k < m
  ·go_wp2_with (at_make; refine Hid.out ?_)
   refine wpList_make_rats rfl _ _ rfl .i64 .i64 _ _ n rfl rfl rfl rfl hn ?_
   intro w2 cs2 B2 hcs2 e2
   have ho2 := ho.ext e2
   have hR : RowB N w2 wr.heap.size n 0 (X k) := ⟨by omega, Nat.zero_le _, ⟨cs2, B2, hcs2⟩, fun j hj => by omega⟩
   obtain ⟨u0, z0⟩ := ho2.hthere hlt
   have z1 := ho2.hfrozen k
   have hs2 : wr.heap.size < w2.heap.size := blk_lt B2
   have HCS2 := Lib.hid hcs2
   clear B2 hcs2 ho
   go_upto_region 6 with (fail)
   obtain ⟨w3, E3, C3, hs3, y0, ho3⟩ := ho2.setHead (Nat.le_refl k) hlt (.slice (some ⟨wr.heap.size, 0, none⟩) n n)
   rw [E3]
   replace hE := C3.ext (hE.trans e2) (Nat.le_refl _)
   replace hR := hR.chg C3 (by omega) (by omega)
   have hs4 : wr.heap.size < w3.heap.size := by omega
   generalize hgr : wr.heap.size = gr at *
   clear hgr E3 C3 hs3 ho2 z0 z1 e2 hs2
   have Y0 := y0
   go_wp2
   go_loopw [27] (fun i ws => ∃ j : Nat, j ≤ n ∧ i = .int .i64 j ∧ Ext w ws ∧ gr < ws.heap.size ∧ ws.cell? ⟨w.heap.size, k, none⟩ = some (.slice (some ⟨gr, 0, none⟩) n n) ∧ OwnM N w.heap.size gr ws w.heap.size m k n β κ X ∧ RowB N ws gr n j (X k)) (fun i _ => n - (intOf i).toNat)
   case atStart => exact ⟨0, Nat.zero_le _, rfl, hE, hs4, y0, ho3, hR⟩
   case round =>
    clear hE y0 ho3 hR hs4 Y0
    obtain ⟨j, hj, rfl, hE, hs4, y0, ho3, hR⟩ := hrel
    by_cases hlt' : j < n
    ·go_upto_region 9 with (fail)
     have eC := (Ext.refl wr).drew
     refine region_late (fun w' => w'.cell? ⟨w.heap.size, k, none⟩ = some (.slice (some ⟨gr, 0, none⟩) n n)) [10] (by kernel_rfl) (by exact eC.cell y0) (fun hHeld => ?_)
     refine sP 0 (h := ?_)
     try simp only [nr]
     refine sP 1 (h := ?_)
     try simp only [nr]
     refine sP 2 (h := ?_)
     try simp only [nr]
     refine sT 3 (h := ?_)
     try simp only [nr]
     refine sP 4 (h := ?_)
     try simp only [nr]
     refine sP 5 (h := ?_)
     try simp only [nr]
     refine sP 6 (h := ?_)
     try simp only [nr]
     refine sP 7 (h := ?_)
     try simp only [nr]
     refine stepL_only (i := 8) rfl (by kernel_rfl) (fun K hK => ?_)
     go_simp
     refine (HF.out k hlt j hlt' _ (hE.trans eC)).mono ?_
     intro e w5 hh
     obtain ⟨b9, A9, k9, c9, A10, k10, c10, rfl, hb9, g9, g10, e5⟩ := hh.form
     replace eC := eC.trans e5
     have hR5 := hR.ext eC
     obtain ⟨x0, v0⟩ := hR5.there (o := j * 4) (by omega)
     obtain ⟨x1, v1⟩ := hR5.there (o := j * 4 + 1) (by omega)
     obtain ⟨x2, v2⟩ := hR5.there (o := j * 4 + 2) (by omega)
     obtain ⟨x3, v3⟩ := hR5.there (o := j * 4 + 3) (by omega)
     have f0 := hR5.frozen (j * 4)
     have f1 := hR5.frozen (j * 4 + 1)
     have f2 := hR5.frozen (j * 4 + 2)
     have f3 := hR5.frozen (j * 4 + 3)
     go_wp2_with fail
     clear hHeld
     refine hK.out _ _ (by exact eC.cell y0) fun hHeld => ?_
     clear hK K
     try simp only [nr]
     refine sP 9 (h := ?_)
     try simp only [nr]
     refine stepL_late (i := 10) rfl (by kernel_rfl) (by kernel_rfl) (fun K hK => ?_)
     go_simp
     refine hK.out _ _ ?_
     clear hK K
     try simp only [nr]
     refine stepL_done (by kernel_rfl) ?_ _
     clear hHeld
     obtain ⟨w6, E6, C6, hs6, hr6⟩ := hR5.set (i := j) (q := X k j) hlt' (Nat.le_refl _) hb9 g9 g10
     rw [E6]
     replace hE := C6.ext (hE.trans eC) (by omega)
     replace ho3 := (ho3.ext eC).chg C6 (by omega) (.inl (Nat.le_refl _))
     replace y0 := C6.cell (p := ⟨w.heap.size, k, none⟩) (eC.cell y0) (.inl (by simp only; omega))
     have hr7 := (hr6.less (n' := j + 1) (by omega)).congr (y := X k) (fun c hc => by unfold upd; split; (rename_i e; rw [e]); rfl)
     have hs7 : gr < w6.heap.size := by have := eC.size; omega
     clear E6 C6 hs6 hr6 hR hR5 v0 v1 v2 v3 f0 f1 f2 f3
     go_wp2
     go_roundw
     case rel => exact ⟨j + 1, by omega, by go_num, hE, hs7, y0, ho3, hr7⟩
     case measure => simp [intOf]; omega
    ·obtain rfl : j = n := by omega
     have ho4 := (ho3.more hlt y0 hR (Nat.le_refl _) (by unfold maxLen; omega)).congr (B := X) (fun i _ c _ => by unfold updM; split; (rename_i e; rw [e]); rfl)
     go_wp2
     go_roundw
     case rel => exact ⟨k + 1, by omega, by go_num, hE, _, _, ho4⟩
     case measure => simp [intOf]; omega
  ·obtain rfl : k = m := by omega
   go_wp2
   go_ret
   exact ⟨_, _, β, κ, rfl, by unfold maxLen; omega, ho, hE⟩
set_option maxHeartbeats 4000000 in
theorem m_made_unit {N : Nat} {w : World} (hN : N ≤ w.heap.size) (m n : Nat) {M' N' : Int} (hM' : M' = (m : Int)) (hN' : N' = (n : Int)) (hm : m < 1000000) (hn : n < 1000000) (X : Nat → Nat → Rat)
  (hf : ∀ i, i < m → ∀ j, j < n → ∀ w', Ext w w' → Calls Tryz.prog 155 #[.int .i64 (i : Int), .int .i64 (j : Int)] w' (RetR N w' (X i j))) :
  Calls Tryz.prog 154 #[.int .i64 M', .int .i64 N', .func (.func 155) #[] #[]] w (RetOwn N w m n X) := by
 subst hM' hN'
 have HF := Lib.hid hf
 clear hf
 go_enter Tryz.func154, Tryz.ntmps154
 go_wp2_with (at_make; refine Hid.out ?_)
 refine wpList_make_rows rfl _ _ rfl .i64 .i64 _ _ m rfl rfl rfl rfl hm ?_
 intro w1 cs B0 hcs e1
 have ho : OwnM N w.heap.size w1.heap.size w1 w.heap.size m 0 n (fun _ => 0) (fun _ => 0) X := OwnM.start hN (Nat.le_refl _) B0 hcs X (blk_lt B0) (Nat.le_refl _)
 have hs1 : w.heap.size < w1.heap.size := blk_lt B0
 clear B0
 have HCS := Lib.hid hcs
 clear hcs
 go_wp2
 go_loopw [14] (fun i wr => ∃ k : Nat, k ≤ m ∧ i = .int .i64 k ∧ Ext w wr ∧ ∃ β κ, OwnM N w.heap.size wr.heap.size wr w.heap.size m k n β κ X) (fun i _ => m - (intOf i).toNat)
 case atStart => exact ⟨0, Nat.zero_le _, rfl, e1, _, _, ho⟩
 case round =>
  clear ho e1
  obtain ⟨k, hk, rfl, hE, β, κ, ho⟩ := hrel
  have hsr : w.heap.size < wr.heap.size := by have := ho.hhi; omega
  by_cases hlt : k < m
  ·go_wp2_with (at_make; refine Hid.out ?_)
   refine wpList_make_rats rfl _ _ rfl .i64 .i64 _ _ n rfl rfl rfl rfl hn ?_
   intro w2 cs2 B2 hcs2 e2
   have ho2 := ho.ext e2
   have hR : RowB N w2 wr.heap.size n 0 (X k) := ⟨by omega, Nat.zero_le _, ⟨cs2, B2, hcs2⟩, fun j hj => by omega⟩
   obtain ⟨u0, z0⟩ := ho2.hthere hlt
   have z1 := ho2.hfrozen k
   have hs2 : wr.heap.size < w2.heap.size := blk_lt B2
   have HCS2 := Lib.hid hcs2
   clear B2 hcs2 ho
   go_upto_region 6 with (fail)
   obtain ⟨w3, E3, C3, hs3, y0, ho3⟩ := ho2.setHead (Nat.le_refl k) hlt (.slice (some ⟨wr.heap.size, 0, none⟩) n n)
   rw [E3]
   replace hE := C3.ext (hE.trans e2) (Nat.le_refl _)
   replace hR := hR.chg C3 (by omega) (by omega)
   have hs4 : wr.heap.size < w3.heap.size := by omega
   generalize hgr : wr.heap.size = gr at *
   clear hgr E3 C3 hs3 ho2 z0 z1 e2 hs2
   have Y0 := y0
   go_wp2
   go_loopw [27] (fun i ws => ∃ j : Nat, j ≤ n ∧ i = .int .i64 j ∧ Ext w ws ∧ gr < ws.heap.size ∧ ws.cell? ⟨w.heap.size, k, none⟩ = some (.slice (some ⟨gr, 0, none⟩) n n) ∧ OwnM N w.heap.size gr ws w.heap.size m k n β κ X ∧ RowB N ws gr n j (X k)) (fun i _ => n - (intOf i).toNat)
   case atStart => exact ⟨0, Nat.zero_le _, rfl, hE, hs4, y0, ho3, hR⟩
   case round =>
    clear hE y0 ho3 hR hs4 Y0
    obtain ⟨j, hj, rfl, hE, hs4, y0, ho3, hR⟩ := hrel
    by_cases hlt' : j < n
    ·go_upto_region 9 with (fail)
     have eC := (Ext.refl wr).drew
     refine region_late (fun w' => w'.cell? ⟨w.heap.size, k, none⟩ = some (.slice (some ⟨gr, 0, none⟩) n n)) [10] (by kernel_rfl) (by exact eC.cell y0) (fun hHeld => ?_)
     refine sP 0 (h := ?_)
     try simp only [nr]
     refine sP 1 (h := ?_)
     try simp only [nr]
     refine sP 2 (h := ?_)
     try simp only [nr]
     refine sT 3 (h := ?_)
     try simp only [nr]
     refine sP 4 (h := ?_)
     try simp only [nr]
     refine sP 5 (h := ?_)
     try simp only [nr]
     refine sP 6 (h := ?_)
     try simp only [nr]
     refine sP 7 (h := ?_)
     try simp only [nr]
     refine stepL_only (i := 8) rfl (by kernel_rfl) (fun K hK => ?_)
     go_simp
     refine (HF.out k hlt j hlt' _ (hE.trans eC)).mono ?_
     intro e w5 hh
     obtain ⟨b9, A9, k9, c9, A10, k10, c10, rfl, hb9, g9, g10, e5⟩ := hh.form
     replace eC := eC.trans e5
     have hR5 := hR.ext eC
     obtain ⟨x0, v0⟩ := hR5.there (o := j * 4) (by omega)
     obtain ⟨x1, v1⟩ := hR5.there (o := j * 4 + 1) (by omega)
     obtain ⟨x2, v2⟩ := hR5.there (o := j * 4 + 2) (by omega)
     obtain ⟨x3, v3⟩ := hR5.there (o := j * 4 + 3) (by omega)
     have f0 := hR5.frozen (j * 4)
     have f1 := hR5.frozen (j * 4 + 1)
     have f2 := hR5.frozen (j * 4 + 2)
     have f3 := hR5.frozen (j * 4 + 3)
     go_wp2_with fail
     clear hHeld
     refine hK.out _ _ (by exact eC.cell y0) fun hHeld => ?_
     clear hK K
     try simp only [nr]
     refine sP 9 (h := ?_)
     try simp only [nr]
     refine stepL_late (i := 10) rfl (by kernel_rfl) (by kernel_rfl) (fun K hK => ?_)
     go_simp
     refine hK.out _ _ ?_
     clear hK K
     try simp only [nr]
     refine stepL_done (by kernel_rfl) ?_ _
     clear hHeld
     obtain ⟨w6, E6, C6, hs6, hr6⟩ := hR5.set (i := j) (q := X k j) hlt' (Nat.le_refl _) hb9 g9 g10
     rw [E6]
     replace hE := C6.ext (hE.trans eC) (by omega)
     replace ho3 := (ho3.ext eC).chg C6 (by omega) (.inl (Nat.le_refl _))
     replace y0 := C6.cell (p := ⟨w.heap.size, k, none⟩) (eC.cell y0) (.inl (by simp only; omega))
     have hr7 := (hr6.less (n' := j + 1) (by omega)).congr (y := X k) (fun c hc => by unfold upd; split; (rename_i e; rw [e]); rfl)
     have hs7 : gr < w6.heap.size := by have := eC.size; omega
     clear E6 C6 hs6 hr6 hR hR5 v0 v1 v2 v3 f0 f1 f2 f3
     go_wp2
     go_roundw
     case rel => exact ⟨j + 1, by omega, by go_num, hE, hs7, y0, ho3, hr7⟩
     case measure => simp [intOf]; omega
    ·obtain rfl : j = n := by omega
     have ho4 := (ho3.more hlt y0 hR (Nat.le_refl _) (by unfold maxLen; omega)).congr (B := X) (fun i _ c _ => by unfold updM; split; (rename_i e; rw [e]); rfl)
     go_wp2
     go_roundw
     case rel => exact ⟨k + 1, by omega, by go_num, hE, _, _, ho4⟩
     case measure => simp [intOf]; omega
  ·obtain rfl : k = m := by omega
   go_wp2
   go_ret
   exact ⟨_, _, β, κ, rfl, by unfold maxLen; omega, ho, hE⟩
set_option maxHeartbeats 1000000 in
theorem m_copied1 {N lo hi : Nat} {w : World} {gb : Nat} {A : Option Addr} {m n c : Nat} {X : Nat → Nat → Rat} (hb : w.cell? ⟨gb, 0, none⟩ = some (.slice A m c)) (h : MtV N lo hi w (.slice A m c) m n X) {i j : Nat} (hi' : i < m) (hj : j < n) (hm : m < 1000000) (hn : n < 1000000) :
  Calls Tryz.prog 188 #[.int .i64 (i : Int), .int .i64 (j : Int), .pointer (some ⟨gb, 0, none⟩)] w (RetR N w (X i j)) := by
 have hN := h.le
 obtain ⟨b, off, rfl, -, -, hx⟩ := h.addr (by omega)
 obtain ⟨A1, c1, p0, -, -, hl⟩ := hx i hi'
 obtain ⟨b2, off2, rfl, -, -, hx⟩ := hl.addr (by omega)
 obtain ⟨n1, A3, k3, c3, A4, k4, c4, q0, q1, q2, q3, hb1, g1, g2⟩ := (hx j hj).open
 have l0 := cell_lt hb
 have l1 := cell_lt p0
 have l2 := cell_lt q0
 simp only at l0 l1 l2
 obtain ⟨q, hq⟩ := hid_eq (X i j)
 rw [← hq.out] at hb1 g1 g2 ⊢
 clear hx hl h
 go_enter Tryz.func188, Tryz.ntmps188
 go_wp2
 have eA := (Ext.refl w).alloc (Obj.cells #[Value.bool n1, Value.slice A3 k3 c3, Value.bool false, Value.slice A4 k4 c4] 37)
 exact fin_ratB rfl rfl rfl eA (BoxR.mk (heap_alloc_new w _) hb1 (g1.ext eA) (g2.ext eA))
set_option maxHeartbeats 1000000 in
theorem m_unit {N : Nat} {w : World} (hN : N ≤ w.heap.size) (i j : Nat) (hi : i < 1000000) (hj : j < 1000000) :
  Calls Tryz.prog 155 #[.int .i64 (i : Int), .int .i64 (j : Int)] w (RetR N w (dlt i j)) := by
 go_enter Tryz.func155, Tryz.ntmps155
 by_cases hij : i = j
 ·subst hij
  rw [dlt_same]
  go_wp2_with (go_at_call 108; refine Hid.out ?_)
  refine boxesC1 ?_
  intro W hE hsz B0
  refine (f_whole (N := N) (by have := hE.size; omega) 1 (by omega) (by omega)).mono ?_
  intro e w1 hh
  obtain ⟨b1, A1, k1, c1, A2, k2, c2, rfl, hb1, g1, g2, e1⟩ := hh.form
  have B1 := e1.block B0
  obtain ⟨r0, r1, r2, r3, r4, r5, r6, r7⟩ := cells4 B1
  go_wp2
  exact fin_rat (q := 1) rfl rfl rfl (hE.trans e1) B1 (by omega) hN g1 g2 hb1
 ·have hne : ((i : Int) == (j : Int)) = false := beq_eq_false_iff_ne.2 (by omega)
  rw [dlt_ne hij]
  go_wp2_with (go_at_call 108; refine Hid.out ?_)
  refine boxesC1 ?_
  intro W hE hsz B0
  refine (f_whole (N := N) (by have := hE.size; omega) 0 (by omega) (by omega)).mono ?_
  intro e w1 hh
  obtain ⟨b1, A1, k1, c1, A2, k2, c2, rfl, hb1, g1, g2, e1⟩ := hh.form
  have B1 := e1.block B0
  obtain ⟨r0, r1, r2, r3, r4, r5, r6, r7⟩ := cells4 B1
  go_wp2
  exact fin_rat (q := 0) rfl rfl rfl (hE.trans e1) B1 (by omega) hN g1 g2 hb1
end Go.Proofs.YtghpfnhmlpfgcaaGreat
