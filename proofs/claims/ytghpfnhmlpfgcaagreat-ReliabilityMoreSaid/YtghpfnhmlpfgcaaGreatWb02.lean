import Derived.Test.YtghpfnhmlpfgcaaGreatWb01
set_option linter.all false
namespace Go.Proofs.YtghpfnhmlpfgcaaGreat
open Go.RowKit
theorem gs_one {N : Nat} {w : World} (hN : N ≤ w.heap.size) {d : Nat} (hd : d < 4294967296) {x : Int} (hx : x = ((d : Nat) : Int)) {g : Nat} (hg : w.heap.size = g) : Gs N (w.alloc (.cells #[.int .u32 x] 115)) (.slice (some ⟨g, 0, none⟩) 1 1) [d] := by
 subst hg hx
 refine ⟨by simp; omega, _, 1, 1, rfl, rfl, Nat.le_refl _, by unfold maxLen; omega, by simpa using hd, fun _ => ⟨w.heap.size, 0, rfl, ⟨by simp, .inr ⟨_, (0, 0), heap_alloc_new w _⟩⟩, fun i hi => ?_⟩⟩
 obtain rfl : i = 0 := by omega
 exact cell_blk (heap_alloc_new w _) 0
theorem r1_group' {N : Nat} {w : World} {s : Value} {l : List Nat} (h : Gs N w s l) (hd : Dig l) (k : Nat) :
  Calls Tryz.prog 166 #[s, .int .i64 (k : Int)] w fun e w' => ∃ z : Int, e = .returned (.int .u64 z) ∧ 0 ≤ z ∧ z < 1000000000 ∧ Hid (z = ((l[k]?.getD 0 : Nat) : Int)) ∧ w = w' := by
 refine (r1_group h k (by omega)).mono ?_
 rintro e w' ⟨rfl, rfl⟩
 rw [Int.toNat_natCast]
 refine ⟨_, rfl, by omega, ?_, rfl, rfl⟩
 have := hd.get k
 unfold bs at this
 omega
def PlusRel (N : Nat) (w : World) (a b : List Nat) (v c i : Value) (wr : World) : Prop :=
 ∃ (k : Nat) (cz : Int) (A' : Option Addr) (c' : Nat) (xs : List Nat), k ≤ max a.length b.length ∧ i = .int .i64 k ∧ c = .int .u64 cz ∧ 0 ≤ cz ∧ cz ≤ 1 ∧ v = .slice A' k c' ∧
  wr.ownsRow w.heap.size 115 1 (.slice A' k c') k (xs.map u32v) ∧ Dig xs ∧ val xs + bs ^ k * cz.toNat = val (a.take k) + val (b.take k) ∧ Ext w wr
set_option maxHeartbeats 1000000 in
theorem r1_plus {N : Nat} {w : World} {s t : Value} {a b : List Nat} (h : Gs N w s a) (h' : Gs N w t b) (ha : Dig a) (hb : Dig b) (hL : a.length ≤ 1000000000000) (hL' : b.length ≤ 1000000000000) :
  Calls Tryz.prog 128 #[s, t] w (RetM N w (val a + val b)) := by
 obtain ⟨r, hr⟩ := hid_eq (val a + val b)
 rw [← hr.out]
 have hN := h.le
 obtain ⟨A, n, c, rfl, hlen, h2, h3⟩ := h.form
 obtain ⟨B, m, d, rfl, hlen', h2', h3'⟩ := h'.form
 rw [hlen.out] at hL
 rw [hlen'.out] at hL'
 go_enter Tryz.func128, Tryz.ntmps128
 go_wp2
 go_loopw [5, 6, 7] (fun v c i wr => PlusRel N w a b v c i wr) (fun _ _ i _ => max n m - (intOf i).toNat)
 case atStart => exact ⟨0, 0, _, _, [], Nat.zero_le _, rfl, rfl, by omega, by omega, rfl, own_empty _ _ _ rfl (Nat.le_refl _), Dig.nil, by simp [val], (Ext.refl w).alloc _⟩
 case round =>
  obtain ⟨k, cz, A', c', xs, hk, rfl, rfl, hc0, hc1, rfl, hown, hxs, hv, hE⟩ := hrel
  rw [hlen.out, hlen'.out] at hk
  have HV := Lib.hid hv
  have HX := Lib.hid hxs
  have HO := Lib.hid hown
  clear hv hxs hown
  have HW : Hid (N ≤ wr.heap.size) := Nat.le_trans hN hE.size
  by_cases hlt : k < max n m
  ·by_cases hkn : k < n
   ·have t1 : decide (k < n) = true := by simpa using hkn
    go_wp2_with (go_at_call 166; refine Hid.out ?_)
    refine (r1_group' (h.ext hE) ha k).mono ?_
    rintro e w' ⟨za, rfl, za0, za1, hza, rfl⟩
    go_wp2_with (go_at_call 166; refine Hid.out ?_)
    refine (r1_group' (h'.ext hE) hb k).mono ?_
    rintro e w' ⟨zb, rfl, zb0, zb1, hzb, rfl⟩
    go_wp2_with (at_builtin; refine Hid.out ?_)
    refine wpList_append_gs (N := N) rfl (.tmp 31) (.tmp 35) rfl w.heap.size _ k xs rfl (HO.out.alloc _) _ [((za + zb + cz) % 1000000000).toNat] rfl (gs_one HW.out (by omega) (by omega) rfl) (by simp; omega) (by have := hE.size; simp; omega) ?_
    intro A2 c2 w2 hown2 hgr
    have hE2 : Ext w w2 := (hE.alloc _).own hgr (HO.out.alloc _) (Nat.le_refl _)
    have HR : Hid (val (xs ++ [((za + zb + cz) % 1000000000).toNat]) + bs ^ (k + 1) * ((za + zb + cz) / 1000000000).toNat = val (a.take (k + 1)) + val (b.take (k + 1))) := by
     rw [Hid, val_snoc, val_take_next, val_take_next, show xs.length = k from by simpa using HO.out.1]
     refine plus_step (q := ((za + zb + cz) / 1000000000).toNat) HV.out ?_ rfl
     have e1 := hza.out
     have e2 := hzb.out
     unfold bs
     omega
    have HX2 : Hid (Dig (xs ++ [((za + zb + cz) % 1000000000).toNat])) := HX.out.append (Dig.mk (by unfold bs; omega) Dig.nil)
    have HO2 := Lib.hid hown2
    clear hown2 hgr
    have HE2 := Lib.hid hE2
    clear hE2
    generalize ((za + zb + cz) % 1000000000).toNat = dd at *
    obtain ⟨q, hq⟩ := hid_eq ((za + zb + cz) / 1000000000)
    have q0 : 0 ≤ q := by rw [hq.out]; omega
    have q1 : q ≤ 1 := by rw [hq.out]; omega
    go_wp2
    go_roundw
    case rel => exact ⟨k + 1, (za + zb + cz) / 1000000000, A2, c2, _, by rw [hlen.out, hlen'.out]; omega, by go_num, rfl, by omega, by omega, rfl, HO2.out, HX2.out, HR.out, HE2.out⟩
    case measure => simp [intOf]; omega
   ·have t1 : decide (k < n) = false := by simpa using hkn
    have t2 : decide (k < m) = true := by simp; omega
    go_wp2_with (go_at_call 166; refine Hid.out ?_)
    refine (r1_group' (h.ext hE) ha k).mono ?_
    rintro e w' ⟨za, rfl, za0, za1, hza, rfl⟩
    go_wp2_with (go_at_call 166; refine Hid.out ?_)
    refine (r1_group' (h'.ext hE) hb k).mono ?_
    rintro e w' ⟨zb, rfl, zb0, zb1, hzb, rfl⟩
    go_wp2_with (at_builtin; refine Hid.out ?_)
    refine wpList_append_gs (N := N) rfl (.tmp 31) (.tmp 35) rfl w.heap.size _ k xs rfl (HO.out.alloc _) _ [((za + zb + cz) % 1000000000).toNat] rfl (gs_one HW.out (by omega) (by omega) rfl) (by simp; omega) (by have := hE.size; simp; omega) ?_
    intro A2 c2 w2 hown2 hgr
    have hE2 : Ext w w2 := (hE.alloc _).own hgr (HO.out.alloc _) (Nat.le_refl _)
    have HR : Hid (val (xs ++ [((za + zb + cz) % 1000000000).toNat]) + bs ^ (k + 1) * ((za + zb + cz) / 1000000000).toNat = val (a.take (k + 1)) + val (b.take (k + 1))) := by
     rw [Hid, val_snoc, val_take_next, val_take_next, show xs.length = k from by simpa using HO.out.1]
     refine plus_step (q := ((za + zb + cz) / 1000000000).toNat) HV.out ?_ rfl
     have e1 := hza.out
     have e2 := hzb.out
     unfold bs
     omega
    have HX2 : Hid (Dig (xs ++ [((za + zb + cz) % 1000000000).toNat])) := HX.out.append (Dig.mk (by unfold bs; omega) Dig.nil)
    have HO2 := Lib.hid hown2
    clear hown2 hgr
    have HE2 := Lib.hid hE2
    clear hE2
    generalize ((za + zb + cz) % 1000000000).toNat = dd at *
    obtain ⟨q, hq⟩ := hid_eq ((za + zb + cz) / 1000000000)
    have q0 : 0 ≤ q := by rw [hq.out]; omega
    have q1 : q ≤ 1 := by rw [hq.out]; omega
    go_wp2
    go_roundw
    case rel => exact ⟨k + 1, (za + zb + cz) / 1000000000, A2, c2, _, by rw [hlen.out, hlen'.out]; omega, by go_num, rfl, by omega, by omega, rfl, HO2.out, HX2.out, HR.out, HE2.out⟩
    case measure => simp [intOf]; omega
  ·have t1 : decide (k < n) = false := by simp; omega
   have t2 : decide (k < m) = false := by simp; omega
   have HF : Hid (val (xs ++ [cz.toNat]) = r) := by
    have := HV.out
    rw [val_take_all (by rw [hlen.out]; omega), val_take_all (by rw [hlen'.out]; omega)] at this
    rw [Hid, val_snoc, hr.out, ← this, show xs.length = k from by simpa using HO.out.1]
   go_wp2_with (at_builtin; refine Hid.out ?_)
   refine wpList_append_gs (N := N) rfl (.tmp 39) (.tmp 42) rfl w.heap.size _ k xs rfl (HO.out.alloc _) _ [cz.toNat] rfl (gs_one HW.out (by omega) (by omega) rfl) (by simp; omega) (by have := hE.size; simp; omega) ?_
   intro A2 c2 w2 hown2 hgr
   have hE2 : Ext w w2 := (hE.alloc _).own hgr (HO.out.alloc _) (Nat.le_refl _)
   have hG := Gs.of_own (N := N) (Nat.le_trans hN hE2.size) hown2 (fun x hx => Nat.lt_trans (HX.out.append (Dig.mk (by unfold bs; omega) Dig.nil) x hx) (by decide))
   clear hgr hown2
   go_wp2_with (go_at_call 119; refine Hid.out ?_)
   refine (r1_made hG (HX.out.append (Dig.mk (by unfold bs; omega) Dig.nil)) (by rw [List.length_append, show xs.length = k from by simpa using HO.out.1]; simp; omega) (r : Int) (by rw [HF.out]; rfl)).mono ?_
   rintro e w3 ⟨v3, rfl, ⟨s3, rfl, h3⟩, e3⟩
   obtain ⟨A3, n3, c3, rfl, hlen3, -, -⟩ := h3.form
   generalize decide ((r : Int) < 0) = nb
   have hfl := fun w => fld1 (.bool nb) (.slice A3 n3 c3) w
   go_wp2
   go_ret
   exact ⟨_, rfl, h3, hE2.trans e3⟩
def MinusRel (N : Nat) (w : World) (a b : List Nat) (v c i : Value) (wr : World) : Prop :=
 ∃ (k : Nat) (cz : Int) (A' : Option Addr) (c' : Nat) (xs : List Nat), k ≤ a.length ∧ i = .int .i64 k ∧ c = .int .u64 cz ∧ 0 ≤ cz ∧ cz ≤ 1 ∧ v = .slice A' k c' ∧
  wr.ownsRow w.heap.size 115 1 (.slice A' k c') k (xs.map u32v) ∧ Dig xs ∧ val (a.take k) + bs ^ k * cz.toNat = val xs + val (b.take k) ∧ Ext w wr
set_option maxHeartbeats 1000000 in
theorem r1_minusF {N : Nat} {w : World} {s t : Value} {a b : List Nat} (h : Gs N w s a) (h' : Gs N w t b) (ha : Dig a) (hb : Dig b) (hL : a.length ≤ 1000000000000) (hle : val b ≤ val a) :
  Calls Tryz.prog 130 #[s, t] w (RetMF N w (val a - val b)) := by
 obtain ⟨r, hr⟩ := hid_eq (val a - val b)
 rw [← hr.out]
 have hN := h.le
 obtain ⟨A, n, c, rfl, hlen, h2, h3⟩ := h.form
 obtain ⟨B, m, d, rfl, hlen', h2', h3'⟩ := h'.form
 rw [hlen.out] at hL
 have Hle := Lib.hid hle
 clear hle
 go_enter Tryz.func130, Tryz.ntmps130
 go_wp2
 go_loopw [5, 6, 7] (fun v c i wr => MinusRel N w a b v c i wr) (fun _ _ i _ => n - (intOf i).toNat)
 case atStart => exact ⟨0, 0, _, _, [], Nat.zero_le _, rfl, rfl, by omega, by omega, rfl, own_empty _ _ _ rfl (Nat.le_refl _), Dig.nil, by simp [val], (Ext.refl w).alloc _⟩
 case round =>
  obtain ⟨k, cz, A', c', xs, hk, rfl, rfl, hc0, hc1, rfl, hown, hxs, hv, hE⟩ := hrel
  rw [hlen.out] at hk
  have HV := Lib.hid hv
  have HX := Lib.hid hxs
  have HO := Lib.hid hown
  clear hv hxs hown
  have HW : Hid (N ≤ wr.heap.size) := Nat.le_trans hN hE.size
  by_cases hlt : k < n
  ·go_wp2_with (go_at_call 166; refine Hid.out ?_)
   refine (r1_group' (h.ext hE) ha k).mono ?_
   rintro e w' ⟨za, rfl, za0, za1, hza, rfl⟩
   go_wp2_with (go_at_call 166; refine Hid.out ?_)
   refine (r1_group' (h'.ext hE) hb k).mono ?_
   rintro e w' ⟨zb, rfl, zb0, zb1, hzb, rfl⟩
   go_wp2_with (at_builtin; refine Hid.out ?_)
   refine wpList_append_gs (N := N) rfl (.tmp 26) (.tmp 30) rfl w.heap.size _ k xs rfl (HO.out.alloc _) _ [((1000000000 + za - zb - cz) % 1000000000).toNat] rfl (gs_one HW.out (by omega) (by omega) rfl) (by simp; omega) (by have := hE.size; simp; omega) ?_
   intro A2 c2 w2 hown2 hgr
   have hE2 : Ext w w2 := (hE.alloc _).own hgr (HO.out.alloc _) (Nat.le_refl _)
   have HR : Hid (val (a.take (k + 1)) + bs ^ (k + 1) * (1 - (1000000000 + za - zb - cz) / 1000000000).toNat = val (xs ++ [((1000000000 + za - zb - cz) % 1000000000).toNat]) + val (b.take (k + 1))) := by
    rw [Hid, val_snoc, val_take_next, val_take_next, show xs.length = k from by simpa using HO.out.1]
    refine minus_step HV.out ?_
    have e1 := hza.out
    have e2 := hzb.out
    unfold bs
    omega
   have HX2 : Hid (Dig (xs ++ [((1000000000 + za - zb - cz) % 1000000000).toNat])) := HX.out.append (Dig.mk (by unfold bs; omega) Dig.nil)
   have HO2 := Lib.hid hown2
   clear hown2 hgr
   have HE2 := Lib.hid hE2
   clear hE2
   generalize ((1000000000 + za - zb - cz) % 1000000000).toNat = dd at *
   go_wp2
   go_roundw
   case rel => exact ⟨k + 1, 1 - (1000000000 + za - zb - cz) / 1000000000, A2, c2, _, by rw [hlen.out]; omega, by go_num, rfl, by omega, by omega, rfl, HO2.out, HX2.out, HR.out, HE2.out⟩
   case measure => simp [intOf]; omega
  ·obtain rfl : k = n := by omega
   have HF : Hid (val xs = r) := by
    rw [Hid, hr.out]
    exact minus_end ha HX.out hlen.out (by simpa using HO.out.1) Hle.out HV.out
   have hG := Gs.of_own (N := N) HW.out HO.out (fun x hx => Nat.lt_trans (HX.out x hx) (by decide))
   go_wp2_with (go_at_call 119; refine Hid.out ?_)
   refine (r1_madeF hG HX.out (by rw [show xs.length = k from by simpa using HO.out.1]; omega) (r : Int) (by rw [HF.out]; rfl)).mono ?_
   rintro e w3 ⟨nb, A3, n3, c3, rfl, -, h3, e3, hF⟩
   have hfl := fun w => fld1 (.bool nb) (.slice A3 n3 c3) w
   go_wp2
   go_ret
   exact ⟨_, _, _, rfl, h3, hE.trans e3, fun ad h => Nat.le_trans hE.size (hF.out ad h)⟩
theorem r1_minus {N : Nat} {w : World} {s t : Value} {a b : List Nat} (h : Gs N w s a) (h' : Gs N w t b) (ha : Dig a) (hb : Dig b) (hL : a.length ≤ 1000000000000) (hle : val b ≤ val a) :
  Calls Tryz.prog 130 #[s, t] w (RetM N w (val a - val b)) := (r1_minusF h h' ha hb hL hle).mono fun _ _ h => h.rm
def ScaledRel (N : Nat) (w : World) (a : List Nat) (D : Nat) (v c i : Value) (wr : World) : Prop :=
 ∃ (k : Nat) (cz : Int) (A' : Option Addr) (c' : Nat) (xs : List Nat), k ≤ a.length ∧ i = .int .i64 k ∧ c = .int .u64 cz ∧ 0 ≤ cz ∧ cz ≤ 999999999 ∧ v = .slice A' k c' ∧
  wr.ownsRow w.heap.size 115 1 (.slice A' k c') k (xs.map u32v) ∧ Dig xs ∧ val xs + bs ^ k * cz.toNat = val (a.take k) * D ∧ Ext w wr
set_option maxHeartbeats 1000000 in
theorem r1_scaled {N : Nat} {w : World} {s : Value} {a : List Nat} (h : Gs N w s a) (ha : Dig a) (hL : a.length ≤ 1000000000000) (dz : Int) (d0 : 0 ≤ dz) (d1 : dz ≤ 1000000000) :
  Calls Tryz.prog 185 #[s, .int .u64 dz] w (RetM N w (val a * dz.toNat)) := by
 obtain ⟨r, hr⟩ := hid_eq (val a * dz.toNat)
 rw [← hr.out]
 have hN := h.le
 obtain ⟨A, n, c, rfl, hlen, h2, h3⟩ := h.form
 rw [hlen.out] at hL
 go_enter Tryz.func185, Tryz.ntmps185
 go_wp2
 go_loopw [5, 6, 7] (fun v c i wr => ScaledRel N w a dz.toNat v c i wr) (fun _ _ i _ => n - (intOf i).toNat)
 case atStart => exact ⟨0, 0, _, _, [], Nat.zero_le _, rfl, rfl, by omega, by omega, rfl, own_empty _ _ _ rfl (Nat.le_refl _), Dig.nil, by simp [val], (Ext.refl w).alloc _⟩
 case round =>
  obtain ⟨k, cz, A', c', xs, hk, rfl, rfl, hc0, hc1, rfl, hown, hxs, hv, hE⟩ := hrel
  rw [hlen.out] at hk
  have HV := Lib.hid hv
  have HX := Lib.hid hxs
  have HO := Lib.hid hown
  clear hv hxs hown
  have HW : Hid (N ≤ wr.heap.size) := Nat.le_trans hN hE.size
  by_cases hlt : k < n
  ·obtain ⟨b, off, za, rfl, hb0, g, za0, za2, hza⟩ := (h.ext hE).at_ hlt
   have za1 : za < 1000000000 := by have := ha.get k; unfold bs at this; have := hza.out; omega
   have p0 : 0 ≤ za * dz := Int.mul_nonneg za0 d0
   have p1 : za * dz ≤ 999999999 * 1000000000 := Int.mul_le_mul (by omega) d1 d0 (by omega)
   have HP : Hid ((za * dz).toNat = za.toNat * dz.toNat) := Int.toNat_mul za0 d0
   obtain ⟨pz, hpz⟩ := hid_eq (za * dz)
   have pz0 : 0 ≤ pz := by rw [hpz.out]; exact p0
   have pz1 : pz ≤ 999999999000000000 := by rw [hpz.out]; omega
   go_wp2_with (at_builtin; refine Hid.out ?_)
   rw [← hpz.out]
   refine wpList_append_gs (N := N) rfl (.tmp 25) (.tmp 29) rfl w.heap.size _ k xs rfl (HO.out.alloc _) _ [((pz + cz) % 1000000000).toNat] rfl (gs_one HW.out (by omega) (by omega) rfl) (by simp; omega) (by have := hE.size; simp; omega) ?_
   intro A2 c2 w2 hown2 hgr
   have hE2 : Ext w w2 := (hE.alloc _).own hgr (HO.out.alloc _) (Nat.le_refl _)
   have HR : Hid (val (xs ++ [((pz + cz) % 1000000000).toNat]) + bs ^ (k + 1) * ((pz + cz) / 1000000000).toNat = val (a.take (k + 1)) * dz.toNat) := by
    rw [Hid, val_snoc, val_take_next, show xs.length = k from by simpa using HO.out.1]
    refine scaled_step HV.out ?_
    have e1 := hza.out
    have e2 := hpz.out
    have e3 := HP.out
    rw [show a[k]?.getD 0 = za.toNat from by omega, ← e3, ← e2]
    unfold bs
    omega
   have HX2 : Hid (Dig (xs ++ [((pz + cz) % 1000000000).toNat])) := HX.out.append (Dig.mk (by unfold bs; omega) Dig.nil)
   have HO2 := Lib.hid hown2
   clear hown2 hgr
   have HE2 := Lib.hid hE2
   clear hE2 p0 p1
   generalize ((pz + cz) % 1000000000).toNat = dd at *
   go_wp2
   go_roundw
   case rel => exact ⟨k + 1, (pz + cz) / 1000000000, A2, c2, _, by rw [hlen.out]; omega, by go_num, rfl, by omega, by omega, rfl, HO2.out, HX2.out, HR.out, HE2.out⟩
   case measure => simp [intOf]; omega
  ·obtain rfl : k = n := by omega
   have HF : Hid (val (xs ++ [cz.toNat]) = r) := by
    have := HV.out
    rw [val_take_all (by rw [hlen.out]; omega)] at this
    rw [Hid, val_snoc, hr.out, ← this, show xs.length = k from by simpa using HO.out.1]
   go_wp2_with (at_builtin; refine Hid.out ?_)
   refine wpList_append_gs (N := N) rfl (.tmp 33) (.tmp 36) rfl w.heap.size _ k xs rfl (HO.out.alloc _) _ [cz.toNat] rfl (gs_one HW.out (by omega) (by omega) rfl) (by simp; omega) (by have := hE.size; simp; omega) ?_
   intro A2 c2 w2 hown2 hgr
   have hE2 : Ext w w2 := (hE.alloc _).own hgr (HO.out.alloc _) (Nat.le_refl _)
   have hG := Gs.of_own (N := N) (Nat.le_trans hN hE2.size) hown2 (fun x hx => Nat.lt_trans (HX.out.append (Dig.mk (by unfold bs; omega) Dig.nil) x hx) (by decide))
   clear hgr hown2
   go_wp2_with (go_at_call 119; refine Hid.out ?_)
   refine (r1_made hG (HX.out.append (Dig.mk (by unfold bs; omega) Dig.nil)) (by rw [List.length_append, show xs.length = k from by simpa using HO.out.1]; simp; omega) (r : Int) (by rw [HF.out]; rfl)).mono ?_
   rintro e w3 ⟨v3, rfl, ⟨s3, rfl, h3⟩, e3⟩
   obtain ⟨A3, n3, c3, rfl, hlen3, -, -⟩ := h3.form
   generalize decide ((r : Int) < 0) = nb
   have hfl := fun w => fld1 (.bool nb) (.slice A3 n3 c3) w
   go_wp2
   go_ret
   exact ⟨_, rfl, h3, hE2.trans e3⟩
theorem own_one (w : World) (base g : Nat) (hg : w.heap.size = g) (hb : base ≤ g) {d : Nat} {x : Int} (hx : x = ((d : Nat) : Int)) : (w.alloc (.cells #[.int .u32 x] 115)).ownsRow base 115 1 (.slice (some ⟨g, 0, none⟩) 1 1) 1 ([d].map u32v) := by
 subst hg hx
 exact ⟨rfl, .inr ⟨w.heap.size, 1, #[_], rfl, hb, heap_alloc_new w _, Nat.le_refl _, by unfold maxLen; omega, rfl, rfl⟩⟩
set_option maxHeartbeats 1000000 in
theorem r1_shifted {N : Nat} {w : World} {s : Value} {a : List Nat} (h : Gs N w s a) (ha : Dig a) (hL : a.length ≤ 1000000000000) (dz : Int) (d0 : 0 ≤ dz) (d1 : dz < 1000000000) :
  Calls Tryz.prog 186 #[s, .int .u32 dz] w (RetM N w (dz.toNat + bs * val a)) := by
 obtain ⟨r, hr⟩ := hid_eq (dz.toNat + bs * val a)
 rw [← hr.out]
 have hN := h.le
 obtain ⟨A, n, c, rfl, hlen, h2, h3⟩ := h.form
 rw [hlen.out] at hL
 go_enter Tryz.func186, Tryz.ntmps186
 go_wp2_with (at_builtin; refine Hid.out ?_)
 refine wpList_append_gs (N := N) rfl (.tmp 6) (.tmp 7) rfl w.heap.size _ 1 [dz.toNat] rfl (own_one w w.heap.size w.heap.size rfl (Nat.le_refl _) (by omega)) _ a rfl (h.ext ((Ext.refl w).alloc _)) (by rw [hlen.out]; omega) (by simp) ?_
 intro A2 c2 w2 hown2 hgr
 have hE2 : Ext w w2 := ((Ext.refl w).alloc _).grownAt hgr (Nat.le_refl _)
 have hD : Dig ([dz.toNat] ++ a) := (Dig.mk (by unfold bs; omega) Dig.nil).append ha
 have hG := Gs.of_own (N := N) (Nat.le_trans hN hE2.size) hown2 (fun x hx => Nat.lt_trans (hD x hx) (by decide))
 clear hgr hown2
 go_wp2_with (go_at_call 119; refine Hid.out ?_)
 refine (r1_made hG hD (by simp [hlen.out]; omega) (r : Int) (by rw [hr.out]; rfl)).mono ?_
 rintro e w3 ⟨v3, rfl, ⟨s3, rfl, h3⟩, e3⟩
 obtain ⟨A3, n3, c3, rfl, hlen3, -, -⟩ := h3.form
 generalize decide ((r : Int) < 0) = nb
 have hfl := fun w => fld1 (.bool nb) (.slice A3 n3 c3) w
 go_wp2
 go_ret
 exact ⟨_, rfl, h3, hE2.trans e3⟩
end Go.Proofs.YtghpfnhmlpfgcaaGreat
