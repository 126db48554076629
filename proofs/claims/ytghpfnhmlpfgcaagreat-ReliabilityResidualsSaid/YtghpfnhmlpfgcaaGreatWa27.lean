import Derived.Test.YtghpfnhmlpfgcaaGreatWa26
import Derived.Test.YtghpfnhmlpfgcaaGreatWa25
set_option linter.all false
namespace Go.Proofs.YtghpfnhmlpfgcaaGreat
open Go.RowKit
set_option maxHeartbeats 4000000 in
theorem r5_transpose {N lo hi : Nat} {w : World} {v : Value} {m n : Nat} {X : Nat → Nat → Rat} (h : MtV N lo hi w v m n X) (hm0 : 0 < m) (hm : m < 1000000) (hn : n < 1000000) :
  Calls Tryz.prog 69 #[v] w (RetOwn N w n m (fun i j => X j i)) := by
 have hN := h.le
 obtain ⟨A, c, rfl, hmc, hcm⟩ := h.form
 unfold maxLen at hcm
 have hI := h
 obtain ⟨Z, hZ⟩ := hid_eq (fun i j => X j i)
 rw [← hZ.out]
 obtain ⟨b, off, rfl, -, -, hx⟩ := h.addr hm0
 obtain ⟨A1, c1, p0, hnc, hcm1, -⟩ := hx 0 hm0
 rw [Nat.add_zero] at p0
 unfold maxLen at hcm1
 clear h hx
 go_enter Tryz.func69, Tryz.ntmps69
 go_wp2_with (go_at_call 41; refine Hid.out ?_)
 refine (r5_zeros hN n m rfl rfl hn hm0 hm).mono ?_
 rintro e w1 ⟨h, cap, β, κ, rfl, hcap, ho, hE⟩
 have hs1 := hE.size
 clear p0
 go_wp2
 go_loopw [4] (fun i wr => ∃ k : Nat, k ≤ m ∧ i = .int .i64 k ∧ Ext w wr ∧ ∃ B, OwnM N w.heap.size w1.heap.size wr h cap n m β κ B ∧ Hid (∀ i, i < k → ∀ j, j < n → B j i = X i j)) (fun i _ => m - (intOf i).toNat)
 case atStart => exact ⟨0, Nat.zero_le _, rfl, hE, _, ho, fun i hi => by omega⟩
 case round =>
  clear hE ho
  obtain ⟨k, hk, rfl, hE, B, ho, HB⟩ := hrel
  by_cases hlt : k < m
  ·go_wp2
   go_loopw [5] (fun i ws => ∃ l : Nat, l ≤ n ∧ i = .int .i64 l ∧ Ext w ws ∧ ∃ B, OwnM N w.heap.size w1.heap.size ws h cap n m β κ B ∧ Hid (∀ i, i < k → ∀ j, j < n → B j i = X i j) ∧ Hid (∀ j, j < l → B j k = X k j)) (fun i _ => n - (intOf i).toNat)
   case atStart => exact ⟨0, Nat.zero_le _, rfl, hE, B, ho, HB, fun j hj => by omega⟩
   case round =>
    clear hE ho HB B
    obtain ⟨l, hl, rfl, hE, B, ho, HB, HC⟩ := hrel
    obtain ⟨b', off', hA, -, -, hx⟩ := (hI.ext hE).addr (by omega)
    obtain ⟨rfl, rfl⟩ : b = b' ∧ off = off' := by injection hA with hA; injection hA with e1 e2; exact ⟨e1, e2⟩
    obtain ⟨A2, c2, q0, -, -, hl2⟩ := hx k hlt
    clear hx hA
    by_cases hlt' : l < n
    ·obtain ⟨b2, off2, rfl, -, -, hx⟩ := hl2.addr (by omega)
     obtain ⟨n1, A3, k3, c3, A4, k4, c4, p0, p1, p2, p3, hb1, g1, g2⟩ := (hx l hlt').open
     have r0 := ho.hcell hlt'
     obtain ⟨zb, zA, zn, zc, zA2, zn2, zc2, t0, t1, t2, t3, t4, t5, t6, t7, -⟩ := (ho.row l hlt').at_ hlt
     clear hx hl2
     go_wp2
     have eC := (Ext.refl wr).drew
     refine region_late (fun w' => w'.cell? ⟨h, l, none⟩ = some (.slice (some ⟨β l, 0, none⟩) m (κ l)) ∧ w'.cell? ⟨b, off + k, none⟩ = some (.slice (some ⟨b2, off2, none⟩) n c2) ∧ w'.cell? ⟨b2, off2 + l * 4, none⟩ = some (.bool n1) ∧ w'.cell? ⟨b2, off2 + l * 4 + 1, none⟩ = some (.slice A3 k3 c3) ∧ w'.cell? ⟨b2, off2 + l * 4 + 2, none⟩ = some (.bool false) ∧ w'.cell? ⟨b2, off2 + l * 4 + 3, none⟩ = some (.slice A4 k4 c4)) [13] (by kernel_rfl) (by exact ⟨eC.cell r0, eC.cell q0, eC.cell p0, eC.cell p1, eC.cell p2, eC.cell p3⟩) (fun hHeld => ?_)
     refine stepL_pure (i := 0) (v := ?_) rfl (by kernel_rfl) (by kernel_rfl) (by kernel_rfl) (fun _ _ _ h => h) (Or.inl ⟨by rfl, ?_⟩) ?_
     rotate_left
     ·(intro w hSw; (try dsimp only at hSw); go_simp; (try (rw [if_pos (by omega)])); (try with_reducible rfl))
     try simp only [nr]
     refine stepL_pure (i := 1) (v := ?_) rfl (by kernel_rfl) (by kernel_rfl) (by kernel_rfl) (fun _ _ _ h => h) (Or.inl ⟨by rfl, ?_⟩) ?_
     rotate_left
     ·(intro w hSw; (try dsimp only at hSw); go_simp; (try (rw [if_pos (by omega)])); (try with_reducible rfl))
     try simp only [nr]
     refine stepL_pure (i := 2) (v := ?_) rfl (by kernel_rfl) (by kernel_rfl) (by kernel_rfl) (fun _ _ _ h => h) (Or.inl ⟨by rfl, ?_⟩) ?_
     rotate_left
     ·(intro w hSw; (try dsimp only at hSw); go_simp; (try (rw [if_pos (by omega)])); (try with_reducible rfl))
     try simp only [nr]
     refine stepL_take (i := 3) (v := ?_) rfl (by kernel_rfl) (by kernel_rfl) (by kernel_rfl) (by kernel_rfl) (fun _ _ _ h => h) (Or.inl ⟨by rfl, ?_⟩) (by assumption) ?_
     rotate_left
     ·(intro w hSw; (try dsimp only at hSw); go_simp; (try (rw [if_pos (by omega)])); (try with_reducible rfl))
     try simp only [nr]
     refine stepL_pure (i := 4) (v := ?_) rfl (by kernel_rfl) (by kernel_rfl) (by kernel_rfl) (fun _ _ _ h => h) (Or.inl ⟨by rfl, ?_⟩) ?_
     rotate_left
     ·(intro w hSw; (try dsimp only at hSw); go_simp; (try (rw [if_pos (by omega)])); (try with_reducible rfl))
     try simp only [nr]
     refine stepL_pure (i := 5) (v := ?_) rfl (by kernel_rfl) (by kernel_rfl) (by kernel_rfl) (fun _ _ _ h => h) (Or.inl ⟨by rfl, ?_⟩) ?_
     rotate_left
     ·(intro w hSw; (try dsimp only at hSw); go_simp; (try (rw [if_pos (by omega)])); (try with_reducible rfl))
     try simp only [nr]
     refine stepL_pure (i := 6) (v := ?_) rfl (by kernel_rfl) (by kernel_rfl) (by kernel_rfl) (fun _ _ _ h => h) (Or.inl ⟨by rfl, ?_⟩) ?_
     rotate_left
     ·(intro w hSw; (try dsimp only at hSw); go_simp; (try (rw [if_pos (by omega)])); (try with_reducible rfl))
     try simp only [nr]
     refine stepL_pure (i := 7) (v := ?_) rfl (by kernel_rfl) (by kernel_rfl) (by kernel_rfl) (fun _ _ _ h => h) (Or.inl ⟨by rfl, ?_⟩) ?_
     rotate_left
     ·(intro w hSw; (try dsimp only at hSw); go_simp; (try (rw [if_pos (by omega)])); (try with_reducible rfl))
     try simp only [nr]
     refine stepL_take (i := 8) (v := ?_) rfl (by kernel_rfl) (by kernel_rfl) (by kernel_rfl) (by kernel_rfl) (fun _ _ _ h => h) (Or.inl ⟨by rfl, ?_⟩) (by assumption) ?_
     rotate_left
     ·(intro w hSw; (try dsimp only at hSw); go_simp; (try (rw [if_pos (by omega)])); (try with_reducible rfl))
     try simp only [nr]
     refine stepL_pure (i := 9) (v := ?_) rfl (by kernel_rfl) (by kernel_rfl) (by kernel_rfl) (fun _ _ _ h => h) (Or.inl ⟨by rfl, ?_⟩) ?_
     rotate_left
     ·(intro w hSw; (try dsimp only at hSw); go_simp; (try (rw [if_pos (by omega)])); (try with_reducible rfl))
     try simp only [nr]
     refine stepL_pure (i := 10) (v := ?_) rfl (by kernel_rfl) (by kernel_rfl) (by kernel_rfl) (fun _ _ _ h => h) (Or.inl ⟨by rfl, ?_⟩) ?_
     rotate_left
     ·(intro w hSw; (try dsimp only at hSw); go_simp; (try (rw [if_pos (by omega)])); (try with_reducible rfl))
     try simp only [nr]
     refine stepL_take (i := 11) (v := ?_) rfl (by kernel_rfl) (by kernel_rfl) (by kernel_rfl) (by kernel_rfl) (fun _ _ _ h => h) (Or.inl ⟨by rfl, ?_⟩) (by assumption) ?_
     rotate_left
     ·(intro w hSw; (try dsimp only at hSw); go_simp; (try (rw [if_pos (by omega)])); (try with_reducible rfl))
     try simp only [nr]
     refine stepL_pure (i := 12) (v := ?_) rfl (by kernel_rfl) (by kernel_rfl) (by kernel_rfl) (fun _ _ _ h => h) (Or.inl ⟨by rfl, ?_⟩) ?_
     rotate_left
     ·(intro w hSw; (try dsimp only at hSw); go_simp; (try (rw [if_pos (by omega)])); (try with_reducible rfl))
     try simp only [nr]
     refine stepL_late (i := 13) rfl (by kernel_rfl) (by kernel_rfl) (fun K hK => ?_)
     go_simp
     refine hK.out _ _ ?_
     clear hK K
     try simp only [nr]
     refine stepL_done (by kernel_rfl) ?_ _
     clear hHeld
     obtain ⟨w6, E6, C6, hs6, hr6⟩ := (ho.row l hlt').set (i := k) (q := X k l) (by have := (ho.row l hlt').2.1; omega) (by omega) hb1 g1 g2
     rw [E6]
     clear E6
     have ho6 := ho.setRow hlt' C6 (hr6.less (n' := m) (by omega))
     replace hE := C6.ext hE (ho.lo_ l hlt')
     go_wp2
     go_roundw
     case rel => exact ⟨l + 1, by omega, by go_num, hE.drew, _, ho6.ext (Ext.refl _).drew, fun i hi j hj => (by
       unfold updM
       split
       ·rename_i e; subst e; rw [upd_ne _ _ (by omega)]; exact HB.out i hi j hj
       ·exact HB.out i hi j hj), all_succ (fun j hj => (by rw [updM_ne _ _ (by omega)]; exact HC.out j hj)) (by rw [updM_same, upd_same])⟩
     case measure => simp [intOf]; omega
    ·obtain rfl : l = n := by omega
     go_wp2
     go_roundw
     case rel => exact ⟨k + 1, by omega, by go_num, hE, B, ho, all_succ HB.out HC.out⟩
     case measure => simp [intOf]; omega
  ·obtain rfl : k = m := by omega
   go_wp2
   go_ret
   exact ⟨h, cap, β, κ, rfl, hcap, (ho.congr (fun i hi j hj => by rw [hZ.out]; exact HB.out j hj i hi)).wide (Nat.le_refl _) hN ho.his (Nat.le_refl _), hE⟩
set_option maxHeartbeats 8000000 in
theorem r5_mul {N lo hi lo' hi' : Nat} {w : World} {v v' : Value} {m n p : Nat} {X Y : Nat → Nat → Rat} (h : MtV N lo hi w v m n X) (h' : MtV N lo' hi' w v' n p Y) (hm : m < 1000000) (hn0 : 0 < n) (hn : n < 1000000) (hp0 : 0 < p) (hp : p < 1000000)
  {kx ky : Nat} (hkx : HtM m n kx X) (hky : HtM n p ky Y) (hK : n * (kx + ky + 1) + 1 ≤ 29000000000) :
  Calls Tryz.prog 35 #[v, v'] w (RetOwn N w m p (mm n X Y)) := by
 have hN := h.le
 have HZ : Hid (∀ i, i < m → ∀ j, j < p → ∀ k, k < n → Sz (X i k) ∧ Sz (Y k j) ∧ Sz (X i k * Y k j) ∧ Sz (sum k (fun t => X i t * Y t j))) := fun i hi j hj k hk => by
  have h1 := Nat.le_mul_of_pos_left (kx + ky + 1) (show 0 < n by omega)
  exact ⟨(hkx i hi k hk).sz (by omega), (hky k hk j hj).sz (by omega), ((hkx i hi k hk).mul (hky k hk j hj)).sz (by omega), (sum_ht (k := kx + ky) (n := n) (fun t ht => (hkx i hi t ht).mul (hky t ht j hj)) (by omega) hK).sz (Nat.le_refl _)⟩
 obtain ⟨A, c, rfl, hmc, hcm⟩ := h.form
 obtain ⟨A0, c0, rfl, hmc0, hcm0⟩ := h'.form
 unfold maxLen at hcm hcm0
 have hI := h
 have hI' := h'
 obtain ⟨b', off', rfl, -, -, hx⟩ := h'.addr hn0
 obtain ⟨A1, c1, p0, hnc, hcm1, -⟩ := hx 0 hn0
 rw [Nat.add_zero] at p0
 unfold maxLen at hcm1
 have P0 := Lib.hid p0
 clear h h' hx hkx hky hK
 go_enter Tryz.func35, Tryz.ntmps35
 go_wp2_with (go_at_call 41; refine Hid.out ?_)
 refine (r5_zeros hN m p rfl rfl hm hp0 hp).mono ?_
 rintro e w1 ⟨h, cap, β, κ, rfl, hcap, ho, hE⟩
 have hs1 := hE.size
 clear p0
 go_wp2
 go_loopw [6] (fun i wr => ∃ k : Nat, k ≤ m ∧ i = .int .i64 k ∧ Ext w wr ∧ ∃ B, OwnM N w.heap.size w1.heap.size wr h cap m p β κ B ∧ Hid (∀ i, i < k → ∀ j, j < p → B i j = mm n X Y i j)) (fun i _ => m - (intOf i).toNat)
 case atStart => exact ⟨0, Nat.zero_le _, rfl, hE, _, ho, fun i hi => by omega⟩
 case round =>
  clear hE ho
  obtain ⟨k, hk, rfl, hE, B, ho, HB⟩ := hrel
  by_cases hlt : k < m
  ·go_wp2
   go_loopw [7] (fun i ws => ∃ l : Nat, l ≤ p ∧ i = .int .i64 l ∧ Ext w ws ∧ ∃ B, OwnM N w.heap.size w1.heap.size ws h cap m p β κ B ∧ Hid (∀ i, i < k → ∀ j, j < p → B i j = mm n X Y i j) ∧ Hid (∀ j, j < l → B k j = mm n X Y k j)) (fun i _ => p - (intOf i).toNat)
   case atStart => exact ⟨0, Nat.zero_le _, rfl, hE, B, ho, HB, fun j hj => by omega⟩
   case round =>
    clear hE ho HB B
    obtain ⟨l, hl, rfl, hE, B, ho, HB, HC⟩ := hrel
    have p0 := hE.cell P0.out
    have hsz := ho.his
    by_cases hlt' : l < p
    ·go_wp2_with (go_at_call 84; refine Hid.out ?_)
     refine (r5_whole (N := N) (by omega) 0 (by omega) (by omega)).mono ?_
     intro e w2 hh
     obtain ⟨n1, A3, k3, c3, A4, k4, c4, rfl, hb1, g1, g2, e1⟩ := hh.form
     go_upto_region 9 with (fail)
     refine boxes1 ?_
     intro w3 e3 hsz3 BS
     have hB : BoxR N w3 w2.heap.size (sum 0 (fun t => X k t * Y t l)) := BoxR.mk BS hb1 (g1.ext e3) (g2.ext e3)
     replace hE := (hE.trans e1).trans e3
     replace ho := (ho.ext e1).ext e3
     have hsz2 : w1.heap.size ≤ w2.heap.size := Nat.le_trans hsz e1.size
     clear g1 g2 hb1 BS e1 e3 p0
     go_wp2
     go_loopw [9] (fun i wt => ∃ t : Nat, t ≤ n ∧ i = .int .i64 t ∧ Ext w wt ∧ OwnM N w.heap.size w1.heap.size wt h cap m p β κ B ∧ w2.heap.size < wt.heap.size ∧ BoxR N wt w2.heap.size (sum t (fun t => X k t * Y t l))) (fun i _ => n - (intOf i).toNat)
     case atStart => exact ⟨0, Nat.zero_le _, rfl, hE, ho, by omega, hB⟩
     case round =>
      clear hE ho hB hsz3
      obtain ⟨t, ht, rfl, hE, ho, hsz3, hB⟩ := hrel
      obtain ⟨b1, A1, k1, c1, A2, k2, c2, BS, hb1, g1, g2⟩ := hB
      obtain ⟨s0, s1, s2, s3, s4, s5, s6, s7⟩ := cells4 BS
      have hv := RatV.mk hb1 g1 g2
      by_cases hlt3 : t < n
      ·obtain ⟨b2, off2, rfl, -, -, hx⟩ := (hI.ext hE).addr (by omega)
       obtain ⟨A3, c3, q0, -, -, hl2⟩ := hx k hlt
       obtain ⟨b3, off3, rfl, -, -, hx⟩ := hl2.addr (by omega)
       obtain ⟨m1, A5, k5, c5, A6, k6, c6, p0, p1, p2, p3, hm1, x1, x2⟩ := (hx t hlt3).open
       obtain ⟨b4, off4, hA, -, -, hx⟩ := (hI'.ext hE).addr (by omega)
       obtain ⟨rfl, rfl⟩ : b' = b4 ∧ off' = off4 := by injection hA with hA; injection hA with e1 e2; exact ⟨e1, e2⟩
       obtain ⟨A4, c4, r0, -, -, hl3⟩ := hx t hlt3
       obtain ⟨b5, off5, rfl, -, -, hx⟩ := hl3.addr (by omega)
       obtain ⟨m2, A7, k7, c7, A8, k8, c8, o0, o1, o2, o3, hm2, y1, y2⟩ := (hx l hlt').open
       clear hx hl2 hl3 hA
       go_wp2
       have eC := (Ext.refl wr).drew
       refine region_late (fun w' => w'.cell? ⟨w2.heap.size, 0, none⟩ = some (.bool b1) ∧ w'.cell? ⟨w2.heap.size, 1, none⟩ = some (.slice A1 k1 c1) ∧ w'.cell? ⟨w2.heap.size, 2, none⟩ = some (.bool false) ∧ w'.cell? ⟨w2.heap.size, 3, none⟩ = some (.slice A2 k2 c2) ∧ w'.cell? ⟨b2, off2 + k, none⟩ = some (.slice (some ⟨b3, off3, none⟩) n c3) ∧ w'.cell? ⟨b3, off3 + t * 4, none⟩ = some (.bool m1) ∧ w'.cell? ⟨b3, off3 + t * 4 + 1, none⟩ = some (.slice A5 k5 c5) ∧ w'.cell? ⟨b3, off3 + t * 4 + 2, none⟩ = some (.bool false) ∧ w'.cell? ⟨b3, off3 + t * 4 + 3, none⟩ = some (.slice A6 k6 c6) ∧ w'.cell? ⟨b', off' + t, none⟩ = some (.slice (some ⟨b5, off5, none⟩) p c4) ∧ w'.cell? ⟨b5, off5 + l * 4, none⟩ = some (.bool m2) ∧ w'.cell? ⟨b5, off5 + l * 4 + 1, none⟩ = some (.slice A7 k7 c7) ∧ w'.cell? ⟨b5, off5 + l * 4 + 2, none⟩ = some (.bool false) ∧ w'.cell? ⟨b5, off5 + l * 4 + 3, none⟩ = some (.slice A8 k8 c8)) [17] (by kernel_rfl) (by exact ⟨eC.cell s0, eC.cell s1, eC.cell s2, eC.cell s3, eC.cell q0, eC.cell p0, eC.cell p1, eC.cell p2, eC.cell p3, eC.cell r0, eC.cell o0, eC.cell o1, eC.cell o2, eC.cell o3⟩) (fun hHeld => ?_)
       refine stepL_take (i := 0) (v := ?_) rfl (by kernel_rfl) (by kernel_rfl) (by kernel_rfl) (by kernel_rfl) (fun _ _ _ h => h) (Or.inl ⟨by rfl, ?_⟩) (by assumption) ?_
       rotate_left
       ·(intro w hSw; (try dsimp only at hSw); go_simp; (try (rw [if_pos (by omega)])); (try with_reducible rfl))
       try simp only [nr]
       refine stepL_pure (i := 1) (v := ?_) rfl (by kernel_rfl) (by kernel_rfl) (by kernel_rfl) (fun _ _ _ h => h) (Or.inl ⟨by rfl, ?_⟩) ?_
       rotate_left
       ·(intro w hSw; (try dsimp only at hSw); go_simp; (try (rw [if_pos (by omega)])); (try with_reducible rfl))
       try simp only [nr]
       refine stepL_pure (i := 2) (v := ?_) rfl (by kernel_rfl) (by kernel_rfl) (by kernel_rfl) (fun _ _ _ h => h) (Or.inl ⟨by rfl, ?_⟩) ?_
       rotate_left
       ·(intro w hSw; (try dsimp only at hSw); go_simp; (try (rw [if_pos (by omega)])); (try with_reducible rfl))
       try simp only [nr]
       refine stepL_pure (i := 3) (v := ?_) rfl (by kernel_rfl) (by kernel_rfl) (by kernel_rfl) (fun _ _ _ h => h) (Or.inl ⟨by rfl, ?_⟩) ?_
       rotate_left
       ·(intro w hSw; (try dsimp only at hSw); go_simp; (try (rw [if_pos (by omega)])); (try with_reducible rfl))
       try simp only [nr]
       refine stepL_take (i := 4) (v := ?_) rfl (by kernel_rfl) (by kernel_rfl) (by kernel_rfl) (by kernel_rfl) (fun _ _ _ h => h) (Or.inl ⟨by rfl, ?_⟩) (by assumption) ?_
       rotate_left
       ·(intro w hSw; (try dsimp only at hSw); go_simp; (try (rw [if_pos (by omega)])); (try with_reducible rfl))
       try simp only [nr]
       refine stepL_pure (i := 5) (v := ?_) rfl (by kernel_rfl) (by kernel_rfl) (by kernel_rfl) (fun _ _ _ h => h) (Or.inl ⟨by rfl, ?_⟩) ?_
       rotate_left
       ·(intro w hSw; (try dsimp only at hSw); go_simp; (try (rw [if_pos (by omega)])); (try with_reducible rfl))
       try simp only [nr]
       refine stepL_pure (i := 6) (v := ?_) rfl (by kernel_rfl) (by kernel_rfl) (by kernel_rfl) (fun _ _ _ h => h) (Or.inl ⟨by rfl, ?_⟩) ?_
       rotate_left
       ·(intro w hSw; (try dsimp only at hSw); go_simp; (try (rw [if_pos (by omega)])); (try with_reducible rfl))
       try simp only [nr]
       refine stepL_take (i := 7) (v := ?_) rfl (by kernel_rfl) (by kernel_rfl) (by kernel_rfl) (by kernel_rfl) (fun _ _ _ h => h) (Or.inl ⟨by rfl, ?_⟩) (by assumption) ?_
       rotate_left
       ·(intro w hSw; (try dsimp only at hSw); go_simp; (try (rw [if_pos (by omega)])); (try with_reducible rfl))
       try simp only [nr]
       refine stepL_pure (i := 8) (v := ?_) rfl (by kernel_rfl) (by kernel_rfl) (by kernel_rfl) (fun _ _ _ h => h) (Or.inl ⟨by rfl, ?_⟩) ?_
       rotate_left
       ·(intro w hSw; (try dsimp only at hSw); go_simp; (try (rw [if_pos (by omega)])); (try with_reducible rfl))
       try simp only [nr]
       refine stepL_pure (i := 9) (v := ?_) rfl (by kernel_rfl) (by kernel_rfl) (by kernel_rfl) (fun _ _ _ h => h) (Or.inl ⟨by rfl, ?_⟩) ?_
       rotate_left
       ·(intro w hSw; (try dsimp only at hSw); go_simp; (try (rw [if_pos (by omega)])); (try with_reducible rfl))
       try simp only [nr]
       refine stepL_pure (i := 10) (v := ?_) rfl (by kernel_rfl) (by kernel_rfl) (by kernel_rfl) (fun _ _ _ h => h) (Or.inl ⟨by rfl, ?_⟩) ?_
       rotate_left
       ·(intro w hSw; (try dsimp only at hSw); go_simp; (try (rw [if_pos (by omega)])); (try with_reducible rfl))
       try simp only [nr]
       refine stepL_take (i := 11) (v := ?_) rfl (by kernel_rfl) (by kernel_rfl) (by kernel_rfl) (by kernel_rfl) (fun _ _ _ h => h) (Or.inl ⟨by rfl, ?_⟩) (by assumption) ?_
       rotate_left
       ·(intro w hSw; (try dsimp only at hSw); go_simp; (try (rw [if_pos (by omega)])); (try with_reducible rfl))
       try simp only [nr]
       refine stepL_pure (i := 12) (v := ?_) rfl (by kernel_rfl) (by kernel_rfl) (by kernel_rfl) (fun _ _ _ h => h) (Or.inl ⟨by rfl, ?_⟩) ?_
       rotate_left
       ·(intro w hSw; (try dsimp only at hSw); go_simp; (try (rw [if_pos (by omega)])); (try with_reducible rfl))
       try simp only [nr]
       refine stepL_pure (i := 13) (v := ?_) rfl (by kernel_rfl) (by kernel_rfl) (by kernel_rfl) (fun _ _ _ h => h) (Or.inl ⟨by rfl, ?_⟩) ?_
       rotate_left
       ·(intro w hSw; (try dsimp only at hSw); go_simp; (try (rw [if_pos (by omega)])); (try with_reducible rfl))
       try simp only [nr]
       refine stepL_take (i := 14) (v := ?_) rfl (by kernel_rfl) (by kernel_rfl) (by kernel_rfl) (by kernel_rfl) (fun _ _ _ h => h) (Or.inl ⟨by rfl, ?_⟩) (by assumption) ?_
       rotate_left
       ·(intro w hSw; (try dsimp only at hSw); go_simp; (try (rw [if_pos (by omega)])); (try with_reducible rfl))
       try simp only [nr]
       refine stepL_only (i := 15) rfl (by kernel_rfl) (fun K hK => ?_)
       go_simp
       refine (r2_mul (x := X k t) (y := Y t l) (by exact (RatV.mk hm1 x1 x2).ext eC) (by exact (RatV.mk hm2 y1 y2).ext eC) (HZ.out k hlt l hlt' t hlt3).1 (HZ.out k hlt l hlt' t hlt3).2.1).mono ?_
       rintro e w4 ⟨v4, rfl, h4, e4⟩
       replace eC := eC.trans e4
       go_wp2_with fail
       refine hK.out _ _ (by exact ⟨eC.cell s0, eC.cell s1, eC.cell s2, eC.cell s3, eC.cell q0, eC.cell p0, eC.cell p1, eC.cell p2, eC.cell p3, eC.cell r0, eC.cell o0, eC.cell o1, eC.cell o2, eC.cell o3⟩) (fun hH => ?_)
       clear hHeld hK K
       have hHeld := hH
       clear hH
       try simp only [nr]
       refine stepL_only (i := 16) rfl (by kernel_rfl) (fun K hK => ?_)
       go_simp
       refine (r2_add (x := sum t (fun t => X k t * Y t l)) (y := X k t * Y t l) (by exact hv.ext eC) (by exact h4) (HZ.out k hlt l hlt' t hlt3).2.2.2 (HZ.out k hlt l hlt' t hlt3).2.2.1).mono ?_
       intro e w5 hh
       obtain ⟨b9, A9, k9, c9, A10, k10, c10, rfl, hb9, g9, g10, e5⟩ := hh.form
       replace eC := eC.trans e5
       have D0 := eC.block BS
       obtain ⟨t0, t1, t2, t3, t4, t5, t6, t7⟩ := cells4 D0
       go_wp2_with fail
       refine hK.out _ _ (by exact ⟨eC.cell s0, eC.cell s1, eC.cell s2, eC.cell s3, eC.cell q0, eC.cell p0, eC.cell p1, eC.cell p2, eC.cell p3, eC.cell r0, eC.cell o0, eC.cell o1, eC.cell o2, eC.cell o3⟩) (fun hH => ?_)
       clear hHeld hK K
       have hHeld := hH
       clear hH
       try simp only [nr]
       refine stepL_late (i := 17) rfl (by kernel_rfl) (by kernel_rfl) (fun K hK => ?_)
       go_simp
       refine hK.out _ _ ?_
       clear hK K
       try simp only [nr]
       refine stepL_done (by kernel_rfl) ?_ _
       clear hHeld
       obtain ⟨w6, E6, hB6, K6, hs6⟩ := boxSet D0 (by omega) (q := sum (t + 1) (fun t => X k t * Y t l)) hb9 g9 g10
       rw [E6]
       clear E6
       have ho6 := (ho.ext eC).chg K6 (by omega) (.inl (by omega))
       replace hE := K6.ext (hE.trans eC) (by omega)
       go_wp2
       go_roundw
       case rel => exact ⟨t + 1, by omega, by go_num, hE, ho6, by have := eC.size; omega, hB6⟩
       case measure => simp [intOf]; omega
      ·obtain rfl : t = n := by omega
       have r0 := ho.hcell hlt
       obtain ⟨zb, zA, zn, zc, zA2, zn2, zc2, t0, t1, t2, t3, t4, t5, t6, t7, -⟩ := (ho.row k hlt).at_ hlt'
       go_wp2
       have eC := (Ext.refl wr).drew
       refine region_late (fun w' => w'.cell? ⟨h, k, none⟩ = some (.slice (some ⟨β k, 0, none⟩) p (κ k)) ∧ w'.cell? ⟨w2.heap.size, 0, none⟩ = some (.bool b1) ∧ w'.cell? ⟨w2.heap.size, 1, none⟩ = some (.slice A1 k1 c1) ∧ w'.cell? ⟨w2.heap.size, 2, none⟩ = some (.bool false) ∧ w'.cell? ⟨w2.heap.size, 3, none⟩ = some (.slice A2 k2 c2)) [7] (by kernel_rfl) (by exact ⟨eC.cell r0, eC.cell s0, eC.cell s1, eC.cell s2, eC.cell s3⟩) (fun hHeld => ?_)
       refine stepL_pure (i := 0) (v := ?_) rfl (by kernel_rfl) (by kernel_rfl) (by kernel_rfl) (fun _ _ _ h => h) (Or.inl ⟨by rfl, ?_⟩) ?_
       rotate_left
       ·(intro w hSw; (try dsimp only at hSw); go_simp; (try (rw [if_pos (by omega)])); (try with_reducible rfl))
       try simp only [nr]
       refine stepL_pure (i := 1) (v := ?_) rfl (by kernel_rfl) (by kernel_rfl) (by kernel_rfl) (fun _ _ _ h => h) (Or.inl ⟨by rfl, ?_⟩) ?_
       rotate_left
       ·(intro w hSw; (try dsimp only at hSw); go_simp; (try (rw [if_pos (by omega)])); (try with_reducible rfl))
       try simp only [nr]
       refine stepL_pure (i := 2) (v := ?_) rfl (by kernel_rfl) (by kernel_rfl) (by kernel_rfl) (fun _ _ _ h => h) (Or.inl ⟨by rfl, ?_⟩) ?_
       rotate_left
       ·(intro w hSw; (try dsimp only at hSw); go_simp; (try (rw [if_pos (by omega)])); (try with_reducible rfl))
       try simp only [nr]
       refine stepL_take (i := 3) (v := ?_) rfl (by kernel_rfl) (by kernel_rfl) (by kernel_rfl) (by kernel_rfl) (fun _ _ _ h => h) (Or.inl ⟨by rfl, ?_⟩) (by assumption) ?_
       rotate_left
       ·(intro w hSw; (try dsimp only at hSw); go_simp; (try (rw [if_pos (by omega)])); (try with_reducible rfl))
       try simp only [nr]
       refine stepL_pure (i := 4) (v := ?_) rfl (by kernel_rfl) (by kernel_rfl) (by kernel_rfl) (fun _ _ _ h => h) (Or.inl ⟨by rfl, ?_⟩) ?_
       rotate_left
       ·(intro w hSw; (try dsimp only at hSw); go_simp; (try (rw [if_pos (by omega)])); (try with_reducible rfl))
       try simp only [nr]
       refine stepL_take (i := 5) (v := ?_) rfl (by kernel_rfl) (by kernel_rfl) (by kernel_rfl) (by kernel_rfl) (fun _ _ _ h => h) (Or.inl ⟨by rfl, ?_⟩) (by assumption) ?_
       rotate_left
       ·(intro w hSw; (try dsimp only at hSw); go_simp; (try (rw [if_pos (by omega)])); (try with_reducible rfl))
       try simp only [nr]
       refine stepL_pure (i := 6) (v := ?_) rfl (by kernel_rfl) (by kernel_rfl) (by kernel_rfl) (fun _ _ _ h => h) (Or.inl ⟨by rfl, ?_⟩) ?_
       rotate_left
       ·(intro w hSw; (try dsimp only at hSw); go_simp; (try (rw [if_pos (by omega)])); (try with_reducible rfl))
       try simp only [nr]
       refine stepL_late (i := 7) rfl (by kernel_rfl) (by kernel_rfl) (fun K hK => ?_)
       go_simp
       refine hK.out _ _ ?_
       clear hK K
       try simp only [nr]
       refine stepL_done (by kernel_rfl) ?_ _
       clear hHeld
       obtain ⟨w6, E6, C6, hs6, hr6⟩ := (ho.row k hlt).set (i := l) (q := mm t X Y k l) (by have := (ho.row k hlt).2.1; omega) (by omega) hb1 g1 g2
       rw [E6]
       clear E6
       have ho6 := ho.setRow hlt C6 (hr6.less (n' := p) (by omega))
       replace hE := C6.ext hE (ho.lo_ k hlt)
       go_wp2
       go_roundw
       case rel => exact ⟨l + 1, by omega, by go_num, hE.drew, _, ho6.ext (Ext.refl _).drew, fun i hi j hj => (by rw [updM_ne _ _ (by omega)]; exact HB.out i hi j hj), all_succ (fun j hj => (by rw [updM_same, upd_ne _ _ (by omega)]; exact HC.out j hj)) (by rw [updM_same, upd_same])⟩
       case measure => simp [intOf]; omega
    ·obtain rfl : l = p := by omega
     go_wp2
     go_roundw
     case rel => exact ⟨k + 1, by omega, by go_num, hE, B, ho, all_succ HB.out HC.out⟩
     case measure => simp [intOf]; omega
  ·obtain rfl : k = m := by omega
   go_wp2
   go_ret
   exact ⟨h, cap, β, κ, rfl, hcap, (ho.congr (fun i hi j hj => HB.out i hi j hj)).wide (Nat.le_refl _) hN ho.his (Nat.le_refl _), hE⟩
end Go.Proofs.YtghpfnhmlpfgcaaGreat
namespace Go.Proofs.YtghpfnhmlpfgcaaGreat
open Go.RowKit
theorem info_int : (Tryz.prog.info? 3).map (fun i => (i.zero, i.size, i.bytes)) = some (some (.int .i64 0), 1, 8) := by kernel_rfl
abbrev i64v (x : Nat) : Value := .int .i64 ((x : Nat) : Int)
def IsV (lo hi : Nat) (w : World) (v : Value) (p : List Nat) : Prop :=
 hi ≤ w.heap.size ∧ ∃ (A : Option Addr) (c : Nat), v = .slice A p.length c ∧ p.length ≤ c ∧ c ≤ maxLen ∧
  (0 < p.length → ∃ b off, A = some ⟨b, off, none⟩ ∧ lo ≤ b ∧ b < hi ∧ ∀ i, i < p.length → w.cell? ⟨b, off + i, none⟩ = some (.int .i64 ((p[i]?.getD 0 : Nat) : Int)))
theorem IsV.ext {lo hi : Nat} {w w' : World} {v : Value} {p : List Nat} (h : IsV lo hi w v p) (e : Ext w w') : IsV lo hi w' v p := by
 obtain ⟨h2, A, c, hv, h3, h4, h5⟩ := h
 refine ⟨Nat.le_trans h2 e.size, A, c, hv, h3, h4, fun hn => ?_⟩
 obtain ⟨b, off, hA, hl, hh, hx⟩ := h5 hn
 exact ⟨b, off, hA, hl, hh, fun i hi => e.cell (hx i hi)⟩
theorem IsV.chg {lo hi l h : Nat} {w w' : World} {v : Value} {p : List Nat} (hx : IsV lo hi w v p) (c : Chg l h w w') (hd : hi ≤ l ∨ h ≤ lo) : IsV lo hi w' v p := by
 obtain ⟨h2, A, k, hv, h3, h4, h5⟩ := hx
 refine ⟨Nat.le_trans h2 c.size, A, k, hv, h3, h4, fun hn => ?_⟩
 obtain ⟨b, off, hA, hl, hh, hx⟩ := h5 hn
 exact ⟨b, off, hA, hl, hh, fun i hi => c.cell (p := ⟨b, off + i, none⟩) (hx i hi) (by simp only; omega)⟩
theorem IsV.form {lo hi : Nat} {w : World} {v : Value} {p : List Nat} (h : IsV lo hi w v p) : ∃ (A : Option Addr) (c : Nat), v = .slice A p.length c ∧ p.length ≤ c ∧ c ≤ maxLen := by
 obtain ⟨a2, A, c, hv, a3, a4, a5⟩ := h
 exact ⟨A, c, hv, a3, a4⟩
theorem IsV.at_ {lo hi : Nat} {w : World} {A : Option Addr} {n c : Nat} {p : List Nat} (h : IsV lo hi w (.slice A n c) p) {i : Nat} (hi' : i < p.length) : ∃ b off z, A = some ⟨b, off, none⟩ ∧ w.cell? ⟨b, off + i, none⟩ = some (.int .i64 ((z : Nat) : Int)) ∧ Hid (z = p[i]?.getD 0) := by
 obtain ⟨a2, A, c, hv, a3, a4, a5⟩ := h
 injection hv with e1 e2 e3
 subst e1
 obtain ⟨b, off, hA, -, -, hx⟩ := a5 (by omega)
 exact ⟨b, off, _, hA, hx i hi', rfl⟩
theorem IsV.wide {lo hi lo' hi' : Nat} {w : World} {v : Value} {p : List Nat} (h : IsV lo hi w v p) (h1 : lo' ≤ lo) (h2 : hi ≤ hi') (h3 : hi' ≤ w.heap.size) : IsV lo' hi' w v p := by
 obtain ⟨a2, A, c, hv, a3, a4, a5⟩ := h
 refine ⟨h3, A, c, hv, a3, a4, fun hn => ?_⟩
 obtain ⟨b, off, hA, hl, hh, hx⟩ := a5 hn
 exact ⟨b, off, hA, by omega, by omega, hx⟩
def GrowI (base : Nat) (w : World) (v : Value) (p : List Nat) : Prop := base ≤ w.heap.size ∧ w.ownsRow base 3 1 v p.length (p.map i64v)
theorem GrowI.nil {base : Nat} {w : World} (h : base ≤ w.heap.size) : GrowI base w (.slice none 0 0) [] := ⟨h, by simp, .inl ⟨rfl, rfl⟩⟩
theorem GrowI.empty {base g : Nat} {w : World} (hb : base ≤ g) (h : w.heap[g]? = some (.cells #[] 3 (0, 0))) : GrowI base w (.slice (some ⟨g, 0, none⟩) 0 0) [] :=
 ⟨by have := blk_lt h; omega, by simp, .inr ⟨g, 0, #[], rfl, hb, h, Nat.le_refl _, Nat.zero_le _, rfl, rfl⟩⟩
theorem GrowI.form {base : Nat} {w : World} {v : Value} {p : List Nat} (h : GrowI base w v p) : ∃ A c, v = .slice A p.length c ∧ p.length ≤ c := by
 rcases h.2.2 with ⟨rfl, h0⟩ | ⟨g, cap, cur, rfl, _, _, hc, _⟩
 ·exact ⟨_, _, by rw [h0], by omega⟩
 ·exact ⟨_, _, rfl, hc⟩
theorem GrowI.ext {base : Nat} {w w' : World} {v : Value} {p : List Nat} (h : GrowI base w v p) (e : Ext w w') : GrowI base w' v p := by
 refine ⟨Nat.le_trans h.1 e.size, h.2.1, ?_⟩
 rcases h.2.2 with h0 | ⟨g, cap, cur, hv, hb, hh, h1, h2, h3, h4⟩
 ·exact .inl h0
 ·exact .inr ⟨g, cap, cur, hv, hb, e.block hh, h1, h2, h3, h4⟩
theorem GrowI.chg {base l u : Nat} {w w' : World} {v : Value} {p : List Nat} (h : GrowI base w v p) (c : Chg l u w w') (hd : u ≤ base) : GrowI base w' v p := by
 refine ⟨Nat.le_trans h.1 c.size, h.2.1, ?_⟩
 rcases h.2.2 with h0 | ⟨g, cap, cur, hv, hb, hh, h1, h2, h3, h4⟩
 ·exact .inl h0
 ·exact .inr ⟨g, cap, cur, hv, hb, c.blk hh (by omega), h1, h2, h3, h4⟩
theorem GrowI.isv {base : Nat} {w : World} {v : Value} {p : List Nat} (h : GrowI base w v p) {lo : Nat} (hl : lo ≤ base) : IsV lo w.heap.size w v p := by
 refine ⟨Nat.le_refl _, ?_⟩
 rcases h.2.2 with ⟨rfl, h0⟩ | ⟨g, cap, cur, rfl, hb, hh, h1, h2, h3, h4⟩
 ·exact ⟨none, 0, by rw [h0], by omega, Nat.zero_le _, fun h => absurd h (by omega)⟩
 ·refine ⟨_, cap, rfl, h1, h2, fun hn => ⟨g, 0, rfl, by omega, blk_lt hh, fun i hi => ?_⟩⟩
  rw [Nat.zero_add, cell_blk hh]
  have e1 : cur[i]? = (cur.toList.take (p.length * 1))[i]? := by rw [List.getElem?_take, if_pos (by omega)]; simp
  rw [e1, h4, List.getElem?_map, List.getElem?_eq_getElem (by omega)]
  simp
theorem run_append_int {base : Nat} {w : World} (t ty : TypeId) (ht : Tryz.prog.underlying t = some (.slice 3)) {v : Value} {p : List Nat} (h : GrowI base w v p)
  {b : Nat} {z : Nat} {fr : Nat × Nat} (hb : w.heap[b]? = some (.cells #[.int .i64 (z : Int)] 3 fr)) (hn : p.length < 1000000000) :
  ∃ g cap w', (Builtin.append_ #[t, t] ty #[v, .slice (some ⟨b, 0, none⟩) 1 1]).run Tryz.prog w = .ok (.slice (some ⟨g, 0, none⟩) (p.length + 1) cap) w' ∧ GrowI base w' (.slice (some ⟨g, 0, none⟩) (p.length + 1) cap) (p ++ [z]) ∧ (∃ g', base ≤ g' ∧ Chg g' (g' + 1) w w' ∧ NoU w g') := by
 obtain ⟨i0, hi0, hz0, hz1, hz2⟩ := info_parts info_int
 obtain ⟨h1, hown⟩ := h
 obtain ⟨g, cap, w', hrun, ho, hgr, hat, hlt⟩ := run_append_lies (P := Tryz.prog) w t ty base 3 i0 _ 1 8 ht hi0 hz0 hz1 hz2 rfl (by omega) v p.length (p.map i64v) hown ⟨b, 0, none⟩ 1 1 [.int .i64 (z : Int)] rfl
  (fun j u hj => by
   rw [add_addr, Nat.zero_add, cell_blk hb]
   simpa using hj)
  (fun u hu => by simp at hu; subst hu; rfl) (by omega) (by unfold maxLen; omega) (by omega) h1 w.heap.size rfl
 refine ⟨g, cap, w', hrun, ⟨Nat.le_trans h1 hgr.size, ?_⟩, ?_⟩
 ·rw [List.map_append, List.length_append]; exact ho
 ·have hT : NoU w w.heap.size := fun cs fr h => by rw [Array.getElem?_eq_none (Nat.le_refl _)] at h; cases h
  rcases hown.2 with ⟨rfl, h0⟩ | ⟨g0, cap0, cur, rfl, hb0, hh, _⟩
  ·exact ⟨w.heap.size, h1, grown_chg hgr (fun k hk => by simp [Value.ownBlock] at hk) hT, hT⟩
  ·have hT0 : NoU w g0 := NoU.mk hh (by decide)
   exact ⟨g0, hb0, grown_chg hgr (fun k hk => by simpa [Value.ownBlock] using hk.symm) hT0, hT0⟩
theorem wp_append_int {base : Nat} {w : World} {o : Oper} {a : Act} {K : Act → World → Prop} {Q : Exit → Act → World → Prop} (s x : Operand) (t : TypeId) (ht : Tryz.prog.underlying t = some (.slice 3))
  (ho : o.op = .call { callee := .builtin .append, args := #[s, x], argTypes := #[t, t] }) {v : Value} {p : List Nat} (hs : a.eval s = v) (h : GrowI base w v p)
  {b : Nat} (hx : a.eval x = .slice (some ⟨b, 0, none⟩) 1 1) {z : Nat} {fr : Nat × Nat} (hb : w.heap[b]? = some (.cells #[.int .i64 (z : Int)] 3 fr)) (hn : p.length < 1000000000)
  (hK : ∀ g cap w', GrowI base w' (.slice (some ⟨g, 0, none⟩) (p.length + 1) cap) (p ++ [z]) → (∃ g', base ≤ g' ∧ Chg g' (g' + 1) w w' ∧ NoU w g') → K (a.put o.dst (.slice (some ⟨g, 0, none⟩) (p.length + 1) cap)) w') : o.wp Tryz.prog a w K Q := by
 obtain ⟨g, cap, w', hrun, h1, h2⟩ := run_append_int t o.type ht h hb hn
 unfold Oper.wp execOp
 simp only [ho, resolve, invoke, builtin, Sem.run_bind, Sem.run_pure, Result.andThen_ok, List.map_toArray, List.map_cons, List.map_nil, hs, hx, hrun]
 exact hK g cap w' h1 h2
theorem wpList_append_int {base : Nat} {w : World} {ops : Array Oper} {rest : List Oper} {o : Oper} {a : Act} {Q : Exit → Act → World → Prop} (hgd : o.guard = none) (s x : Operand) (t : TypeId) (ht : Tryz.prog.underlying t = some (.slice 3))
  (ho : o.op = .call { callee := .builtin .append, args := #[s, x], argTypes := #[t, t] }) {v : Value} {p : List Nat} (hs : a.eval s = v) (h : GrowI base w v p)
  {b : Nat} (hx : a.eval x = .slice (some ⟨b, 0, none⟩) 1 1) {z : Nat} {fr : Nat × Nat} (hb : w.heap[b]? = some (.cells #[.int .i64 (z : Int)] 3 fr)) (hn : p.length < 1000000000)
  (hK : ∀ g cap w', GrowI base w' (.slice (some ⟨g, 0, none⟩) (p.length + 1) cap) (p ++ [z]) → (∃ g', base ≤ g' ∧ Chg g' (g' + 1) w w' ∧ NoU w g') → wpList Tryz.prog ops Q rest (a.put o.dst (.slice (some ⟨g, 0, none⟩) (p.length + 1) cap)) w') : wpList Tryz.prog ops Q (o :: rest) a w :=
 wpList_plain hgd fun _ hK' => wp_append_int s x t ht ho hs h hx hb hn (fun g cap w' a1 a2 => hK' _ _ (hK g cap w' a1 a2))
end Go.Proofs.YtghpfnhmlpfgcaaGreat
namespace Go.Proofs.YtghpfnhmlpfgcaaGreat
theorem seek_none {M : Nat → Nat → Rat} {m j r : Nat} (hr : r ≤ m) (h : ∀ i, r ≤ i → i < m → M i j = 0) : seek M m j (m - r) r = m := by
 have s := seek_spec M m j (m - r) r (Nat.le_refl _) hr
 rcases Nat.lt_or_ge (seek M m j (m - r) r) m with h1 | h1
 ·exact absurd (h _ s.1 h1) (s.2.2.2 h1)
 ·omega
theorem seek_some {M : Nat → Nat → Rat} {m j r a : Nat} (hr : r ≤ a) (ha : a < m) (h : ∀ i, r ≤ i → i < a → M i j = 0) (hn : M a j ≠ 0) : seek M m j (m - r) r = a := by
 have s := seek_spec M m j (m - r) r (Nat.le_refl _) (by omega)
 rcases Nat.lt_trichotomy (seek M m j (m - r) r) a with h1 | h1 | h1
 ·exact absurd (h _ s.1 h1) (s.2.2.2 (by omega))
 ·exact h1
 ·exact absurd (s.2.2.1 a hr h1) hn
theorem rref_skip {m j : Nat} {X : Nat → Nat → Rat} (h : seek (rref m X j).1 m j (m - (rref m X j).2.length) (rref m X j).2.length = m) : rref m X (j + 1) = rref m X j := by
 show rstep m (rref m X j) j = _
 unfold rstep
 simp only [h, Nat.lt_irrefl, if_false]
theorem rref_step {m j a : Nat} {X : Nat → Nat → Rat} (ha : a < m) (h : seek (rref m X j).1 m j (m - (rref m X j).2.length) (rref m X j).2.length = a) :
  rref m X (j + 1) = (clr (nrm (swp (rref m X j).1 (rref m X j).2.length a) (rref m X j).2.length j) (rref m X j).2.length j, (rref m X j).2 ++ [j]) := by
 show rstep m (rref m X j) j = _
 unfold rstep
 simp only [h, ha, if_true]
theorem rref_full {m : Nat} {X : Nat → Nat → Rat} {j : Nat} (h : m ≤ (rref m X j).2.length) : ∀ n, j ≤ n → rref m X n = rref m X j := by
 intro n hn
 obtain ⟨d, rfl⟩ := Nat.exists_eq_add_of_le hn
 clear hn
 induction d with
 | zero => rfl
 | succ d ih =>
  have e : rref m X (j + (d + 1)) = rstep m (rref m X (j + d)) (j + d) := rfl
  rw [e, ih]
  unfold rstep
  have hz : m - (rref m X j).2.length = 0 := by omega
  simp only [hz, seek]
  rw [if_neg (by omega)]
def nrmTo (M : Nat → Nat → Rat) (r j k c : Nat) : Rat := if c < k then M r c / M r j else M r c
def clrTo (M : Nat → Nat → Rat) (r j i : Nat) (i' c : Nat) : Rat := if i' < i then clr M r j i' c else M i' c
def rowTo (M : Nat → Nat → Rat) (r j i k c : Nat) : Rat := if c < k then M i c - M i j * M r c else M i c
theorem sub_zero_mul (a b : Rat) : a = a - 0 * b := by grind
theorem rowTo_full {M : Nat → Nat → Rat} {r j i k c : Nat} (hc : c < k) (hir : ¬ i = r) : rowTo M r j i k c = clr M r j i c := by
 unfold rowTo clr; rw [if_pos hc, if_neg hir]
end Go.Proofs.YtghpfnhmlpfgcaaGreat
