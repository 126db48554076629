import Derived.Test.YtghpfnhmlpfgcaaGreatWb01
import Derived.Test.YtghpfnhmlpfgcaaGreatWb02
import Derived.Test.YtghpfnhmlpfgcaaGreatWb03
import Derived.Test.YtghpfnhmlpfgcaaGreatWb04
import Derived.Test.YtghpfnhmlpfgcaaGreatWb05
import Derived.Test.YtghpfnhmlpfgcaaGreatWb06
import Derived.Test.YtghpfnhmlpfgcaaGreatWb07
import Derived.Test.YtghpfnhmlpfgcaaGreatWb08
import Derived.Test.YtghpfnhmlpfgcaaGreatWb09
import Derived.Test.YtghpfnhmlpfgcaaGreatWb10
import Derived.Test.YtghpfnhmlpfgcaaGreatWb11
import Derived.Test.YtghpfnhmlpfgcaaGreatWb12
import Derived.Test.YtghpfnhmlpfgcaaGreatWb13
import Derived.Test.YtghpfnhmlpfgcaaGreatWb14
import Derived.Test.YtghpfnhmlpfgcaaGreatWb15
import Derived.Test.YtghpfnhmlpfgcaaGreatWb16
import Derived.Test.YtghpfnhmlpfgcaaGreatWb17
import Derived.Test.YtghpfnhmlpfgcaaGreatWb18
import Derived.Test.YtghpfnhmlpfgcaaGreatWb19
import Derived.Test.YtghpfnhmlpfgcaaGreatWb20
import Derived.Test.YtghpfnhmlpfgcaaGreatWb21
import Derived.Test.YtghpfnhmlpfgcaaGreatWb22
import Derived.Test.YtghpfnhmlpfgcaaGreatWb23
import Derived.Test.YtghpfnhmlpfgcaaGreatWb24
import Derived.Test.YtghpfnhmlpfgcaaGreatWb25
import Derived.Test.YtghpfnhmlpfgcaaGreatWb26
import Derived.Test.YtghpfnhmlpfgcaaGreatWb27
import Derived.Test.YtghpfnhmlpfgcaaGreatWb28
import Derived.Test.YtghpfnhmlpfgcaaGreatWb29
import Derived.Test.YtghpfnhmlpfgcaaGreatWb30
import Derived.Test.YtghpfnhmlpfgcaaGreatWb31
import Derived.Test.YtghpfnhmlpfgcaaGreatWb32
import Derived.Test.YtghpfnhmlpfgcaaGreatWb33
import Derived.Test.YtghpfnhmlpfgcaaGreatWb34
import Derived.Test.YtghpfnhmlpfgcaaGreatWb35
import Derived.Test.YtghpfnhmlpfgcaaGreatWb36
import Derived.Test.YtghpfnhmlpfgcaaGreatWb37
import Derived.Test.YtghpfnhmlpfgcaaGreatWb38
import Derived.Test.YtghpfnhmlpfgcaaGreatWb39
import Derived.Test.YtghpfnhmlpfgcaaGreatWb40
import Derived.Test.YtghpfnhmlpfgcaaGreatWb41
import Derived.Test.YtghpfnhmlpfgcaaGreatWb42
import Derived.Test.YtghpfnhmlpfgcaaGreatWf01
import Derived.Deep.AppendLies
import Derived.WalkKit
import Derived.WalkSpells
import Derived.WalkLawsBesides
import Derived.Lib.Hide
import Derived.Deep.RegionHeld3
import Derived.Deep.QuietTactic
import Derived.BigQuiet
import Derived.Maps.AppendAt
import Derived.Deep.DeepCutAuto
import Derived.Deep.RegionWith
import Derived.Deep.DeepMust
import Derived.Deep.CutBlock
import Derived.Laws.IdiomCopy
import Derived.Shelf.Bits.Mul64
import Derived.OrdersIn
import Derived.RegionTactic
import Derived.RangeFuncNested
import Derived.RangeFuncBound
import Derived.RangeFuncCalls
import Derived.RangeFuncLeaves
import Derived.RangeFuncBox
import Derived.Shelf.Abstract
import Derived.OwnWalkIn
import Derived.TacticsInMore
import Derived.LoopNIn
import Derived.LoopIn
set_option linter.all false
namespace Go.Proofs.YtghpfnhmlpfgcaaGreat
open Go.RowKit
set_option maxRecDepth 100000 in
set_option maxHeartbeats 8000000 in
theorem r5_sum {N lo hi lo' hi' : Nat} {w : World} {v v' u : Value} {m n : Nat} {X Y : Nat → Nat → Rat} {kq : Rat} (h : MtV N lo hi w v m n X) (h' : MtV N lo' hi' w v' m n Y) (hk : RatV N w u kq) (hm0 : 0 < m) (hm : m < 1000000) (hn0 : 0 < n) (hn : n < 1000000)
  {kx ky kk : Nat} (hkx : HtM m n kx X) (hky : HtM m n ky Y) (hkk : Ht kk kq) (hK : kx + (kk + ky) + 1 ≤ 29000000000) :
  Calls Tryz.prog 40 #[v, v', u] w (RetOwn N w m n (fun i j => X i j + kq * Y i j)) := by
 have hN := h.le
 obtain ⟨A, c, rfl, hmc, hcm⟩ := h.form
 obtain ⟨A0, c0, rfl, hmc0, hcm0⟩ := h'.form
 obtain ⟨nk, A5, k5, c5, A6, k6, c6, rfl, hbk, gk1, gk2⟩ := hk.parts
 unfold maxLen at hcm hcm0
 have hI := h
 have hI' := h'
 have HSZ : Hid (∀ i, i < m → ∀ j, j < n → Sz (X i j) ∧ Sz (Y i j) ∧ Sz (kq * Y i j)) := fun i hi j hj => ⟨(hkx i hi j hj).sz (by omega), (hky i hi j hj).sz (by omega), (hkk.mul (hky i hi j hj)).sz (by omega)⟩
 have HKZ : Hid (Sz kq) := hkk.sz (by omega)
 obtain ⟨Z, hZ⟩ := hid_eq (fun i j => X i j + kq * Y i j)
 have HZE : Hid (∀ i j, X i j + kq * Y i j = Z i j) := fun i j => by rw [hZ.out]
 rw [← hZ.out]
 clear h h' hk hkx hky hkk hK
 go_enter Tryz.func40, Tryz.ntmps40
 go_wp2_with (go_at_call 79; refine Hid.out ?_)
 refine boxesC1 ?_
 intro W hW hszW B0
 refine (r5_copy (hI.ext hW) hm hn0 hn).mono ?_
 rintro e w1 ⟨h, cap, β, κ, rfl, hcap, ho, e1⟩
 have hE1 := hW.trans e1
 have hs1 := e1.size
 replace B0 := e1.block B0
 have hBK : BoxR N w1 w.heap.size kq := BoxR.mk B0 hbk (gk1.ext hE1) (gk2.ext hE1)
 obtain ⟨lo1, hlo1⟩ : ∃ lo1, lo1 = W.heap.size := ⟨_, rfl⟩
 obtain ⟨hi1, hhi1⟩ : ∃ hi1, hi1 = w1.heap.size := ⟨_, rfl⟩
 rw [← hlo1, ← hhi1] at ho
 obtain ⟨gK, hgK⟩ : ∃ gK, gK = w.heap.size := ⟨_, rfl⟩
 rw [← hgK] at hBK ⊢
 have hgl : gK < lo1 := by omega
 have hNl : N ≤ lo1 := ho.le
 have hwl : w.heap.size ≤ lo1 := by omega
 have hI1 := (hI.ext hE1)
 have hI1' := (hI'.ext hE1)
 have hhiW : hi ≤ lo1 := by have := hI.2.1; omega
 have hhiW' : hi' ≤ lo1 := by have := hI'.2.1; omega
 clear B0 hW hszW e1 gk1 gk2 hgK hbk hI hI'
 go_wp2
 go_loopw [8] (fun i wr => ∃ k : Nat, k ≤ m ∧ i = .int .i64 k ∧ Chg lo1 hi1 w1 wr ∧ ∃ B, OwnM N lo1 hi1 wr h cap m n β κ B ∧ Hid (∀ i, i < k → ∀ j, j < n → B i j = Z i j)) (fun i _ => m - (intOf i).toNat)
 case atStart => exact ⟨0, Nat.zero_le _, rfl, Chg.refl _ _ _, _, ho, fun i hi => by omega⟩
 case round =>
  clear ho
  obtain ⟨k, hk, rfl, hC, B, ho, HB⟩ := hrel
  by_cases hlt : k < m
  ·obtain ⟨wq, hwq⟩ : ∃ wq, wq = wr := ⟨wr, rfl⟩
   subst hwq
   go_wp2
   go_loopw [9] (fun i wr => ∃ l : Nat, l ≤ n ∧ i = .int .i64 l ∧ Chg lo1 hi1 w1 wr ∧ ∃ B, OwnM N lo1 hi1 wr h cap m n β κ B ∧ Hid (∀ i, i < k → ∀ j, j < n → B i j = Z i j) ∧ Hid (∀ j, j < l → B k j = Z k j)) (fun i _ => n - (intOf i).toNat)
   case atStart => exact ⟨0, Nat.zero_le _, rfl, hC, B, ho, HB, fun j hj => by omega⟩
   case round =>
    clear hC ho HB B
    obtain ⟨l, hl, rfl, hC, B, ho, HB, HC⟩ := hrel
    have hXr := hI1.chg hC hNl (.inl hhiW)
    have hYr := hI1'.chg hC hNl (.inl hhiW')
    have hKr := hBK.chg hC hNl (.inl hgl)
    obtain ⟨b, off, rfl, -, -, hx⟩ := hXr.addr hm0
    obtain ⟨A2, c2, q0, -, hc2, hl2⟩ := hx k hlt
    unfold maxLen at hc2
    clear hx
    by_cases hlt' : l < n
    ·obtain ⟨b2, off2, rfl, -, -, hx⟩ := hl2.addr (by omega)
     obtain ⟨n1, A3, k3, c3, A4, k4, c4, p0, p1, p2, p3, hb1, g1, g2⟩ := (hx l hlt').open
     clear hx hl2
     obtain ⟨b', off', rfl, -, -, hx⟩ := hYr.addr hm0
     obtain ⟨A7, c7, q1, -, hc7, hl7⟩ := hx k hlt
     unfold maxLen at hc7
     clear hx
     obtain ⟨b7, off7, rfl, -, -, hx⟩ := hl7.addr (by omega)
     obtain ⟨n2, A8, k8, c8, A9, k9, c9, d0, d1, d2, d3, hb2, g3, g4⟩ := (hx l hlt').open
     clear hx hl7
     obtain ⟨n3, S1, S2, S3, S4, S5, S6, r0, r1, r2, r3, -, -, -, -, hRK, -⟩ := hKr.open
     have o0 := ho.hcell hlt
     obtain ⟨zs1, zs2, zs3⟩ := HSZ.out k hlt l hlt'
     have HS1 := Lib.hid zs1
     have HS2 := Lib.hid zs2
     have HS3 := Lib.hid zs3
     have HZ1 := Lib.hid (HZE.out k l)
     have hRX : RatV N wr (.agg #[.bool n1, .slice A3 k3 c3, .bool false, .slice A4 k4 c4]) (X k l) := RatV.mk hb1 g1 g2
     have hRY : RatV N wr (.agg #[.bool n2, .slice A8 k8 c8, .bool false, .slice A9 k9 c9]) (Y k l) := RatV.mk hb2 g3 g4
     clear zs1 zs2 zs3 g1 g2 g3 g4 hb1 hb2 hXr hYr hKr
     go_upto_region 8 with (fail)
     refine region_inv [Mn.eq (.slice (some ⟨h, 0, none⟩) m cap), Mn.eq (.int .i64 (k : Int)), Mn.eq (.pointer (some ⟨h, k, none⟩)), Mn.eq (.slice (some ⟨β k, 0, none⟩) n (κ k)), Mn.eq (.int .i64 (l : Int)), Mn.eq (.slice (some ⟨b, off, none⟩) m c), Mn.eq (.int .i64 (k : Int)), Mn.eq (.pointer (some ⟨b, off + k, none⟩)), Mn.eq (.slice (some ⟨b2, off2, none⟩) n c2), Mn.eq (.int .i64 (l : Int)), Mn.eq (.pointer (some ⟨b2, off2 + l * 4, none⟩)), Mn.rat N (X k l), Mn.rat N kq, Mn.eq (.slice (some ⟨b', off', none⟩) m c0), Mn.eq (.int .i64 (k : Int)), Mn.eq (.pointer (some ⟨b', off' + k, none⟩)), Mn.eq (.slice (some ⟨b7, off7, none⟩) n c7), Mn.eq (.int .i64 (l : Int)), Mn.eq (.pointer (some ⟨b7, off7 + l * 4, none⟩)), Mn.rat N (Y k l), Mn.rat N (kq * Y k l), Mn.rat N (Z k l), Mn.eq (.pointer (some ⟨β k, l * 4, none⟩)), Mn.any] [some 27, some 28, some 29, some 30, some 31, some 32, some 33, some 34, some 35, some 36, some 37, some 38, some 39, some 40, some 41, some 42, some 43, some 44, some 45, some 46, some 47, some 48, some 49, none] [23] [true, true, true, true, true, true, true, true, true, true, true, true, true, true, true, true, true, true, true, true, true, true, true, false] 1 (by kernel_rfl) (by kernel_rfl) (by kernel_rfl) (by kernel_rfl) (by kernel_rfl) (by kernel_rfl) (by kernel_rfl) (by kernel_rfl) ?_ ?_
     ·intro i hi hl
      have hi' : i = 0 ∨ i = 1 ∨ i = 2 ∨ i = 3 ∨ i = 4 ∨ i = 5 ∨ i = 6 ∨ i = 7 ∨ i = 8 ∨ i = 9 ∨ i = 10 ∨ i = 11 ∨ i = 12 ∨ i = 13 ∨ i = 14 ∨ i = 15 ∨ i = 16 ∨ i = 17 ∨ i = 18 ∨ i = 19 ∨ i = 20 ∨ i = 21 ∨ i = 22 ∨ i = 23 := by have h9 : i < 24 := hi; omega
      clear hi
      rcases hi' with rfl | rfl | rfl | rfl | rfl | rfl | rfl | rfl | rfl | rfl | rfl | rfl | rfl | rfl | rfl | rfl | rfl | rfl | rfl | rfl | rfl | rfl | rfl | rfl
      ·clear hl
       refine stp rfl ?_
       intro ac wi eI hold hpre K hK
       have o7 := hold 7 (by kernel_rfl)
       simp only [List.getElem?_toArray, List.getElem?_cons_succ, List.getElem?_cons_zero] at o7
       clear hold hpre
       go_simp
       exact hK.out _ _ (Ext.refl _) rfl
      ·clear hl
       refine stp rfl ?_
       intro ac wi eI hold hpre K hK
       have o8 := hold 8 (by kernel_rfl)
       simp only [List.getElem?_toArray, List.getElem?_cons_succ, List.getElem?_cons_zero] at o8
       clear hold hpre
       go_simp
       exact hK.out _ _ (Ext.refl _) rfl
      ·clear hl
       refine stp rfl ?_
       intro ac wi eI hold hpre K hK
       obtain ⟨x27, s27, j27⟩ := hpre 0 (by kernel_rfl) 27 rfl
       obtain rfl : x27 = (.slice (some ⟨h, 0, none⟩) m cap) := j27
       obtain ⟨x28, s28, j28⟩ := hpre 1 (by kernel_rfl) 28 rfl
       obtain rfl : x28 = (.int .i64 (k : Int)) := j28
       clear hold hpre
       go_simp
       exact hK.out _ _ (Ext.refl _) rfl
      ·clear hl
       refine stp rfl ?_
       intro ac wi eI hold hpre K hK
       obtain ⟨x29, s29, j29⟩ := hpre 2 (by kernel_rfl) 29 rfl
       obtain rfl : x29 = (.pointer (some ⟨h, k, none⟩)) := j29
       clear hold hpre
       have cc0 := eI.cell o0
       have cc1 := eI.cell q0
       have cc2 := eI.cell q1
       have cc3 := eI.cell p0
       have cc4 := eI.cell p1
       have cc5 := eI.cell p2
       have cc6 := eI.cell p3
       have cc7 := eI.cell d0
       have cc8 := eI.cell d1
       have cc9 := eI.cell d2
       have cc10 := eI.cell d3
       have cc11 := eI.cell r0
       have cc12 := eI.cell r1
       have cc13 := eI.cell r2
       have cc14 := eI.cell r3
       go_simp
       exact hK.out _ _ (Ext.refl _) rfl
      ·clear hl
       refine stp rfl ?_
       intro ac wi eI hold hpre K hK
       have o9 := hold 9 (by kernel_rfl)
       simp only [List.getElem?_toArray, List.getElem?_cons_succ, List.getElem?_cons_zero] at o9
       clear hold hpre
       go_simp
       exact hK.out _ _ (Ext.refl _) rfl
      ·clear hl
       refine stp rfl ?_
       intro ac wi eI hold hpre K hK
       have o0 := hold 0 (by kernel_rfl)
       simp only [List.getElem?_toArray, List.getElem?_cons_succ, List.getElem?_cons_zero] at o0
       clear hold hpre
       go_simp
       exact hK.out _ _ (Ext.refl _) rfl
      ·clear hl
       refine stp rfl ?_
       intro ac wi eI hold hpre K hK
       have o8 := hold 8 (by kernel_rfl)
       simp only [List.getElem?_toArray, List.getElem?_cons_succ, List.getElem?_cons_zero] at o8
       clear hold hpre
       go_simp
       exact hK.out _ _ (Ext.refl _) rfl
      ·clear hl
       refine stp rfl ?_
       intro ac wi eI hold hpre K hK
       obtain ⟨x32, s32, j32⟩ := hpre 5 (by kernel_rfl) 32 rfl
       obtain rfl : x32 = (.slice (some ⟨b, off, none⟩) m c) := j32
       obtain ⟨x33, s33, j33⟩ := hpre 6 (by kernel_rfl) 33 rfl
       obtain rfl : x33 = (.int .i64 (k : Int)) := j33
       clear hold hpre
       go_simp
       exact hK.out _ _ (Ext.refl _) rfl
      ·clear hl
       refine stp rfl ?_
       intro ac wi eI hold hpre K hK
       obtain ⟨x34, s34, j34⟩ := hpre 7 (by kernel_rfl) 34 rfl
       obtain rfl : x34 = (.pointer (some ⟨b, off + k, none⟩)) := j34
       clear hold hpre
       have cc0 := eI.cell o0
       have cc1 := eI.cell q0
       have cc2 := eI.cell q1
       have cc3 := eI.cell p0
       have cc4 := eI.cell p1
       have cc5 := eI.cell p2
       have cc6 := eI.cell p3
       have cc7 := eI.cell d0
       have cc8 := eI.cell d1
       have cc9 := eI.cell d2
       have cc10 := eI.cell d3
       have cc11 := eI.cell r0
       have cc12 := eI.cell r1
       have cc13 := eI.cell r2
       have cc14 := eI.cell r3
       go_simp
       exact hK.out _ _ (Ext.refl _) rfl
      ·clear hl
       refine stp rfl ?_
       intro ac wi eI hold hpre K hK
       have o9 := hold 9 (by kernel_rfl)
       simp only [List.getElem?_toArray, List.getElem?_cons_succ, List.getElem?_cons_zero] at o9
       clear hold hpre
       go_simp
       exact hK.out _ _ (Ext.refl _) rfl
      ·clear hl
       refine stp rfl ?_
       intro ac wi eI hold hpre K hK
       obtain ⟨x35, s35, j35⟩ := hpre 8 (by kernel_rfl) 35 rfl
       obtain rfl : x35 = (.slice (some ⟨b2, off2, none⟩) n c2) := j35
       obtain ⟨x36, s36, j36⟩ := hpre 9 (by kernel_rfl) 36 rfl
       obtain rfl : x36 = (.int .i64 (l : Int)) := j36
       clear hold hpre
       go_simp
       exact hK.out _ _ (Ext.refl _) rfl
      ·clear hl
       refine stp rfl ?_
       intro ac wi eI hold hpre K hK
       obtain ⟨x37, s37, j37⟩ := hpre 10 (by kernel_rfl) 37 rfl
       obtain rfl : x37 = (.pointer (some ⟨b2, off2 + l * 4, none⟩)) := j37
       clear hold hpre
       have cc0 := eI.cell o0
       have cc1 := eI.cell q0
       have cc2 := eI.cell q1
       have cc3 := eI.cell p0
       have cc4 := eI.cell p1
       have cc5 := eI.cell p2
       have cc6 := eI.cell p3
       have cc7 := eI.cell d0
       have cc8 := eI.cell d1
       have cc9 := eI.cell d2
       have cc10 := eI.cell d3
       have cc11 := eI.cell r0
       have cc12 := eI.cell r1
       have cc13 := eI.cell r2
       have cc14 := eI.cell r3
       go_simp
       exact hK.out _ _ (Ext.refl _) (hRX.ext eI)
      ·clear hl
       refine stp rfl ?_
       intro ac wi eI hold hpre K hK
       have o5 := hold 5 (by kernel_rfl)
       simp only [List.getElem?_toArray, List.getElem?_cons_succ, List.getElem?_cons_zero] at o5
       clear hold hpre
       have cc0 := eI.cell o0
       have cc1 := eI.cell q0
       have cc2 := eI.cell q1
       have cc3 := eI.cell p0
       have cc4 := eI.cell p1
       have cc5 := eI.cell p2
       have cc6 := eI.cell p3
       have cc7 := eI.cell d0
       have cc8 := eI.cell d1
       have cc9 := eI.cell d2
       have cc10 := eI.cell d3
       have cc11 := eI.cell r0
       have cc12 := eI.cell r1
       have cc13 := eI.cell r2
       have cc14 := eI.cell r3
       go_simp
       exact hK.out _ _ (Ext.refl _) (hRK.ext eI)
      ·clear hl
       refine stp rfl ?_
       intro ac wi eI hold hpre K hK
       have o1 := hold 1 (by kernel_rfl)
       simp only [List.getElem?_toArray, List.getElem?_cons_succ, List.getElem?_cons_zero] at o1
       clear hold hpre
       go_simp
       exact hK.out _ _ (Ext.refl _) rfl
      ·clear hl
       refine stp rfl ?_
       intro ac wi eI hold hpre K hK
       have o8 := hold 8 (by kernel_rfl)
       simp only [List.getElem?_toArray, List.getElem?_cons_succ, List.getElem?_cons_zero] at o8
       clear hold hpre
       go_simp
       exact hK.out _ _ (Ext.refl _) rfl
      ·clear hl
       refine stp rfl ?_
       intro ac wi eI hold hpre K hK
       obtain ⟨x40, s40, j40⟩ := hpre 13 (by kernel_rfl) 40 rfl
       obtain rfl : x40 = (.slice (some ⟨b', off', none⟩) m c0) := j40
       obtain ⟨x41, s41, j41⟩ := hpre 14 (by kernel_rfl) 41 rfl
       obtain rfl : x41 = (.int .i64 (k : Int)) := j41
       clear hold hpre
       go_simp
       exact hK.out _ _ (Ext.refl _) rfl
      ·clear hl
       refine stp rfl ?_
       intro ac wi eI hold hpre K hK
       obtain ⟨x42, s42, j42⟩ := hpre 15 (by kernel_rfl) 42 rfl
       obtain rfl : x42 = (.pointer (some ⟨b', off' + k, none⟩)) := j42
       clear hold hpre
       have cc0 := eI.cell o0
       have cc1 := eI.cell q0
       have cc2 := eI.cell q1
       have cc3 := eI.cell p0
       have cc4 := eI.cell p1
       have cc5 := eI.cell p2
       have cc6 := eI.cell p3
       have cc7 := eI.cell d0
       have cc8 := eI.cell d1
       have cc9 := eI.cell d2
       have cc10 := eI.cell d3
       have cc11 := eI.cell r0
       have cc12 := eI.cell r1
       have cc13 := eI.cell r2
       have cc14 := eI.cell r3
       go_simp
       exact hK.out _ _ (Ext.refl _) rfl
      ·clear hl
       refine stp rfl ?_
       intro ac wi eI hold hpre K hK
       have o9 := hold 9 (by kernel_rfl)
       simp only [List.getElem?_toArray, List.getElem?_cons_succ, List.getElem?_cons_zero] at o9
       clear hold hpre
       go_simp
       exact hK.out _ _ (Ext.refl _) rfl
      ·clear hl
       refine stp rfl ?_
       intro ac wi eI hold hpre K hK
       obtain ⟨x43, s43, j43⟩ := hpre 16 (by kernel_rfl) 43 rfl
       obtain rfl : x43 = (.slice (some ⟨b7, off7, none⟩) n c7) := j43
       obtain ⟨x44, s44, j44⟩ := hpre 17 (by kernel_rfl) 44 rfl
       obtain rfl : x44 = (.int .i64 (l : Int)) := j44
       clear hold hpre
       go_simp
       exact hK.out _ _ (Ext.refl _) rfl
      ·clear hl
       refine stp rfl ?_
       intro ac wi eI hold hpre K hK
       obtain ⟨x45, s45, j45⟩ := hpre 18 (by kernel_rfl) 45 rfl
       obtain rfl : x45 = (.pointer (some ⟨b7, off7 + l * 4, none⟩)) := j45
       clear hold hpre
       have cc0 := eI.cell o0
       have cc1 := eI.cell q0
       have cc2 := eI.cell q1
       have cc3 := eI.cell p0
       have cc4 := eI.cell p1
       have cc5 := eI.cell p2
       have cc6 := eI.cell p3
       have cc7 := eI.cell d0
       have cc8 := eI.cell d1
       have cc9 := eI.cell d2
       have cc10 := eI.cell d3
       have cc11 := eI.cell r0
       have cc12 := eI.cell r1
       have cc13 := eI.cell r2
       have cc14 := eI.cell r3
       go_simp
       exact hK.out _ _ (Ext.refl _) (hRY.ext eI)
      ·clear hl
       refine stp rfl ?_
       intro ac wi eI hold hpre K hK
       obtain ⟨x39, s39, j39⟩ := hpre 12 (by kernel_rfl) 39 rfl
       replace j39 : Mn.p (Mn.rat N kq) x39 wi := j39
       obtain ⟨x46, s46, j46⟩ := hpre 19 (by kernel_rfl) 46 rfl
       replace j46 : Mn.p (Mn.rat N (Y k l)) x46 wi := j46
       clear hold hpre
       go_simp
       refine (r2_mul j39 j46 HKZ.out HS2.out).mono ?_
       rintro e wj ⟨vj, rfl, hj, ej⟩
       go_wp2_with fail
       exact hK.out _ _ ej hj
      ·clear hl
       refine stp rfl ?_
       intro ac wi eI hold hpre K hK
       obtain ⟨x38, s38, j38⟩ := hpre 11 (by kernel_rfl) 38 rfl
       replace j38 : Mn.p (Mn.rat N (X k l)) x38 wi := j38
       obtain ⟨x47, s47, j47⟩ := hpre 20 (by kernel_rfl) 47 rfl
       replace j47 : Mn.p (Mn.rat N (kq * Y k l)) x47 wi := j47
       clear hold hpre
       go_simp
       refine (r2_add j38 j47 HS1.out HS3.out).mono ?_
       rw [HZ1.out]
       rintro e wj ⟨vj, rfl, hj, ej⟩
       go_wp2_with fail
       exact hK.out _ _ ej hj
      ·clear hl
       refine stp rfl ?_
       intro ac wi eI hold hpre K hK
       obtain ⟨x30, s30, j30⟩ := hpre 3 (by kernel_rfl) 30 rfl
       obtain rfl : x30 = (.slice (some ⟨β k, 0, none⟩) n (κ k)) := j30
       obtain ⟨x31, s31, j31⟩ := hpre 4 (by kernel_rfl) 31 rfl
       obtain rfl : x31 = (.int .i64 (l : Int)) := j31
       clear hold hpre
       go_simp
       exact hK.out _ _ (Ext.refl _) rfl
      ·exact absurd hl (by decide)
     intro vals wz eZ hJ
     have J27 : Mn.p (Mn.eq (.slice (some ⟨h, 0, none⟩) m cap)) (vals 0) wz := hJ 0 (by decide) (by decide)
     have J28 : Mn.p (Mn.eq (.int .i64 (k : Int))) (vals 1) wz := hJ 1 (by decide) (by decide)
     have J29 : Mn.p (Mn.eq (.pointer (some ⟨h, k, none⟩))) (vals 2) wz := hJ 2 (by decide) (by decide)
     have J30 : Mn.p (Mn.eq (.slice (some ⟨β k, 0, none⟩) n (κ k))) (vals 3) wz := hJ 3 (by decide) (by decide)
     have J31 : Mn.p (Mn.eq (.int .i64 (l : Int))) (vals 4) wz := hJ 4 (by decide) (by decide)
     have J32 : Mn.p (Mn.eq (.slice (some ⟨b, off, none⟩) m c)) (vals 5) wz := hJ 5 (by decide) (by decide)
     have J33 : Mn.p (Mn.eq (.int .i64 (k : Int))) (vals 6) wz := hJ 6 (by decide) (by decide)
     have J34 : Mn.p (Mn.eq (.pointer (some ⟨b, off + k, none⟩))) (vals 7) wz := hJ 7 (by decide) (by decide)
     have J35 : Mn.p (Mn.eq (.slice (some ⟨b2, off2, none⟩) n c2)) (vals 8) wz := hJ 8 (by decide) (by decide)
     have J36 : Mn.p (Mn.eq (.int .i64 (l : Int))) (vals 9) wz := hJ 9 (by decide) (by decide)
     have J37 : Mn.p (Mn.eq (.pointer (some ⟨b2, off2 + l * 4, none⟩))) (vals 10) wz := hJ 10 (by decide) (by decide)
     have J38 : Mn.p (Mn.rat N (X k l)) (vals 11) wz := hJ 11 (by decide) (by decide)
     have J39 : Mn.p (Mn.rat N kq) (vals 12) wz := hJ 12 (by decide) (by decide)
     have J40 : Mn.p (Mn.eq (.slice (some ⟨b', off', none⟩) m c0)) (vals 13) wz := hJ 13 (by decide) (by decide)
     have J41 : Mn.p (Mn.eq (.int .i64 (k : Int))) (vals 14) wz := hJ 14 (by decide) (by decide)
     have J42 : Mn.p (Mn.eq (.pointer (some ⟨b', off' + k, none⟩))) (vals 15) wz := hJ 15 (by decide) (by decide)
     have J43 : Mn.p (Mn.eq (.slice (some ⟨b7, off7, none⟩) n c7)) (vals 16) wz := hJ 16 (by decide) (by decide)
     have J44 : Mn.p (Mn.eq (.int .i64 (l : Int))) (vals 17) wz := hJ 17 (by decide) (by decide)
     have J45 : Mn.p (Mn.eq (.pointer (some ⟨b7, off7 + l * 4, none⟩))) (vals 18) wz := hJ 18 (by decide) (by decide)
     have J46 : Mn.p (Mn.rat N (Y k l)) (vals 19) wz := hJ 19 (by decide) (by decide)
     have J47 : Mn.p (Mn.rat N (kq * Y k l)) (vals 20) wz := hJ 20 (by decide) (by decide)
     have J48 : Mn.p (Mn.rat N (Z k l)) (vals 21) wz := hJ 21 (by decide) (by decide)
     have J49 : Mn.p (Mn.eq (.pointer (some ⟨β k, l * 4, none⟩))) (vals 22) wz := hJ 22 (by decide) (by decide)
     clear hJ
     simp only [putAll, if_true, Bool.false_eq_true, if_false, Act.put, Nat.zero_add, Nat.reduceAdd, List.setIfInBounds_toArray, List.set_cons_zero, List.set_cons_succ]
     generalize vals 0 = z27 at J27 ⊢
     obtain rfl : z27 = (.slice (some ⟨h, 0, none⟩) m cap) := J27
     generalize vals 1 = z28 at J28 ⊢
     obtain rfl : z28 = (.int .i64 (k : Int)) := J28
     generalize vals 2 = z29 at J29 ⊢
     obtain rfl : z29 = (.pointer (some ⟨h, k, none⟩)) := J29
     generalize vals 3 = z30 at J30 ⊢
     obtain rfl : z30 = (.slice (some ⟨β k, 0, none⟩) n (κ k)) := J30
     generalize vals 4 = z31 at J31 ⊢
     obtain rfl : z31 = (.int .i64 (l : Int)) := J31
     generalize vals 5 = z32 at J32 ⊢
     obtain rfl : z32 = (.slice (some ⟨b, off, none⟩) m c) := J32
     generalize vals 6 = z33 at J33 ⊢
     obtain rfl : z33 = (.int .i64 (k : Int)) := J33
     generalize vals 7 = z34 at J34 ⊢
     obtain rfl : z34 = (.pointer (some ⟨b, off + k, none⟩)) := J34
     generalize vals 8 = z35 at J35 ⊢
     obtain rfl : z35 = (.slice (some ⟨b2, off2, none⟩) n c2) := J35
     generalize vals 9 = z36 at J36 ⊢
     obtain rfl : z36 = (.int .i64 (l : Int)) := J36
     generalize vals 10 = z37 at J37 ⊢
     obtain rfl : z37 = (.pointer (some ⟨b2, off2 + l * 4, none⟩)) := J37
     generalize vals 11 = z38 at J38 ⊢
     generalize vals 12 = z39 at J39 ⊢
     generalize vals 13 = z40 at J40 ⊢
     obtain rfl : z40 = (.slice (some ⟨b', off', none⟩) m c0) := J40
     generalize vals 14 = z41 at J41 ⊢
     obtain rfl : z41 = (.int .i64 (k : Int)) := J41
     generalize vals 15 = z42 at J42 ⊢
     obtain rfl : z42 = (.pointer (some ⟨b', off' + k, none⟩)) := J42
     generalize vals 16 = z43 at J43 ⊢
     obtain rfl : z43 = (.slice (some ⟨b7, off7, none⟩) n c7) := J43
     generalize vals 17 = z44 at J44 ⊢
     obtain rfl : z44 = (.int .i64 (l : Int)) := J44
     generalize vals 18 = z45 at J45 ⊢
     obtain rfl : z45 = (.pointer (some ⟨b7, off7 + l * 4, none⟩)) := J45
     generalize vals 19 = z46 at J46 ⊢
     generalize vals 20 = z47 at J47 ⊢
     generalize vals 21 = z48 at J48 ⊢
     generalize vals 22 = z49 at J49 ⊢
     obtain rfl : z49 = (.pointer (some ⟨β k, l * 4, none⟩)) := J49
     obtain ⟨bz, Az, kz, cz, Az', kz', cz', rfl, hbz, gz1, gz2⟩ := RatV.parts J48
     have ho2 := ho.ext eZ
     obtain ⟨zb, zA, zn, zc, zA2, zn2, zc2, t0, t1, t2, t3, t4, t5, t6, t7⟩ : ∃ z0 z1 z2 z3 : Value, ∃ y0 y1 y2 : Nat, wz.cell? ⟨β k, l * 4, none⟩ = some z0 ∧ wz.cell? ⟨β k, l * 4 + 1, none⟩ = some z1 ∧ wz.cell? ⟨β k, l * 4 + 2, none⟩ = some z2 ∧ wz.cell? ⟨β k, l * 4 + 3, none⟩ = some z3 ∧ wz.frozen? ⟨β k, l * 4, none⟩ = false ∧ wz.frozen? ⟨β k, l * 4 + 1, none⟩ = false ∧ wz.frozen? ⟨β k, l * 4 + 2, none⟩ = false ∧ wz.frozen? ⟨β k, l * 4 + 3, none⟩ = false := by
      obtain ⟨zb, zA, zn, zc, zA2, zn2, zc2, t0, t1, t2, t3, t4, t5, t6, t7, -⟩ := (ho2.row k hlt).at_ hlt'
      exact ⟨_, _, _, _, 0, 0, 0, t0, t1, t2, t3, t4, t5, t6, t7⟩
     refine stepL_late (i := 23) rfl (by kernel_rfl) (by kernel_rfl) (fun K hK => ?_)
     go_simp
     refine hK.out _ _ ?_
     clear hK K
     try simp only [nr]
     refine stepL_done (by kernel_rfl) ?_ _
     have hcn : l < κ k := by have := (ho2.row k hlt).2.1; omega
     obtain ⟨w6, E6, C6, hs6, hr6⟩ := (ho2.row k hlt).set (i := l) (q := Z k l) hcn (by omega) hbz gz1 gz2
     rw [E6]
     clear E6
     have ho6 := ho2.setRow hlt C6 (hr6.less (n' := n) (by omega))
     have hC6 := (hC.trans (eZ.chg _ _)).trans (C6.wide (ho2.lo_ k hlt) (ho2.hi_ k hlt))
     clear hC ho ho2 hr6 C6 eZ t0 t1 t2 t3 t4 t5 t6 t7 o0 q0 q1 p0 p1 p2 p3 d0 d1 d2 d3 r0 r1 r2 r3
     go_wp2
     go_roundw
     case rel => exact ⟨l + 1, by omega, by go_num, hC6, _, ho6, fun i hi j hj => (by
       rw [updM_ne _ _ (by omega)]; exact HB.out i hi j hj), all_succ (fun j hj => (by rw [updM_same, upd_ne _ _ (by omega)]; exact HC.out j hj)) (by rw [updM_same, upd_same])⟩
     case measure => simp [intOf]; omega
    ·obtain rfl : l = n := by omega
     clear hl2
     go_wp2
     go_roundw
     case rel => exact ⟨k + 1, by omega, by go_num, hC, B, ho, all_succ HB.out HC.out⟩
     case measure => simp [intOf]; omega
  ·obtain rfl : k = m := by omega
   go_wp2
   go_ret
   exact ⟨h, cap, β, κ, rfl, hcap, (ho.congr (fun i hi j hj => HB.out i hi j hj)).wide hwl hN ho.his (Nat.le_refl _), hC.ext hE1 hwl⟩
end Go.Proofs.YtghpfnhmlpfgcaaGreat
namespace Go.Proofs.YtghpfnhmlpfgcaaGreat
open Go.RowKit
def scB (Z : Lin) (m : Nat) (L : Nat → Nat) (A : Nat → Nat → Raw) : Bool :=
 fewB Z && (fewB (fewMt m L A) && (decide (codeOf Z = 0) && (chk5 m L A && (decide (m = L 0) && (decide (m = Z.L 0) && ivB m (fun i j => ratOf (A i j)))))))
set_option maxRecDepth 100000 in
set_option maxHeartbeats 8000000 in
theorem sc_early {N lo hi lo' hi' : Nat} {w : World} {v u : Value} {Z : Lin} {m : Nat} {L : Nat → Nat} {A : Nat → Nat → Raw} {sc : Nat} (h : LinV N lo hi w v Z) (ht : MtR N lo' hi' w u m L A) (hsc : sc < 256) (hb : scB Z m L A = false) :
  Calls Tryz.prog 5 #[v, u, .int .u8 (sc : Int)] w (RetV w (.bool true)) := by
 have hI := h
 have hT := ht
 obtain ⟨A1, c1, A2, c2, A3, c3, rfl, h1, -⟩ := h.parts
 obtain ⟨A4, c4, rfl, hm4, hc4⟩ := ht.form
 unfold maxLen at hc4
 have HBB := Lib.hid hb
 unfold scB at HBB
 obtain ⟨f1, hf1⟩ := hid_eq (fewB Z)
 obtain ⟨f2, hf2⟩ := hid_eq (fewB (fewMt m L A))
 obtain ⟨f4, hf4⟩ := hid_eq (chk5 m L A)
 obtain ⟨r, hr⟩ := hid_eq (codeOf Z)
 rw [← hf1.out, ← hf2.out, ← hf4.out, ← hr.out] at HBB
 clear h hb ht
 go_enter Tryz.func5, Tryz.ntmps5
 go_wp2_with (go_at_call 9; refine Hid.out ?_)
 refine boxesC1 ?_
 intro W hE hsz B0
 refine (l37_known W).mono ?_
 rintro e w1 ⟨rfl, e1⟩
 replace hE := hE.trans e1
 replace B0 := e1.block B0
 have hs1 := e1.size
 replace hsz : w.heap.size < w1.heap.size := by omega
 clear e1 hs1
 obtain ⟨a0, a1, a2, -⟩ := cells3 B0
 go_wp2_with (go_at_call 10; refine Hid.out ?_)
 refine (l37_few (hI.ext hE)).mono ?_
 rintro e w2 ⟨rfl, e2⟩
 rw [← hf1.out]
 replace hE := hE.trans e2
 replace B0 := e2.block B0
 replace hsz := blk_lt B0
 clear a0 a1 a2
 obtain ⟨a0, a1, a2, -⟩ := cells3 B0
 clear e2
 cases f1 with
 | false =>
  go_wp2
  go_ret
  exact ⟨rfl, hE⟩
 | true =>
 go_wp2_with (go_at_call 10; refine Hid.out ?_)
 refine (l37_few (linV_mt (hT.ext hE))).mono ?_
 rintro e w3 ⟨rfl, e3⟩
 rw [← hf2.out]
 replace hE := hE.trans e3
 replace B0 := e3.block B0
 replace hsz := blk_lt B0
 clear a0 a1 a2
 obtain ⟨a0, a1, a2, -⟩ := cells3 B0
 clear e3
 cases f2 with
 | false =>
  go_wp2
  go_ret
  exact ⟨rfl, hE⟩
 | true =>
 obtain ⟨g1, g2, g3⟩ := few_sz hf1.out.symm
 have HF1 := Lib.hid g1
 have HF2 := Lib.hid g2
 have HF3 := Lib.hid g3
 clear g1 g2 g3
 go_wp2_with (go_at_call 14; refine Hid.out ?_)
 refine (l37_code (hI.ext hE) HF2.out HF3.out HF1.out).mono ?_
 rintro e w4 ⟨rfl, e4⟩
 rw [← hr.out]
 replace hE := hE.trans e4
 replace B0 := e4.block B0
 replace hsz := blk_lt B0
 clear a0 a1 a2
 obtain ⟨a0, a1, a2, -⟩ := cells3 B0
 clear e4
 by_cases hr0 : r = 0
 case neg =>
  have hrb : (r != 0) = true := by simpa using hr0
  go_wp2
  go_ret
  exact ⟨rfl, hE⟩
 case pos =>
 have HF := few_lin hf1.out.symm (by rw [← hr.out]; exact hr0)
 subst hr0
 have HRW := Lib.hid (few_raw hf2.out.symm)
 have HFL := Lib.hid HF
 clear HF
 go_wp2_with (go_at_call 32; refine Hid.out ?_)
 refine (r5_check (hT.ext hE) HRW.out).mono ?_
 rintro e w5 ⟨rfl, e5⟩
 rw [← hf4.out]
 replace hE := hE.trans e5
 replace B0 := e5.block B0
 replace hsz := blk_lt B0
 clear a0 a1 a2
 obtain ⟨a0, a1, a2, -⟩ := cells3 B0
 clear e5
 cases f4 with
 | false =>
  have hck : (chkI false != 0) = true := by decide
  go_wp2
  go_ret
  exact ⟨rfl, hE⟩
 | true =>
 have hck : chkI true = 0 := rfl
 rw [hck]
 clear hck
 have hfm := few_mat hf2.out.symm hf4.out.symm
 have HFM := Lib.hid hfm
 have hm0 := hfm.1
 clear hfm
 go_wp2_with (go_at_call 33; refine Hid.out ?_)
 refine (r5_square (hT.ext hE) hm0).mono ?_
 rintro e w6 ⟨rfl, e6⟩
 obtain ⟨f5, hf5⟩ := hid_eq (decide (m = L 0))
 rw [← hf5.out] at HBB ⊢
 replace hE := hE.trans e6
 replace B0 := e6.block B0
 replace hsz := blk_lt B0
 clear a0 a1 a2
 obtain ⟨a0, a1, a2, -⟩ := cells3 B0
 clear e6
 cases f5 with
 | false =>
  go_wp2
  go_ret
  exact ⟨rfl, hE⟩
 | true =>
 obtain ⟨b, off, rfl, -, -, hx⟩ := (h1.ext hE).addr HFL.out.m0
 obtain ⟨Ab, cb, p0, -, hcb, -⟩ := hx 0 HFL.out.m0
 rw [Nat.add_zero] at p0
 have hZm := HFL.out.m0
 unfold maxLen at hcb
 obtain ⟨zl, hzl⟩ := hid_eq (Z.L 0)
 rw [← hzl.out] at p0 HBB
 clear hx
 by_cases hml : m = zl
 case neg =>
  have hmb : ((m : Int) != (zl : Int)) = true := by rw [bne_iff_ne]; omega
  clear hml
  go_wp2
  go_ret
  exact ⟨rfl, hE⟩
 case pos =>
 have HTT : Hid (MtV N lo' hi' w (.slice A4 m c4) m m (fun i j => ratOf (A i j))) := by
  rw [Hid]
  have h9 := MtR.congr (L' := fun _ => m) hT (fun i hi => by rw [HFM.out.2.2.2.2.1 i hi]; exact (of_decide_eq_true hf5.out.symm).symm) (R' := fun i j => raw (ratOf (A i j))) (fun i hi j hj => HFM.out.2.2.2.2.2.1 i hi j (by rw [← HFM.out.2.2.2.2.1 i hi]; exact hj))
  exact h9
 have HTH : Hid (HtM m m 17 (fun i j => ratOf (A i j))) := by
  have h9 := HFM.out.2.2.2.2.2.2
  rw [← of_decide_eq_true hf5.out.symm] at h9
  exact h9
 have hm6 : m ≤ 6 := HFM.out.2.1
 have HIV : Hid (ivB m (fun i j => ratOf (A i j)) = false) := by
  have h9 := HBB.out
  rw [decide_eq_true hml] at h9
  rw [Hid]
  simpa using h9
 have hmz : ((m : Int) != (zl : Int)) = false := by rw [hml]; simp
 clear hml
 go_wp2_with (go_at_call 34; refine Hid.out ?_)
 refine (r5_inverse (q := 17) (HTT.out.ext hE) hm0 (by omega) HTH.out (by
  have h9 : 5 ^ m ≤ 5 ^ 6 := Nat.pow_le_pow_right (by omega) hm6
  have h8 : (5 : Nat) ^ 6 = 15625 := by decide
  omega)).mono ?_
 rintro e w7 ⟨e7, hh⟩
 rcases hh with ⟨-, rfl⟩ | ⟨hk, -⟩
 ·replace hE := hE.trans e7
  go_wp2
  go_ret
  exact ⟨rfl, hE⟩
 ·rw [HIV.out] at hk; cases hk
end Go.Proofs.YtghpfnhmlpfgcaaGreat
namespace Go.Proofs.YtghpfnhmlpfgcaaGreat
open Go.RowKit
def Mn.one (N : Nat) (q : Rat) : Mn := ⟨fun v w => ∃ b, v = .slice (some ⟨b, 0, none⟩) 1 1 ∧ BoxR N w b q, fun e h => by
  obtain ⟨b, h0, h1⟩ := h
  exact ⟨b, h0, h1.ext e⟩⟩
set_option maxRecDepth 100000 in
set_option maxHeartbeats 8000000 in
theorem sc_good {N lo hi lo' hi' : Nat} {w : World} {A1 A2 A3 A4 : Option Addr} {c1 c2 c3 c4 m n : Nat} {X T : Nat → Nat → Rat} {y p : Nat → Rat} {Z : Lin} {L : Nat → Nat} {A : Nat → Nat → Raw} {sc : Nat}
  (hI : LinV N lo hi w (.agg #[.slice A1 m c1, .slice A2 m c2, .slice A3 m c3]) Z) (hs : fewB Z = true) (hc : codeOf Z = 0)
  (h1 : MtV N lo hi w (.slice A1 m c1) m n X) (h2 : LsV N lo hi w (.slice A2 m c2) m y) (h3 : LsV N lo hi w (.slice A3 m c3) m p) (hm0 : 0 < m) (hm : m ≤ 6) (hn0 : 0 < n) (hn : n ≤ 4) (hpos : ∀ i, i < m → 0 < p i)
  (hkx : HtM m n 17 X) (hky : HtL m 17 y) (hkp : HtL m 17 p)
  (ht : MtR N lo' hi' w (.slice A4 n c4) n L A) (hs2 : fewB (fewMt n L A) = true) (hck : chk5 n L A = true) (hL0 : n = L 0) (hT : MtV N lo' hi' w (.slice A4 n c4) n n T) (hkT : HtM n n 17 T) (hiv : ivB n T = true) (hsc : sc < 256) :
  Calls Tryz.prog 5 #[.agg #[.slice A1 m c1, .slice A2 m c2, .slice A3 m c3], .slice A4 n c4, .int .u8 (sc : Int)] w (RetV w (.bool true)) := by
 obtain ⟨f1, f2, f3⟩ := few_sz hs
 have HS := Lib.hid hs
 have HC := Lib.hid hc
 have HF2 := Lib.hid f2
 have HF3 := Lib.hid f3
 have HF1 := Lib.hid f1
 have HS2 := Lib.hid hs2
 have HRW := Lib.hid (few_raw hs2)
 have HCK := Lib.hid hck
 have HL0 : Hid (decide (n = L 0) = true) := decide_eq_true hL0
 have HX := Lib.hid hkx
 have HY := Lib.hid hky
 have HP := Lib.hid hkp
 have HT := Lib.hid hkT
 have HIV := Lib.hid hiv
 have HPOS := Lib.hid hpos
 have hN := h1.le
 have hcm4 : c4 ≤ 9223372036854775807 := by obtain ⟨_, _, e9, -, h9⟩ := hT.form; injection e9 with _ _ e9; subst e9; unfold maxLen at h9; exact h9
 have hcm1 : c1 ≤ 9223372036854775807 := by obtain ⟨_, _, e9, -, h9⟩ := h1.form; injection e9 with _ _ e9; subst e9; unfold maxLen at h9; exact h9
 obtain ⟨b, off, rfl, -, -, hx⟩ := h1.addr hm0
 obtain ⟨Ab, cb, pp0, -, hcb, -⟩ := hx 0 hm0
 rw [Nat.add_zero] at pp0
 unfold maxLen at hcb
 clear hx hs hc f1 f2 f3 hs2 hck hL0 hkx hky hkp hkT hiv hpos
 go_enter Tryz.func5, Tryz.ntmps5
 go_wp2_with (go_at_call 9; refine Hid.out ?_)
 refine boxesC1 ?_
 intro W hE hsz B0
 refine (l37_known W).mono ?_
 rintro e w1 ⟨rfl, e1⟩
 replace hE := hE.trans e1
 replace B0 := e1.block B0
 have hs1 := e1.size
 replace hsz : w.heap.size < w1.heap.size := by omega
 clear e1 hs1
 obtain ⟨a0, a1, a2, -⟩ := cells3 B0
 go_wp2_with (go_at_call 10; refine Hid.out ?_)
 refine (l37_few (hI.ext hE)).mono ?_
 rintro e w2 ⟨rfl, e2⟩
 rw [HS.out]
 replace hE := hE.trans e2
 replace B0 := e2.block B0
 replace hsz := blk_lt B0
 clear a0 a1 a2
 obtain ⟨a0, a1, a2, -⟩ := cells3 B0
 clear e2
 go_wp2_with (go_at_call 10; refine Hid.out ?_)
 refine (l37_few (linV_mt (ht.ext hE))).mono ?_
 rintro e w3 ⟨rfl, e3⟩
 rw [HS2.out]
 replace hE := hE.trans e3
 replace B0 := e3.block B0
 replace hsz := blk_lt B0
 clear a0 a1 a2
 obtain ⟨a0, a1, a2, -⟩ := cells3 B0
 clear e3
 go_wp2_with (go_at_call 14; refine Hid.out ?_)
 refine (l37_code (hI.ext hE) HF2.out HF3.out HF1.out).mono ?_
 rintro e w4 ⟨rfl, e4⟩
 rw [HC.out]
 replace hE := hE.trans e4
 replace B0 := e4.block B0
 replace hsz := blk_lt B0
 clear a0 a1 a2
 obtain ⟨a0, a1, a2, -⟩ := cells3 B0
 clear e4
 go_wp2_with (go_at_call 32; refine Hid.out ?_)
 refine (r5_check (ht.ext hE) HRW.out).mono ?_
 rintro e w5 ⟨rfl, e5⟩
 rw [HCK.out, show chkI true = 0 from rfl]
 replace hE := hE.trans e5
 replace B0 := e5.block B0
 replace hsz := blk_lt B0
 clear a0 a1 a2
 obtain ⟨a0, a1, a2, -⟩ := cells3 B0
 clear e5
 go_wp2_with (go_at_call 33; refine Hid.out ?_)
 refine (r5_square (ht.ext hE) hn0).mono ?_
 rintro e w6 ⟨rfl, e6⟩
 rw [HL0.out]
 replace hE := hE.trans e6
 replace B0 := e6.block B0
 replace hsz := blk_lt B0
 clear a0 a1 a2
 obtain ⟨a0, a1, a2, -⟩ := cells3 B0
 clear e6
 have p0 := hE.cell pp0
 have hnn : ((n : Int) != (n : Int)) = false := by simp
 go_wp2_with (go_at_call 34; refine Hid.out ?_)
 refine (r5_inverse (q := 17) (hT.ext hE) hn0 (by omega) HT.out (by
  have h9 : 5 ^ n ≤ 5 ^ 6 := Nat.pow_le_pow_right (by omega) (by omega)
  have h8 : (5 : Nat) ^ 6 = 15625 := by decide
  omega)).mono ?_
 rintro e w7 ⟨e7, hh⟩
 rcases hh with ⟨hk, -⟩ | ⟨-, A5, c5, rfl, -⟩
 ·rw [HIV.out] at hk; cases hk
 replace hE := hE.trans e7
 replace B0 := e7.block B0
 replace hsz := blk_lt B0
 clear a0 a1 a2
 obtain ⟨a0, a1, a2, -⟩ := cells3 B0
 clear e7 p0 hnn
 have hN7 : N ≤ w7.heap.size := by have := hE.size; omega
 go_wp2_with (go_at_call 24; refine Hid.out ?_)
 refine (r2_Whole (N := N) hN7 (1 + (sc : Int)) (by omega) (by omega)).mono ?_
 obtain ⟨sI, hsI⟩ := hid_eq (1 + (sc : Int))
 rw [← hsI.out]
 have hs0 : 1 ≤ sI := by rw [hsI.out]; omega
 have hs1 : sI ≤ 256 := by rw [hsI.out]; omega
 intro e w8 hh
 obtain ⟨b8, A8, k8, c8, A9, k9, c9, rfl, hb8, g8, g9, e8⟩ := hh.form
 replace hE := hE.trans e8
 replace B0 := e8.block B0
 replace hsz := blk_lt B0
 clear a0 a1 a2
 obtain ⟨a0, a1, a2, -⟩ := cells3 B0
 clear hh e8
 go_upto_region 9 with (fail)
 refine boxes1 ?_
 intro w9 e9 hsz9 B9
 replace hE := hE.trans e9
 replace B0 := e9.block B0
 replace hsz := blk_lt B0
 clear a0 a1 a2
 obtain ⟨a0, a1, a2, -⟩ := cells3 B0
 have hBK : BoxR N w9 w8.heap.size (sI : Rat) := BoxR.mk B9 hb8 (g8.ext e9) (g9.ext e9)
 obtain ⟨gK, hgK⟩ : ∃ gK, gK = w8.heap.size := ⟨_, rfl⟩
 rw [← hgK] at hBK ⊢
 clear hgK B9 e9 g8 g9 hb8 hsz9
 obtain ⟨XT, hXT⟩ := hid_eq (mm n X T)
 have HXT : Hid (HtM m n 150 XT) := by
  rw [Hid, hXT.out]
  exact (mm_ht (ka := 17) (kb := 17) HX.out HT.out).mono (by omega)
 obtain ⟨a0, a1, a2, -⟩ := cells3 B0
 refine region_inv [Mn.eq (.pointer (some ⟨w.heap.size, 0, none⟩)), Mn.eq (.slice (some ⟨b, off, none⟩) m c1), Mn.eq (.slice A4 n c4), Mn.mt N m n XT, Mn.eq (.pointer (some ⟨w.heap.size, 1, none⟩)), Mn.eq (.slice A2 m c2), Mn.eq (.pointer (some ⟨w.heap.size, 2, none⟩)), Mn.eq (.slice A3 m c3), Mn.lin N m n XT y p, Mn.blk w9.heap.size (.cells #[.slice none 0 0, .slice none 0 0, .slice none 0 0] 26 (0, 0)), Mn.any] [some 69, some 70, some 71, some 72, some 73, some 74, some 75, some 76, some 77, some 10, none] [10] [true, true, true, true, true, true, true, true, true, true, false] 1 (by kernel_rfl) (by kernel_rfl) (by kernel_rfl) (by kernel_rfl) (by kernel_rfl) (by kernel_rfl) (by kernel_rfl) (by kernel_rfl) ?_ ?_
 ·intro i hi hl
  have hi' : i = 0 ∨ i = 1 ∨ i = 2 ∨ i = 3 ∨ i = 4 ∨ i = 5 ∨ i = 6 ∨ i = 7 ∨ i = 8 ∨ i = 9 ∨ i = 10 := by have h9 : i < 11 := hi; omega
  clear hi
  rcases hi' with rfl | rfl | rfl | rfl | rfl | rfl | rfl | rfl | rfl | rfl | rfl
  ·clear hl
   refine stp rfl ?_
   intro ac wi eI hold hpre K hK
   have o3 := hold 3 (by kernel_rfl)
   simp only [List.getElem?_toArray, List.getElem?_cons_succ, List.getElem?_cons_zero] at o3
   clear hold hpre
   go_simp
   exact hK.out _ _ (Ext.refl _) rfl
  ·clear hl
   refine stp rfl ?_
   intro ac wi eI hold hpre K hK
   obtain ⟨x69, s69, j69⟩ := hpre 0 (by kernel_rfl) 69 rfl
   obtain rfl : x69 = (.pointer (some ⟨w.heap.size, 0, none⟩)) := j69
   clear hold hpre
   have cc0 := eI.cell a0
   have cc1 := eI.cell a1
   have cc2 := eI.cell a2
   go_simp
   exact hK.out _ _ (Ext.refl _) rfl
  ·clear hl
   refine stp rfl ?_
   intro ac wi eI hold hpre K hK
   have o1 := hold 1 (by kernel_rfl)
   simp only [List.getElem?_toArray, List.getElem?_cons_succ, List.getElem?_cons_zero] at o1
   clear hold hpre
   go_simp
   exact hK.out _ _ (Ext.refl _) rfl
  ·clear hl
   refine stp rfl ?_
   intro ac wi eI hold hpre K hK
   obtain ⟨x70, s70, j70⟩ := hpre 1 (by kernel_rfl) 70 rfl
   obtain rfl : x70 = (.slice (some ⟨b, off, none⟩) m c1) := j70
   obtain ⟨x71, s71, j71⟩ := hpre 2 (by kernel_rfl) 71 rfl
   obtain rfl : x71 = (.slice A4 n c4) := j71
   clear hold hpre
   go_simp
   refine (r5_mul (h1.ext (hE.trans eI)) (hT.ext (hE.trans eI)) (by omega) hn0 (by omega) hn0 (by omega) HX.out HT.out (by omega)).mono ?_
   intro e wj hh
   obtain ⟨Aj, cj, rfl, hj, ej⟩ := hh.mt
   go_wp2_with fail
   rw [← hXT.out] at hj
   exact hK.out _ _ ej (MtR.wide hj (Nat.zero_le _) (Nat.le_refl _) (Nat.le_refl _))
  ·clear hl
   refine stp rfl ?_
   intro ac wi eI hold hpre K hK
   have o3 := hold 3 (by kernel_rfl)
   simp only [List.getElem?_toArray, List.getElem?_cons_succ, List.getElem?_cons_zero] at o3
   clear hold hpre
   go_simp
   exact hK.out _ _ (Ext.refl _) rfl
  ·clear hl
   refine stp rfl ?_
   intro ac wi eI hold hpre K hK
   obtain ⟨x73, s73, j73⟩ := hpre 4 (by kernel_rfl) 73 rfl
   obtain rfl : x73 = (.pointer (some ⟨w.heap.size, 1, none⟩)) := j73
   clear hold hpre
   have cc0 := eI.cell a0
   have cc1 := eI.cell a1
   have cc2 := eI.cell a2
   go_simp
   exact hK.out _ _ (Ext.refl _) rfl
  ·clear hl
   refine stp rfl ?_
   intro ac wi eI hold hpre K hK
   have o3 := hold 3 (by kernel_rfl)
   simp only [List.getElem?_toArray, List.getElem?_cons_succ, List.getElem?_cons_zero] at o3
   clear hold hpre
   go_simp
   exact hK.out _ _ (Ext.refl _) rfl
  ·clear hl
   refine stp rfl ?_
   intro ac wi eI hold hpre K hK
   obtain ⟨x75, s75, j75⟩ := hpre 6 (by kernel_rfl) 75 rfl
   obtain rfl : x75 = (.pointer (some ⟨w.heap.size, 2, none⟩)) := j75
   clear hold hpre
   have cc0 := eI.cell a0
   have cc1 := eI.cell a1
   have cc2 := eI.cell a2
   go_simp
   exact hK.out _ _ (Ext.refl _) rfl
  ·clear hl
   refine stp rfl ?_
   intro ac wi eI hold hpre K hK
   obtain ⟨x72, s72, j72⟩ := hpre 3 (by kernel_rfl) 72 rfl
   replace j72 : Mn.p (Mn.mt N m n XT) x72 wi := j72
   obtain ⟨x74, s74, j74⟩ := hpre 5 (by kernel_rfl) 74 rfl
   obtain rfl : x74 = (.slice A2 m c2) := j74
   obtain ⟨x76, s76, j76⟩ := hpre 7 (by kernel_rfl) 76 rfl
   obtain rfl : x76 = (.slice A3 m c3) := j76
   clear hold hpre
   obtain ⟨Q1, l1, rfl, -⟩ := MtV.form j72
   have q2 := (h2.ext (hE.trans eI))
   have q3 := (h3.ext (hE.trans eI))
   go_simp
   exact hK.out _ _ (Ext.refl _) ⟨_, _, _, rfl, j72, LsR.wide q2 (Nat.zero_le _) q2.2.1 (Nat.le_refl _), LsR.wide q3 (Nat.zero_le _) q3.2.1 (Nat.le_refl _)⟩
  ·clear hl
   refine stp rfl ?_
   intro ac wi eI hold hpre K hK
   clear hold hpre
   go_simp
   refine boxes1 ?_
   intro wj ej hszj BJ
   exact hK.out _ _ ej ⟨_, rfl, eI.size, BJ⟩
  ·exact absurd hl (by decide)
 intro vals wz eZ hJ
 have J69 : Mn.p (Mn.eq (.pointer (some ⟨w.heap.size, 0, none⟩))) (vals 0) wz := hJ 0 (by decide) (by decide)
 have J70 : Mn.p (Mn.eq (.slice (some ⟨b, off, none⟩) m c1)) (vals 1) wz := hJ 1 (by decide) (by decide)
 have J71 : Mn.p (Mn.eq (.slice A4 n c4)) (vals 2) wz := hJ 2 (by decide) (by decide)
 have J72 : Mn.p (Mn.mt N m n XT) (vals 3) wz := hJ 3 (by decide) (by decide)
 have J73 : Mn.p (Mn.eq (.pointer (some ⟨w.heap.size, 1, none⟩))) (vals 4) wz := hJ 4 (by decide) (by decide)
 have J74 : Mn.p (Mn.eq (.slice A2 m c2)) (vals 5) wz := hJ 5 (by decide) (by decide)
 have J75 : Mn.p (Mn.eq (.pointer (some ⟨w.heap.size, 2, none⟩))) (vals 6) wz := hJ 6 (by decide) (by decide)
 have J76 : Mn.p (Mn.eq (.slice A3 m c3)) (vals 7) wz := hJ 7 (by decide) (by decide)
 have J77 : Mn.p (Mn.lin N m n XT y p) (vals 8) wz := hJ 8 (by decide) (by decide)
 have J10 : Mn.p (Mn.blk w9.heap.size (.cells #[.slice none 0 0, .slice none 0 0, .slice none 0 0] 26 (0, 0))) (vals 9) wz := hJ 9 (by decide) (by decide)
 clear hJ
 simp only [putAll, if_true, Bool.false_eq_true, if_false, Act.put, Nat.zero_add, Nat.reduceAdd, List.setIfInBounds_toArray, List.set_cons_zero, List.set_cons_succ]
 generalize vals 0 = z69 at J69 ⊢
 obtain rfl : z69 = (.pointer (some ⟨w.heap.size, 0, none⟩)) := J69
 generalize vals 1 = z70 at J70 ⊢
 obtain rfl : z70 = (.slice (some ⟨b, off, none⟩) m c1) := J70
 generalize vals 2 = z71 at J71 ⊢
 obtain rfl : z71 = (.slice A4 n c4) := J71
 generalize vals 3 = z72 at J72 ⊢
 generalize vals 4 = z73 at J73 ⊢
 obtain rfl : z73 = (.pointer (some ⟨w.heap.size, 1, none⟩)) := J73
 generalize vals 5 = z74 at J74 ⊢
 obtain rfl : z74 = (.slice A2 m c2) := J74
 generalize vals 6 = z75 at J75 ⊢
 obtain rfl : z75 = (.pointer (some ⟨w.heap.size, 2, none⟩)) := J75
 generalize vals 7 = z76 at J76 ⊢
 obtain rfl : z76 = (.slice A3 m c3) := J76
 generalize vals 8 = z77 at J77 ⊢
 generalize vals 9 = z10 at J10 ⊢
 obtain ⟨g, rfl, hg, BG⟩ := J10
 obtain ⟨v1, v2, v3, rfl, m1, l2, l3⟩ := J77
 obtain ⟨Q1, q1, rfl, hq1⟩ := MtV.form m1
 obtain ⟨Q2, q2, rfl, hq2⟩ := LsV.form l2
 obtain ⟨Q3, q3, rfl, hq3⟩ := LsV.form l3
 obtain ⟨r0, r1, r2, r3, r4, r5⟩ := cells3 BG
 refine stepL_late (i := 10) rfl (by kernel_rfl) (by kernel_rfl) (fun K hK => ?_)
 go_simp
 refine hK.out _ _ ?_
 clear hK K
 try simp only [nr]
 refine stepL_done (by kernel_rfl) ?_ _
 clear r0 r1 r2 r3 r4 r5 a0 a1 a2
 clear J72
 have hEz := hE.trans eZ
 have hsz9 := hE.size
 have hNg : N ≤ g := by omega
 have hwg : w.heap.size < g := by omega
 have hgKl : gK < w9.heap.size := by obtain ⟨_, _, _, _, _, _, _, hq, -⟩ := hBK; exact blk_lt hq
 obtain ⟨w10, E10, D0, U⟩ := ex3 BG (.slice Q1 m q1) (.slice Q2 m q2) (.slice Q3 m q3)
 rw [E10]
 have hT0 := NoU.mk BG (by decide)
 have hcb0 : ∀ o b, wz.cell? ⟨g, o, none⟩ ≠ some (.bool b) := by
  intro o b h
  rw [cell_blk BG] at h
  rcases o with _ | _ | _ | o <;> simp at h
 have hcb2 : ∀ o A k c, 0 < k → wz.cell? ⟨g, o, none⟩ ≠ some (.slice A k c) := by
  intro o A k c hk h
  rw [cell_blk BG] at h
  rcases o with _ | _ | _ | o
  all_goals simp at h
  all_goals (obtain ⟨-, h, -⟩ := h; omega)
 have hE10 : Ext w w10 := U.ext hEz (by omega)
 have B10 := U.blk (eZ.block B0) (by omega)
 have hBK10 := (hBK.ext eZ).chg (U.chg hT0) hNg (.inl (by omega))
 have M1 := MtR.upd0 m1 U hNg hT0 hcb0 hcb2 (fun _ _ => hn0)
 have M2 := LsR.upd0 l2 U hNg hT0 hcb0
 have M3 := LsR.upd0 l3 U hNg hT0 hcb0
 rw [← U.size] at M1 M2 M3
 have hg10 : g < w10.heap.size := blk_lt D0
 clear E10 hcb0 hcb2 m1 l2 l3 BG U eZ B0 hBK hE hEz hT0
 obtain ⟨a0, a1, a2, -⟩ := cells3 B10
 go_upto_region 11 with (fail)
 refine boxes1 ?_
 intro w11 e11 hsz11 B11
 obtain ⟨gn, hgn⟩ : ∃ gn, gn = w10.heap.size := ⟨_, rfl⟩
 rw [← hgn] at B11 hsz11 ⊢
 have hEg : w10.heap.size ≤ gn := by omega
 clear hgn
 have hE11 := hE10.trans e11
 have hBK11 := hBK10.ext e11
 have B10' := e11.block B10
 have hI3 := h3.ext hE11
 have HSK : Hid (Sz (sI : Rat)) := by
  rw [Hid]
  obtain ⟨k, rfl⟩ := Int.eq_ofNat_of_zero_le (show 0 ≤ sI by omega)
  exact (ht_nat k 9 (by omega) (by omega)).sz (by omega)
 obtain ⟨p', hp'⟩ := hid_eq (fun i => (sI : Rat) * p i)
 have HP' : Hid (∀ i, (sI : Rat) * p i = p' i) := fun i => by rw [hp'.out]
 have hgK10 : gK < w10.heap.size := by obtain ⟨_, _, _, _, _, _, _, hq, -⟩ := hBK10; exact blk_lt hq
 obtain ⟨b3, off3, rfl, -, -, -⟩ := h3.addr hm0
 clear a0 a1 a2 hgKl hBK11
 obtain ⟨a0, a1, a2, -⟩ := cells3 B10'
 go_wp2
 clear a0 a1 a2
 go_loopw [86, 13] (fun i _ wr => ∃ k : Nat, k ≤ m ∧ i = .int .i64 k ∧ Ext w10 wr ∧ ∃ A c, wr.heap[gn]? = some (.cells #[.slice (some ⟨b, off, none⟩) m c1, .slice A2 m c2, .slice A k c] 26 (0, 0)) ∧ Grow N (gn + 1) wr (.slice A k c) k p') (fun i _ _ => m - (intOf i).toNat)
 case atStart => exact ⟨0, Nat.zero_le _, rfl, e11, _, _, B11, Grow.nil (by omega) (by omega) _⟩
 case round =>
  clear B11 e11 hI3 B10'
  obtain ⟨k, hk, rfl, hEr, Ap, cp, BN, hG⟩ := hrel
  have hsr := hEr.size
  by_cases hlt : k < m
  ·clear M1 M2 M3 B10 D0
   obtain ⟨b4, off4, e4, -, -, hx⟩ := (h3.ext (hE10.trans hEr)).addr hm0
   injection e4 with e4
   injection e4 with e4 e5
   subst e4 e5
   obtain ⟨n1, A11, k11, c11, A12, k12, c12, p0, p1, p2, p3, hb1, g1, g2⟩ := (hx k hlt).open
   clear hx
   go_upto_region 14 with (fail)
   refine boxes1 ?_
   intro w12 e12 hsz12 B12
   obtain ⟨gp, hgp⟩ : ∃ gp, gp = wr.heap.size := ⟨_, rfl⟩
   rw [← hgp] at B12 ⊢
   have hEq := hEr.trans e12
   have hRP : RatV N w12 (.agg #[.bool n1, .slice A11 k11 c11, .bool false, .slice A12 k12 c12]) (p k) := RatV.mk hb1 (g1.ext e12) (g2.ext e12)
   replace hG := hG.ext e12
   replace BN := e12.block BN
   obtain ⟨n3, S1, S2, S3, S4, S5, S6, r0, r1, r2, r3, -, -, -, -, hRK, -⟩ := (hBK10.ext hEq).open
   obtain ⟨d0, d1, d2, d3, -⟩ := cells4 B12
   obtain ⟨a0, a1, a2, -⟩ := cells3 BN
   have HKP : Hid ((sI : Rat) * p k = p' k) := HP'.out k
   have HPZ : Hid (Sz (p k)) := (HP.out k hlt).sz (by omega)
   have hcp : cp ≤ 9223372036854775807 := by
    obtain ⟨_, _, e9, -, h9⟩ := (hG.lsv (lo := 0) (Nat.zero_le _) rfl).form
    injection e9 with _ _ e9
    subst e9; unfold maxLen at h9; exact h9
   clear e12 g1 g2 hb1 p0 p1 p2 p3 B12 hgp hsz12
   refine region_inv [Mn.eq (.pointer (some ⟨gn, 2, none⟩)), Mn.eq (.slice Ap k cp), Mn.rat N (sI : Rat), Mn.rat N (p k), Mn.rat N (p' k), Mn.one N (p' k), Mn.any, Mn.any, Mn.any] [some 90, some 91, some 92, some 93, some 94, some 95, some 96, some 97, none] [6, 7, 8] [true, true, true, true, true, true, false, false, false] 3 (by kernel_rfl) (by kernel_rfl) (by kernel_rfl) (by kernel_rfl) (by kernel_rfl) (by kernel_rfl) (by kernel_rfl) (by kernel_rfl) ?_ ?_
   ·intro i hi hl
    have hi' : i = 0 ∨ i = 1 ∨ i = 2 ∨ i = 3 ∨ i = 4 ∨ i = 5 ∨ i = 6 ∨ i = 7 ∨ i = 8 := by have h9 : i < 9 := hi; omega
    clear hi
    rcases hi' with rfl | rfl | rfl | rfl | rfl | rfl | rfl | rfl | rfl
    ·clear hl
     refine stp rfl ?_
     intro ac wi eI hold hpre K hK
     have o11 := hold 11 (by kernel_rfl)
     simp only [List.getElem?_toArray, List.getElem?_cons_succ, List.getElem?_cons_zero] at o11
     clear hold hpre
     go_simp
     exact hK.out _ _ (Ext.refl _) rfl
    ·clear hl
     refine stp rfl ?_
     intro ac wi eI hold hpre K hK
     obtain ⟨x90, s90, j90⟩ := hpre 0 (by kernel_rfl) 90 rfl
     obtain rfl : x90 = (.pointer (some ⟨gn, 2, none⟩)) := j90
     clear hold hpre
     have cc0 := eI.cell a0
     have cc1 := eI.cell a1
     have cc2 := eI.cell a2
     have cc3 := eI.cell r0
     have cc4 := eI.cell r1
     have cc5 := eI.cell r2
     have cc6 := eI.cell r3
     have cc7 := eI.cell d0
     have cc8 := eI.cell d1
     have cc9 := eI.cell d2
     have cc10 := eI.cell d3
     go_simp
     exact hK.out _ _ (Ext.refl _) rfl
    ·clear hl
     refine stp rfl ?_
     intro ac wi eI hold hpre K hK
     have o9 := hold 9 (by kernel_rfl)
     simp only [List.getElem?_toArray, List.getElem?_cons_succ, List.getElem?_cons_zero] at o9
     clear hold hpre
     have cc0 := eI.cell a0
     have cc1 := eI.cell a1
     have cc2 := eI.cell a2
     have cc3 := eI.cell r0
     have cc4 := eI.cell r1
     have cc5 := eI.cell r2
     have cc6 := eI.cell r3
     have cc7 := eI.cell d0
     have cc8 := eI.cell d1
     have cc9 := eI.cell d2
     have cc10 := eI.cell d3
     go_simp
     exact hK.out _ _ (Ext.refl _) (hRK.ext eI)
    ·clear hl
     refine stp rfl ?_
     intro ac wi eI hold hpre K hK
     have o13 := hold 13 (by kernel_rfl)
     simp only [List.getElem?_toArray, List.getElem?_cons_succ, List.getElem?_cons_zero] at o13
     clear hold hpre
     have cc0 := eI.cell a0
     have cc1 := eI.cell a1
     have cc2 := eI.cell a2
     have cc3 := eI.cell r0
     have cc4 := eI.cell r1
     have cc5 := eI.cell r2
     have cc6 := eI.cell r3
     have cc7 := eI.cell d0
     have cc8 := eI.cell d1
     have cc9 := eI.cell d2
     have cc10 := eI.cell d3
     go_simp
     exact hK.out _ _ (Ext.refl _) (hRP.ext eI)
    ·clear hl
     refine stp rfl ?_
     intro ac wi eI hold hpre K hK
     obtain ⟨x92, s92, j92⟩ := hpre 2 (by kernel_rfl) 92 rfl
     replace j92 : Mn.p (Mn.rat N (sI : Rat)) x92 wi := j92
     obtain ⟨x93, s93, j93⟩ := hpre 3 (by kernel_rfl) 93 rfl
     replace j93 : Mn.p (Mn.rat N (p k)) x93 wi := j93
     clear hold hpre
     go_simp
     refine (r2_mul j92 j93 HSK.out HPZ.out).mono ?_
     rw [HKP.out]
     rintro e wj ⟨vj, rfl, hj, ej⟩
     go_wp2_with fail
     exact hK.out _ _ ej hj
    ·clear hl
     refine stp rfl ?_
     intro ac wi eI hold hpre K hK
     obtain ⟨x94, s94, j94⟩ := hpre 4 (by kernel_rfl) 94 rfl
     replace j94 : Mn.p (Mn.rat N (p' k)) x94 wi := j94
     clear hold hpre
     obtain ⟨bz, Az, kz, cz, Az', kz', cz', rfl, hbz, gz1, gz2⟩ := RatV.parts j94
     go_simp
     refine boxes1 ?_
     intro wj ej hszj BJ
     exact hK.out _ _ ej ⟨_, rfl, BoxR.mk BJ hbz (gz1.ext ej) (gz2.ext ej)⟩
    ·exact absurd hl (by decide)
    ·exact absurd hl (by decide)
    ·exact absurd hl (by decide)
   intro vals wz eZ hJ
   have J90 : Mn.p (Mn.eq (.pointer (some ⟨gn, 2, none⟩))) (vals 0) wz := hJ 0 (by decide) (by decide)
   have J91 : Mn.p (Mn.eq (.slice Ap k cp)) (vals 1) wz := hJ 1 (by decide) (by decide)
   have J92 : Mn.p (Mn.rat N (sI : Rat)) (vals 2) wz := hJ 2 (by decide) (by decide)
   have J93 : Mn.p (Mn.rat N (p k)) (vals 3) wz := hJ 3 (by decide) (by decide)
   have J94 : Mn.p (Mn.rat N (p' k)) (vals 4) wz := hJ 4 (by decide) (by decide)
   have J95 : Mn.p (Mn.one N (p' k)) (vals 5) wz := hJ 5 (by decide) (by decide)
   clear hJ
   simp only [putAll, if_true, Bool.false_eq_true, if_false, Act.put, Nat.zero_add, Nat.reduceAdd, List.setIfInBounds_toArray, List.set_cons_zero, List.set_cons_succ]
   generalize vals 0 = z90 at J90 ⊢
   obtain rfl : z90 = (.pointer (some ⟨gn, 2, none⟩)) := J90
   generalize vals 1 = z91 at J91 ⊢
   obtain rfl : z91 = (.slice Ap k cp) := J91
   generalize vals 2 = z92 at J92 ⊢
   generalize vals 3 = z93 at J93 ⊢
   generalize vals 4 = z94 at J94 ⊢
   generalize vals 5 = z95 at J95 ⊢
   clear a0 a1 a2 r0 r1 r2 r3 d0 d1 d2 d3
   obtain ⟨bq, rfl, nq, Aq, lq, cq, Aq', lq', cq', hq, hneg, gq1, gq2⟩ := J95
   have hGz := hG.ext eZ
   have BNz := eZ.block BN
   have hEq' := hEq.trans eZ
   refine stepL_late (i := 6) rfl (by kernel_rfl) (by kernel_rfl) (fun K hK => ?_)
   refine step_append_rat rfl _ _ 24 Tryz.underlying24 rfl rfl hGz rfl hq hneg gq1 gq2 (by omega) ?_
   rintro gA capA wA hG3 ⟨g', hg', cA, -⟩ -
   have BNA := cA.blk BNz (.inl (by omega))
   have hEA := cA.ext hEq' (by omega)
   obtain ⟨y0, y1, y2, y3, y4, y5⟩ := cells3 BNA
   refine hK.out _ _ ?_
   clear hK K
   try simp only [nr]
   refine stepL_late (i := 7) rfl (by kernel_rfl) (by kernel_rfl) (fun K hK => ?_)
   go_simp
   refine hK.out _ _ ?_
   clear hK K
   try simp only [nr]
   refine stepL_late (i := 8) rfl (by kernel_rfl) (by kernel_rfl) (fun K hK => ?_)
   go_simp
   refine hK.out _ _ ?_
   clear hK K
   try simp only [nr]
   refine stepL_done (by kernel_rfl) ?_ _
   clear y0 y1 y2 y3 y4 y5
   obtain ⟨w13, E13, B13, C13, hs13⟩ := setAt BNA (NoU.mk BNA (by decide)) 2 (.slice (some ⟨gA, 0, none⟩) (k + 1) capA)
   rw [E13]
   replace B13 : w13.heap[gn]? = some (.cells #[.slice (some ⟨b, off, none⟩) m c1, .slice A2 m c2, .slice (some ⟨gA, 0, none⟩) (k + 1) capA] 26 (0, 0)) := B13
   have hE13 := C13.ext hEA hEg
   have hG13 := (hG3.chg C13 (by omega) (Nat.le_refl _)).congr (y := p') (fun j _ => by unfold upd; split <;> simp_all)
   clear hG3 E13 C13 BNA hEA hG hGz BNz BN
   go_wp2
   go_roundw
   case rel => exact ⟨k + 1, by omega, by go_num, hE13, _, _, B13, hG13⟩
   case measure => simp [intOf]; omega
  ·obtain rfl : m = k := by omega
   have hE := hE10.trans hEr
   have hN13 := hE.size
   replace B10 := hEr.block B10
   replace D0 := hEr.block D0
   replace M1 := M1.ext hEr
   replace M2 := M2.ext hEr
   replace M3 := M3.ext hEr
   have hP13 := hG.lsv (lo := 0) (Nat.zero_le _) rfl
   have hBK13 := hBK10.ext hEr
   clear hEr hG hBK10 hE10
   obtain ⟨a0, a1, a2, -⟩ := cells3 B10
   have hF0 := few_fit_ht hm hn HX.out HP.out
   obtain ⟨k2, k3, hB, hk3⟩ := few_bnd hm hn
   obtain ⟨k2', k3', hB2, hk3'⟩ := bnd150 hm hn
   have hpp : ∀ i, i < m → p' i = (sI : Rat) * p i := fun i _ => (HP'.out i).symm
   have hps : (0 : Rat) < (sI : Rat) := Rat.intCast_pos.2 (by omega)
   have hpos' : ∀ i, i < m → 0 < p' i := fun i hi => by rw [hpp i hi]; exact Rat.mul_pos hps (HPOS.out i hi)
   have hkp' : HtL m 150 p' := fun i hi => by
    rw [hpp i hi]
    have h9 : Ht 9 (sI : Rat) := by
     obtain ⟨k, rfl⟩ := Int.eq_ofNat_of_zero_le (show 0 ≤ sI by omega)
     exact ht_nat k 9 (by omega) (by omega)
    exact (h9.mul (HP.out i hi)).mono (by omega)
   have HB := Lib.hid hB
   have HB2 := Lib.hid hB2
   have HPP := Lib.hid hkp'
   have HPOS2 := Lib.hid hpos'
   have HY150 : Hid (HtL m 150 y) := HY.out.mono (by omega)
   have HP150 : Hid (HtL m 150 p) := HP.out.mono (by omega)
   have HX150 : Hid (HtM m n 150 X) := HX.out.mono (by omega)
   obtain ⟨PJ, hPJ⟩ := hid_eq (fun i j => fitsOf m n X p i j * p j)
   have HPZ : Hid (∀ i, i < m → ∀ j, j < m → Sz (PJ i j)) := fun i hi j hj => by rw [hPJ.out]; exact ((hF0 i hi j hj).mul (HP.out j hj)).sz (by omega)
   have HE1 : Hid (∀ i, i < m → ∀ j, j < m → PJ i j = fitsOf m n XT p i j * p j) := fun i hi j hj => by rw [hPJ.out, hXT.out]; exact sc_prj1 HPOS.out HIV.out hi hj
   have HE2 : Hid (∀ i, i < m → ∀ j, j < m → PJ i j = fitsOf m n X p' i j * p' j) := fun i hi j hj => by rw [hPJ.out]; exact sc_prj2 HPOS.out hpos' hpp hi hj
   clear hF0 hB hB2 hpos' hkp' hps hpp
   go_wp2_with (go_at_call 37; refine Hid.out ?_)
   refine (rl_Projector (h1.ext hE) (h2.ext hE) (h3.ext hE) hm0 (by omega) hn0 (by omega) HPOS.out HB.out HX.out HY.out HP.out (by omega)).mono ?_
   rw [← hPJ.out]
   rintro e w13 ⟨Aa, ca, rfl, ha, e13⟩
   replace hE := hE.trans e13
   replace B10 := e13.block B10
   replace D0 := e13.block D0
   replace BN := e13.block BN
   replace M1 := M1.ext e13
   replace M2 := M2.ext e13
   replace M3 := M3.ext e13
   replace hP13 := hP13.ext e13
   replace hBK13 := hBK13.ext e13
   clear a0 a1 a2 e13
   obtain ⟨d0, d1, d2, -⟩ := cells3 D0
   go_wp2_with (go_at_call 37; refine Hid.out ?_)
   refine (rl_Projector M1 M2 M3 hm0 (by omega) hn0 (by omega) HPOS.out HB2.out HXT.out HY150.out HP150.out (by omega)).mono ?_
   rintro e w14 ⟨Ab', cb', rfl, hb, e14⟩
   replace hb := hb.congr (fun i hi j hj => (HE1.out i hi j hj).symm)
   replace hE := hE.trans e14
   replace B10 := e14.block B10
   replace BN := e14.block BN
   replace ha := ha.ext e14
   replace hP13 := hP13.ext e14
   replace hBK13 := hBK13.ext e14
   clear d0 d1 d2 D0 M1 M2 M3 e14
   obtain ⟨d0, d1, d2, -⟩ := cells3 BN
   have t1 := (h1.ext hE)
   have t2 := (h2.ext hE)
   have t3 := hP13
   replace t1 := MtR.wide t1 (Nat.zero_le _) t1.2.1 (Nat.le_refl _)
   replace t2 := LsR.wide t2 (Nat.zero_le _) t2.2.1 (Nat.le_refl _)
   replace t3 := LsR.wide t3 (Nat.zero_le _) t3.2.1 (Nat.le_refl _)
   go_wp2_with (go_at_call 37; refine Hid.out ?_)
   refine (rl_Projector t1 t2 t3 hm0 (by omega) hn0 (by omega) HPOS2.out HB2.out HX150.out HY150.out HPP.out (by omega)).mono ?_
   rintro e w15 ⟨Ac, cc, rfl, hc, e15⟩
   replace hc := hc.congr (fun i hi j hj => (HE2.out i hi j hj).symm)
   replace hE := hE.trans e15
   replace B10 := e15.block B10
   replace BN := e15.block BN
   replace ha := ha.ext e15
   replace hb := hb.ext e15
   replace t1 := t1.ext e15
   replace t2 := t2.ext e15
   replace t3 := t3.ext e15
   replace hBK13 := hBK13.ext e15
   clear d0 d1 d2 hP13 e15
   go_wp2_with (go_at_call 38; refine Hid.out ?_)
   refine (r2_sameMatrix ha hb HPZ.out (fun _ _ _ _ => rfl)).mono ?_
   rintro e w16 ⟨rfl, e16⟩
   replace hE := hE.trans e16
   replace ha := ha.ext e16
   replace hc := hc.ext e16
   go_wp2_with (go_at_call 38; refine Hid.out ?_)
   refine (r2_sameMatrix ha hc HPZ.out (fun _ _ _ _ => rfl)).mono ?_
   rintro e w17 ⟨rfl, e17⟩
   replace hE := hE.trans e17
   replace e16 := e16.trans e17
   replace B10 := e16.block B10
   replace BN := e16.block BN
   replace t1 := t1.ext e16
   replace t2 := t2.ext e16
   replace t3 := t3.ext e16
   replace hBK13 := hBK13.ext e16
   clear ha hb hc e16 e17
   obtain ⟨a0, a1, a2, -⟩ := cells3 B10
   obtain ⟨r, hr⟩ := hid_eq (rref m X n).2.length
   have hrn : r ≤ n := by rw [hr.out]; exact (rref_len m X n).2
   obtain ⟨Q1', hQ1⟩ := hid_eq (invM n (nmat (bas X (rref m X n).2) p m))
   obtain ⟨Q2', hQ2⟩ := hid_eq (invM n (nmat (bas X (rref m X n).2) p' m))
   have HQE : Hid (r = n → ∀ i, i < n → ∀ j, j < n → Q1' i j = 0 + (sI : Rat) * Q2' i j) := fun h9 i hi j hj => by
    rw [hQ1.out, hQ2.out]
    exact sc_cof HPOS.out HPOS2.out (fun i _ => (HP'.out i).symm) (by rw [← hr.out]; exact h9) hi hj
   have HQ1 : Hid (r = n → HtM n n k2 Q1') := fun h9 => by rw [hQ1.out]; exact inv_ht HB.out HX.out HP.out (by rw [← hr.out]; exact h9)
   have HQ2 : Hid (r = n → HtM n n k2' Q2') := fun h9 => by rw [hQ2.out]; exact inv_ht HB2.out HX150.out HPP.out (by rw [← hr.out]; exact h9)
   have hkk : k2 ≤ 1000000 := by have := HB.out.hk3; omega
   have hkk' : k2' ≤ 7000000 := by have := HB2.out.hk3; omega
   go_wp2_with (go_at_call 39; refine Hid.out ?_)
   refine (rl_Cofactor (h1.ext hE) (h2.ext hE) (h3.ext hE) hm0 (by omega) hn0 (by omega) HPOS.out HB.out HX.out HY.out HP.out).mono ?_
   rw [← hr.out, ← hQ1.out]
   rintro e w18 ⟨e18, hh1⟩
   replace hE := hE.trans e18
   replace BN := e18.block BN
   replace t1 := t1.ext e18
   replace t2 := t2.ext e18
   replace t3 := t3.ext e18
   replace hBK13 := hBK13.ext e18
   clear a0 a1 a2 e18 B10
   obtain ⟨d0, d1, d2, -⟩ := cells3 BN
   by_cases hrr : r < n
   ·obtain rfl : e = .returned (.tuple #[.slice none 0 0, .int .i64 14]) := by
     rcases hh1 with ⟨-, h9⟩ | ⟨h9, -⟩
     ·exact h9
     ·omega
    clear hh1
    go_wp2_with (go_at_call 39; refine Hid.out ?_)
    refine (rl_Cofactor t1 t2 t3 hm0 (by omega) hn0 (by omega) HPOS2.out HB2.out HX150.out HY150.out HPP.out).mono ?_
    rw [← hr.out, ← hQ2.out]
    rintro e w19 ⟨e19, hh1⟩
    obtain rfl : e = .returned (.tuple #[.slice none 0 0, .int .i64 14]) := by
     rcases hh1 with ⟨-, h9⟩ | ⟨h9, -⟩
     ·exact h9
     ·omega
    go_wp2
    go_ret
    exact ⟨rfl, hE.trans e19⟩
   ·have hrn' : r = n := by omega
    rcases hh1 with ⟨h9, -⟩ | ⟨-, Aq, cq, rfl, hq1⟩
    ·omega
    have HRN := Lib.hid hrn'
    have hrf : (rref m X n).2.length = n := by rw [← hr.out]; exact hrn'
    clear hrn' hrn
    go_wp2_with (go_at_call 39; refine Hid.out ?_)
    refine (rl_Cofactor t1 t2 t3 hm0 (by omega) hn0 (by omega) HPOS2.out HB2.out HX150.out HY150.out HPP.out).mono ?_
    rw [← hr.out, ← hQ2.out]
    rintro e w19 ⟨e19, hh1⟩
    rcases hh1 with ⟨h9, -⟩ | ⟨-, Ar, cr, rfl, hq2⟩
    ·exact absurd h9 hrr
    replace hE := hE.trans e19
    replace hBK13 := hBK13.ext e19
    replace hq1 := hq1.ext e19
    clear e19 hrr hrf d0 d1 d2 BN t1 t2 t3
    obtain ⟨n3, S1, S2, S3, S4, S5, S6, r0, r1, r2, r3, -, -, -, -, hRK, -⟩ := hBK13.open
    have hNz : N ≤ w19.heap.size := by have := hE.size; omega
    obtain ⟨QS, hQS⟩ := hid_eq (fun i j => (0 : Rat) + (sI : Rat) * Q2' i j)
    go_upto_region 25 with (fail)
    refine region_inv [Mn.eq (.slice Aq n cq), Mn.eq (.slice Ar n cr), Mn.eq (.int .i64 (n : Int)), Mn.eq (.slice Ar n cr), Mn.eq (.int .i64 (n : Int)), Mn.mt N n n (fun _ _ => 0), Mn.eq (.slice Ar n cr), Mn.rat N (sI : Rat), Mn.mt N n n QS, Mn.eq (.bool true), Mn.eq (.bool true)] [some 156, some 157, some 158, some 159, some 160, some 161, some 162, some 163, some 164, some 165, some 6] [] [true, true, true, true, true, true, true, true, true, true, true] 0 (by kernel_rfl) (by kernel_rfl) (by kernel_rfl) (by kernel_rfl) (by kernel_rfl) (by kernel_rfl) (by kernel_rfl) (by kernel_rfl) ?_ ?_
    ·intro i hi hl
     have hi' : i = 0 ∨ i = 1 ∨ i = 2 ∨ i = 3 ∨ i = 4 ∨ i = 5 ∨ i = 6 ∨ i = 7 ∨ i = 8 ∨ i = 9 ∨ i = 10 := by have h9 : i < 11 := hi; omega
     clear hi
     rcases hi' with rfl | rfl | rfl | rfl | rfl | rfl | rfl | rfl | rfl | rfl | rfl
     ·clear hl
      refine stp rfl ?_
      intro ac wi eI hold hpre K hK
      have o20 := hold 20 (by kernel_rfl)
      simp only [List.getElem?_toArray, List.getElem?_cons_succ, List.getElem?_cons_zero] at o20
      clear hold hpre
      go_simp
      exact hK.out _ _ (Ext.refl _) rfl
     ·clear hl
      refine stp rfl ?_
      intro ac wi eI hold hpre K hK
      have o21 := hold 21 (by kernel_rfl)
      simp only [List.getElem?_toArray, List.getElem?_cons_succ, List.getElem?_cons_zero] at o21
      clear hold hpre
      go_simp
      exact hK.out _ _ (Ext.refl _) rfl
     ·clear hl
      refine stp rfl ?_
      intro ac wi eI hold hpre K hK
      obtain ⟨x157, s157, j157⟩ := hpre 1 (by kernel_rfl) 157 rfl
      obtain rfl : x157 = (.slice Ar n cr) := j157
      clear hold hpre
      go_simp
      exact hK.out _ _ (Ext.refl _) rfl
     ·clear hl
      refine stp rfl ?_
      intro ac wi eI hold hpre K hK
      have o21 := hold 21 (by kernel_rfl)
      simp only [List.getElem?_toArray, List.getElem?_cons_succ, List.getElem?_cons_zero] at o21
      clear hold hpre
      go_simp
      exact hK.out _ _ (Ext.refl _) rfl
     ·clear hl
      refine stp rfl ?_
      intro ac wi eI hold hpre K hK
      obtain ⟨x159, s159, j159⟩ := hpre 3 (by kernel_rfl) 159 rfl
      obtain rfl : x159 = (.slice Ar n cr) := j159
      clear hold hpre
      go_simp
      exact hK.out _ _ (Ext.refl _) rfl
     ·clear hl
      refine stp rfl ?_
      intro ac wi eI hold hpre K hK
      obtain ⟨x158, s158, j158⟩ := hpre 2 (by kernel_rfl) 158 rfl
      obtain rfl : x158 = (.int .i64 (n : Int)) := j158
      obtain ⟨x160, s160, j160⟩ := hpre 4 (by kernel_rfl) 160 rfl
      obtain rfl : x160 = (.int .i64 (n : Int)) := j160
      clear hold hpre
      go_simp
      refine (r5_zeros (N := N) (by have := eI.size; omega) n n rfl rfl (by omega) hn0 (by omega)).mono ?_
      intro e wj hh
      obtain ⟨Aj, cj, rfl, hj, ej⟩ := hh.mt
      go_wp2_with fail
      exact hK.out _ _ ej (MtR.wide hj (Nat.zero_le _) (Nat.le_refl _) (Nat.le_refl _))
     ·clear hl
      refine stp rfl ?_
      intro ac wi eI hold hpre K hK
      have o21 := hold 21 (by kernel_rfl)
      simp only [List.getElem?_toArray, List.getElem?_cons_succ, List.getElem?_cons_zero] at o21
      clear hold hpre
      go_simp
      exact hK.out _ _ (Ext.refl _) rfl
     ·clear hl
      refine stp rfl ?_
      intro ac wi eI hold hpre K hK
      have o9 := hold 9 (by kernel_rfl)
      simp only [List.getElem?_toArray, List.getElem?_cons_succ, List.getElem?_cons_zero] at o9
      clear hold hpre
      have cc0 := eI.cell r0
      have cc1 := eI.cell r1
      have cc2 := eI.cell r2
      have cc3 := eI.cell r3
      go_simp
      exact hK.out _ _ (Ext.refl _) (hRK.ext eI)
     ·clear hl
      refine stp rfl ?_
      intro ac wi eI hold hpre K hK
      obtain ⟨x161, s161, j161⟩ := hpre 5 (by kernel_rfl) 161 rfl
      replace j161 : Mn.p (Mn.mt N n n (fun _ _ => 0)) x161 wi := j161
      obtain ⟨x162, s162, j162⟩ := hpre 6 (by kernel_rfl) 162 rfl
      obtain rfl : x162 = (.slice Ar n cr) := j162
      obtain ⟨x163, s163, j163⟩ := hpre 7 (by kernel_rfl) 163 rfl
      replace j163 : Mn.p (Mn.rat N (sI : Rat)) x163 wi := j163
      clear hold hpre
      go_simp
      refine (r5_sum (kx := 1) (ky := k2') (kk := 9) j161 (hq2.ext eI) j163 hn0 (by omega) hn0 (by omega) (fun _ _ _ _ => Ht.zero.mono (by omega)) (HQ2.out HRN.out) (by
       obtain ⟨k, hk⟩ := Int.eq_ofNat_of_zero_le (show 0 ≤ sI by omega)
       rw [hk]
       exact ht_nat k 9 (by omega) (by omega)) (by omega)).mono ?_
      rw [← hQS.out]
      intro e wj hh
      obtain ⟨Aj, cj, rfl, hj, ej⟩ := hh.mt
      go_wp2_with fail
      exact hK.out _ _ ej (MtR.wide hj (Nat.zero_le _) (Nat.le_refl _) (Nat.le_refl _))
     ·clear hl
      refine stp rfl ?_
      intro ac wi eI hold hpre K hK
      obtain ⟨x156, s156, j156⟩ := hpre 0 (by kernel_rfl) 156 rfl
      obtain rfl : x156 = (.slice Aq n cq) := j156
      obtain ⟨x164, s164, j164⟩ := hpre 8 (by kernel_rfl) 164 rfl
      replace j164 : Mn.p (Mn.mt N n n QS) x164 wi := j164
      clear hold hpre
      obtain ⟨Aj, cj, rfl, hjj⟩ := MtV.form j164
      go_simp
      refine (r2_sameMatrix (hq1.ext eI) j164 (fun i hi j hj => (HQ1.out HRN.out i hi j hj).sz (by omega)) (fun i hi j hj => by rw [hQS.out]; exact HQE.out HRN.out i hi j hj)).mono ?_
      rintro e wj ⟨rfl, ej⟩
      go_wp2_with fail
      exact hK.out _ _ ej rfl
     ·clear hl
      refine stp rfl ?_
      intro ac wi eI hold hpre K hK
      obtain ⟨x165, s165, j165⟩ := hpre 9 (by kernel_rfl) 165 rfl
      obtain rfl : x165 = (.bool true) := j165
      clear hold hpre
      go_simp
      exact hK.out _ _ (Ext.refl _) rfl
    intro vals wz eZ hJ
    have J156 : Mn.p (Mn.eq (.slice Aq n cq)) (vals 0) wz := hJ 0 (by decide) (by decide)
    have J157 : Mn.p (Mn.eq (.slice Ar n cr)) (vals 1) wz := hJ 1 (by decide) (by decide)
    have J158 : Mn.p (Mn.eq (.int .i64 (n : Int))) (vals 2) wz := hJ 2 (by decide) (by decide)
    have J159 : Mn.p (Mn.eq (.slice Ar n cr)) (vals 3) wz := hJ 3 (by decide) (by decide)
    have J160 : Mn.p (Mn.eq (.int .i64 (n : Int))) (vals 4) wz := hJ 4 (by decide) (by decide)
    have J161 : Mn.p (Mn.mt N n n (fun _ _ => 0)) (vals 5) wz := hJ 5 (by decide) (by decide)
    have J162 : Mn.p (Mn.eq (.slice Ar n cr)) (vals 6) wz := hJ 6 (by decide) (by decide)
    have J163 : Mn.p (Mn.rat N (sI : Rat)) (vals 7) wz := hJ 7 (by decide) (by decide)
    have J164 : Mn.p (Mn.mt N n n QS) (vals 8) wz := hJ 8 (by decide) (by decide)
    have J165 : Mn.p (Mn.eq (.bool true)) (vals 9) wz := hJ 9 (by decide) (by decide)
    have J6 : Mn.p (Mn.eq (.bool true)) (vals 10) wz := hJ 10 (by decide) (by decide)
    clear hJ
    simp only [putAll, if_true, Bool.false_eq_true, if_false, Act.put, Nat.zero_add, Nat.reduceAdd, List.setIfInBounds_toArray, List.set_cons_zero, List.set_cons_succ]
    generalize vals 0 = z156 at J156 ⊢
    obtain rfl : z156 = (.slice Aq n cq) := J156
    generalize vals 1 = z157 at J157 ⊢
    obtain rfl : z157 = (.slice Ar n cr) := J157
    generalize vals 2 = z158 at J158 ⊢
    obtain rfl : z158 = (.int .i64 (n : Int)) := J158
    generalize vals 3 = z159 at J159 ⊢
    obtain rfl : z159 = (.slice Ar n cr) := J159
    generalize vals 4 = z160 at J160 ⊢
    obtain rfl : z160 = (.int .i64 (n : Int)) := J160
    generalize vals 5 = z161 at J161 ⊢
    generalize vals 6 = z162 at J162 ⊢
    obtain rfl : z162 = (.slice Ar n cr) := J162
    generalize vals 7 = z163 at J163 ⊢
    generalize vals 8 = z164 at J164 ⊢
    generalize vals 9 = z165 at J165 ⊢
    obtain rfl : z165 = (.bool true) := J165
    generalize vals 10 = z6 at J6 ⊢
    obtain rfl : z6 = (.bool true) := J6
    refine stepL_done (by kernel_rfl) ?_ _
    go_wp2
    go_ret
    exact ⟨rfl, hE.trans eZ⟩
end Go.Proofs.YtghpfnhmlpfgcaaGreat
