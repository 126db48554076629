import Derived.Test.YtghpfnhmlpfgcaaGreatWb08
import Derived.OrdersIn
import Derived.RegionTactic
set_option linter.all false
namespace Go.Proofs.YtghpfnhmlpfgcaaGreat
open Go.RowKit Go.Shelf
attribute [local go_sem] Oper.semAt_some
abbrev gd (l : List Nat) (k : Nat) : Int := ((l[k]?.getD 0 : Nat) : Int)
theorem bk_prefix {n : Nat} {pre : List (Fin n)} {x : Fin n} (h : pre ++ [x] <+: bkSeq n) (j : Fin n) (hj : x.1 < j.1) : j ∈ pre := by
 have h1 := List.prefix_iff_eq_take.1 h
 have hl : pre.length < n := by
  have := h.length_le
  rw [List.length_append, bkSeq_length, List.length_singleton] at this
  omega
 rw [List.length_append, List.length_singleton, bkSeq_take hl] at h1
 obtain ⟨e1, e2⟩ := List.append_inj' h1 rfl
 have hx : x.1 = n - 1 - pre.length := by
  have : x = ⟨n - 1 - pre.length, by omega⟩ := by simpa using e2
  rw [this]
 have hi : n - 1 - j.1 < pre.length := by omega
 have h2 : pre[n - 1 - j.1]? = some j := by
  rw [e1, List.getElem?_take, if_pos hi, List.getElem?_eq_getElem (by rw [bkSeq_length]; omega)]
  simp [bkSeq]
  apply Fin.ext
  simp
  omega
 exact List.mem_of_getElem? h2
theorem drop_eq_of {a b : List Nat} (hab : a.length = b.length) {k : Nat} (h : ∀ j, k ≤ j → j < a.length → a[j]?.getD 0 = b[j]?.getD 0) : a.drop k = b.drop k := by
 apply List.ext_getElem
 ·simp [hab]
 ·intro t h1 h2
  rw [List.length_drop] at h1 h2
  have := h (k + t) (by omega) (by omega)
  rw [List.getElem?_eq_getElem (by omega), List.getElem?_eq_getElem (by omega)] at this
  simpa using this
theorem cmp_top {x y : Nat} (hab : (dg x).length = (dg y).length) {k : Nat} (hk : k < (dg x).length) (h : ∀ j, k < j → j < (dg x).length → (dg x)[j]?.getD 0 = (dg y)[j]?.getD 0) (hne : gd (dg x) k ≠ gd (dg y) k) :
  cmpZ (gd (dg x) k) (gd (dg y) k) = cmpN x y := by
 have hd := drop_eq_of hab (k := k + 1) (fun j h1 h2 => h j (by omega) h2)
 rcases Nat.lt_trichotomy ((dg x)[k]?.getD 0) ((dg y)[k]?.getD 0) with h1 | h1 | h1
 ·have h2 := val_lt_top (dig_dg x) hab hk hd h1
  rw [val_dg, val_dg] at h2
  rw [cmpN_lt h2]; unfold cmpZ gd; rw [if_pos (by omega)]
 ·exact absurd (by unfold gd; rw [h1]) hne
 ·have h2 := val_lt_top (dig_dg y) hab.symm (by omega) hd.symm h1
  rw [val_dg, val_dg] at h2
  rw [cmpN_gt h2]; unfold cmpZ gd; rw [if_neg (by omega), if_neg (by omega)]
set_option maxRecDepth 100000 in
set_option maxHeartbeats 2000000 in
theorem i_compare_in (N : Nat) (w : World) (A1 : Option Addr) (k1 c1 : Nat) (A2 : Option Addr) (c2 : Nat) (x y : Nat) (h : Gs N w (.slice A1 k1 c1) (dg x)) (h' : Gs N w (.slice A2 k1 c2) (dg y)) (r : Int) (hr : Hid (r = cmpN x y)) :
  CallsIn Fence.wide 5 Tryz.prog 170 #[.slice A1 k1 c1, .slice A2 k1 c2] w (RetV w (.int .i64 r)) := by
 have t1 : ((k1 : Int) != (k1 : Int)) = false := by simp
 have hla : Hid ((dg x).length = k1) := by obtain ⟨A', n', c', hv, hl', -, -⟩ := h.form; cases hv; exact hl'
 have hlb : Hid ((dg y).length = k1) := by obtain ⟨A', n', c', hv, hl', -, -⟩ := h'.form; cases hv; exact hl'
 refine callsIn_of_wp_marks Tryz.func170 rfl trivial ?_ rfl
 simp only [Tryz.ntmps170, List.size_toArray, List.length_cons, List.length_nil, Nat.reduceAdd, Nat.reduceSub, Array.replicate_succ, Array.replicate_zero, List.push_toArray, List.append_toArray, List.nil_append, List.cons_append]
 gi_wp2_with (refine ⟨trivial, ?_⟩; gi_at_call 196; refine (back_in Fence.wide _ trivial rfl _ _ _ _).mono ?_; rintro e w' ⟨rfl, rfl⟩)
 refine boxes3 ?_
 intro W hE hsz B0 B1 B2
 refine wpIn_rangeFunc_ownF (F := Fence.wide) (n := 5) rfl (by decide) (gf := 202) (lb := #[.pointer (some ⟨w.heap.size + 1 + 1, 0, none⟩)]) rfl trivial (enters_of Tryz.func202 (by kernel_rfl) rfl)
  (back_stops Fence.wide 4 trivial rfl (by decide) W w A1 k1 c1 (dg x) h hE (w.heap.size + 1 + 1) w.heap.size (by omega) (by omega) (Nat.le_refl _) (cells1 B2).1)
  keepB_t (keepB_b (by omega) (by omega)) (Below.refl _ _) (fun _ => rfl)
  (fun pre W' => (∀ j ∈ pre, (dg x)[j.1]?.getD 0 = (dg y)[j.1]?.getD 0) ∧ Below W.heap.size W W')
  (fun c pre W' => (c = .ret ∧ ∃ ini last, pre = ini ++ [last] ∧ (∀ j ∈ ini, (dg x)[j.1]?.getD 0 = (dg y)[j.1]?.getD 0) ∧ gd (dg x) last.1 ≠ gd (dg y) last.1 ∧ W'.cell? ⟨w.heap.size + 1, 0, none⟩ = some (.int .i64 (cmpZ (gd (dg x) last.1) (gd (dg y) last.1)))) ∧ Below w.heap.size w W')
  (OwnFrom.and (ownFrom_pure _ _) (ownFrom_below (Nat.le_refl _) (Nat.le_refl _)))
  (fun c => OwnFrom.and (Own.from (fun s A B row hs hg hr => by obtain ⟨hc, ini, last, e1, e2, e3, e4⟩ := hs; exact ⟨hc, ini, last, e1, e2, e3, cell_kept e4 hg hr⟩) _) (ownFrom_below (Nat.le_refl _) (by omega)))
  ⟨by simp, Below.refl _ _⟩
  (fun j => { tmps := #[.slice A1 k1 c1, .slice A2 k1 c2, undef, .pointer (some ⟨w.heap.size, 0, none⟩), .pointer (some ⟨w.heap.size + 1, 0, none⟩), .int .i64 ((j.1 : Nat) : Int), .int .u32 (((dg x)[j.1]?.getD 0 : Nat) : Int), .slice A1 k1 c1,
     .int .i64 k1, .slice A2 k1 c2, .int .i64 k1, .bool false, undef, undef, undef, undef, undef, .slice A1 k1 c1, .func (.func 202) #[] #[.pointer (some ⟨w.heap.size + 1 + 1, 0, none⟩)],
     .int .i64 ((j.1 : Nat) : Int), .int .u32 (((dg x)[j.1]?.getD 0 : Nat) : Int), undef, undef, undef, undef, undef, undef, undef, undef, undef, undef, undef, undef], defers := [] }) ?assign ?body ?done ?stop
 case assign =>
  intro l j W K hK
  dsimp only [bkEnc]
  obtain ⟨z, hz⟩ := hid_eq (((dg x)[j.1]?.getD 0 : Nat) : Int)
  obtain ⟨k, hk⟩ := hid_eq ((j.1 : Nat) : Int)
  rw [← hz.out, ← hk.out] at hK ⊢
  gi_wp2
  exact hK
 case body =>
  rintro l pre j W1 ⟨hp, hB⟩ _
  have hE1 : Ext W W1 := hB
  obtain ⟨a0, -⟩ := cells1 (hE1.block B0)
  obtain ⟨b0, b1⟩ := cells1 (hE1.block B1)
  have hj := j.2
  obtain ⟨k, hk⟩ := hid_eq j.1
  obtain ⟨za, hza⟩ := hid_eq (((dg x)[j.1]?.getD 0 : Nat) : Int)
  rw [← hza.out, ← hk.out]
  have hkk : k < k1 := by rw [hk.out, ← hla.out]; exact hj
  obtain ⟨q2, o2, zb, hA2e, hq2, g2, zb0, zb1, hzb⟩ := ((h'.ext hE).ext hE1).at_ hkk
  subst hA2e
  by_cases hz : za = zb
  ·have t2 : (za != zb) = false := by simpa using hz
   have HP : Hid (∀ i ∈ pre ++ [j], (dg x)[i.1]?.getD 0 = (dg y)[i.1]?.getD 0) := by
    intro i hi
    rcases List.mem_append.1 hi with h1 | h1
    ·exact hp i h1
    ·simp at h1
     subst h1
     have e1 := hza.out
     have e2 := hzb.out
     rw [hk.out] at e2
     omega
   gi_wp2
   exact ⟨KeepsOthers.refl _, KeepB.refl _ _ _, HP.out, hB⟩
  ·have t2 : (za != zb) = true := by simpa using hz
   gi_wp2_with (refine ⟨trivial, ?_⟩; gi_at_call 197; refine (CallsIn.inRound l (callsIn_wide.2 (cmp_u32 za zb _))).mono ?_; rintro e w' ⟨rfl, rfl⟩)
   have e2 : zb = gd (dg y) j.1 := by rw [hzb.out, hk.out]
   exact ⟨KeepsOthers.setCell _ _ _, ⟨rfl, pre, j, rfl, hp, by rw [← e2, ← show za = gd (dg x) j.1 from hza.out]; exact hz, by rw [← e2, ← show za = gd (dg x) j.1 from hza.out]; exact World.cell?_setCell_same' _ _ _ (by rw [b0]; rfl)⟩, ((hE.trans hE1).below).setCell (p := ⟨w.heap.size + 1, 0, none⟩) (by simp) _⟩
 case done =>
  rintro D ys W1 hD rfl ⟨hp, hB⟩ hK
  have hE1 : Ext W W1 := hB
  obtain ⟨b0, b1⟩ := cells1 (hE1.block B1)
  have HR : Hid (r = 0) := by
   rw [Hid, hr.out]
   refine cmpN_eq (dg_inj ?_)
   have := drop_eq_of (a := dg x) (b := dg y) (hla.out.trans hlb.out.symm) (k := 0) (fun j _ h2 => hp ⟨j, h2⟩ (by simp [bkSeq]))
   simpa using this
  gi_wp2
  have hK' := (KeepsOthers.setCell W1 ⟨w.heap.size + 1, 0, none⟩ (.int .i64 0)).same D _ hK rfl
  refine ⟨by simp, .inl ⟨_, _, rfl, run_takeDeferred hK', ?_⟩⟩
  have hc5 := cell_kept (World.cell?_setCell_same' W1 ⟨w.heap.size + 1, 0, none⟩ (.int .i64 0) (by rw [b0]; rfl)) (grownBy_putObj' _ D (.deferred none)) (fun r e => by cases e; exact ⟨_, hK', rfl⟩)
  refine ⟨.int .i64 0, ?_, ret_int HR.out.symm, ((hE.trans hE1).below.setCell (p := ⟨w.heap.size + 1, 0, none⟩) (by simp) _).trans (belowK_b (w := w) (Nat.le_refl _) _ D _ _ (by omega) hK' rfl rfl)⟩
  simp [results, Tryz.results170, go_sem, hc5]
 case stop =>
  rintro D c pre W1 hD hpre ⟨⟨rfl, ini, last, rfl, e2, e3, hcr⟩, hB⟩ hK
  have HR : Hid (cmpZ (gd (dg x) last.1) (gd (dg y) last.1) = r) := by
   rw [Hid, hr.out]
   exact cmp_top (hla.out.trans hlb.out.symm) last.2 (fun j h1 h2 => e2 ⟨j, h2⟩ (bk_prefix hpre ⟨j, h2⟩ h1)) e3
  rw [HR.out] at hcr
  gi_wp2
  refine ⟨by simp, .inl ⟨_, _, rfl, run_takeDeferred hK, ?_⟩⟩
  have hc5 := cell_kept hcr (grownBy_putObj' _ D (.deferred none)) (fun r e => by cases e; exact ⟨_, hK, rfl⟩)
  refine ⟨.int .i64 r, ?_, rfl, hB.trans (belowK_b (w := w) (Nat.le_refl _) W1 D _ _ (by omega) hK rfl rfl)⟩
  simp [results, Tryz.results170, go_sem, hc5]
set_option maxHeartbeats 1000000 in
theorem i_compare {N : Nat} {w : World} {s t : Value} {x y : Nat} (h : Gs N w s (dg x)) (h' : Gs N w t (dg y)) :
  Calls Tryz.prog 170 #[s, t] w (RetV w (.int .i64 (cmpN x y))) := by
 obtain ⟨r, hr⟩ := hid_eq (cmpN x y)
 rw [← hr.out]
 obtain ⟨A1, k1, c1, rfl, hla, -, -⟩ := h.form
 obtain ⟨A2, k2, c2, rfl, hlb, -, -⟩ := h'.form
 by_cases hk : k1 = k2
 ·subst hk
  exact (callsIn_wide (n := 5)).1 (i_compare_in N w A1 k1 c1 A2 c2 x y h h' r hr)
 ·have t1 : ((k1 : Int) != (k2 : Int)) = true := by rw [bne_iff_ne]; omega
  have HR : Hid (cmpZ k1 k2 = r) := by
   rw [Hid, hr.out]
   rcases Nat.lt_or_gt_of_ne hk with h1 | h1
   ·rw [cmpN_lt (lt_of_ln_lt (by rw [hla.out, hlb.out]; exact h1))]; unfold cmpZ; rw [if_pos (by omega)]
   ·rw [cmpN_gt (lt_of_ln_lt (by rw [hla.out, hlb.out]; exact h1))]; unfold cmpZ; rw [if_neg (by omega), if_neg (by omega)]
  go_enter Tryz.func170, Tryz.ntmps170
  go_wp2_with (go_at_call 169; refine (cmp_int _ _ _).mono ?_; rintro e w' ⟨rfl, rfl⟩)
  refine boxes2 ?_
  intro W hE hsz B0 B1
  obtain ⟨b0, -⟩ := cells1 B1
  refine bodyPost_ret (v := .int .i64 (cmpZ k1 k2)) ?_ rfl ⟨ret_int HR.out, hE⟩
  simp [results, Tryz.results170, b0, go_sem]
end Go.Proofs.YtghpfnhmlpfgcaaGreat
namespace Go.Proofs.YtghpfnhmlpfgcaaGreat
open Go.RowKit
def plainOp : Op → Bool
 | .move _ | .assign _ | .load _ _ | .store _ _ _ | .binOp _ _ _ _ _ | .convert _ _ _ | .fieldAddr _ _ _ | .field _ _ _ | .indexAddr _ _ _ => true
 | _ => false
theorem plain_about {o : Oper} (h : plainOp o.op = true) (P : Program) (w : World) (ρ : Operand → Value) : o.about P w ρ = none := by
 unfold Oper.about
 cases ho : o.op <;> rw [ho] at h <;> simp [plainOp] at h <;> rfl
theorem plain_defer {o : Oper} (h : plainOp o.op = true) : ∀ c, o.op ≠ .defer c := by
 intro c hc; rw [hc] at h; simp [plainOp] at h
theorem bind_value {α : Type} (s : Sem α) (g : α → Value) (P : Program) (w : World) : (∃ v w', (do let x ← s; pure (Next.value (g x)) : Sem Next).run P w = .ok (.value v) w') ∨ ∃ h w', (do let x ← s; pure (Next.value (g x)) : Sem Next).run P w = .halt h w' := by
 simp only [Sem.run_bind]
 cases s.run P w with
 | ok x w' => exact .inl ⟨g x, w', rfl⟩
 | halt h w' => exact .inr ⟨h, w', rfl⟩
theorem bind_skip (s : Sem Unit) (P : Program) (w : World) : (∃ w', (do s; pure Next.skip : Sem Next).run P w = .ok .skip w') ∨ ∃ h w', (do s; pure Next.skip : Sem Next).run P w = .halt h w' := by
 simp only [Sem.run_bind]
 cases s.run P w with
 | ok x w' => exact .inl ⟨w', rfl⟩
 | halt h w' => exact .inr ⟨h, w', rfl⟩
theorem plain_result {o : Oper} (h : plainOp o.op = true) (ρ : Operand → Value) (P : Program) (w : World) :
  (∃ v w', (execOp ρ o).run P w = .ok (.value v) w') ∨ (∃ w', (execOp ρ o).run P w = .ok .skip w') ∨ ∃ x w', (execOp ρ o).run P w = .halt x w' := by
 unfold execOp
 cases ho : o.op <;> rw [ho] at h <;> simp [plainOp] at h
 all_goals simp only
 case move => exact .inl ⟨_, _, rfl⟩
 case assign => exact .inl ⟨_, _, rfl⟩
 case store => exact .inr (bind_skip _ P w)
 all_goals (rcases bind_value _ _ P w with h1 | h1; exact .inl h1; exact .inr (.inr h1))
theorem opIn_of_op {F : Fence} {n : Nat} {P : Program} {ops : Array Oper} {Q : Exit → Act → World → Prop} (hpl : ∀ (i : Nat) (o : Oper), ops[i]? = some o → plainOp o.op = true) (hQ : ¬ LetsOut Q)
  {i : Nat} {K K' : Act → World → Prop} (hK : ∀ a w, K a w → K' a w) {a : Act} {w : World} (h : wpOp P ops Q i K a w) : wpOpIn F n P ops Q i K' a w := by
 unfold wpOp at h
 unfold wpOpIn
 cases ho : ops[i]? with
 | none => rw [ho] at h; exact hK _ _ h
 | some o =>
  rw [ho] at h
  simp only at h ⊢
  have hp := hpl i o ho
  have hab : ∀ f, o.about P w a.eval = some f → F.fn f := fun f hf => by rw [plain_about hp] at hf; cases hf
  by_cases hw : Region.wanted o (yielded ops a.tmps) = true
  ·rw [if_pos hw] at h ⊢
   rcases h with h | h
   ·unfold Oper.wp at h
    unfold Oper.wpIn
    refine ⟨hab, ?_⟩
    rw [Oper.semAt_plain F _ _ (plain_defer hp)]
    rcases plain_result hp a.eval P w with ⟨v, w', e⟩ | ⟨w', e⟩ | ⟨x, w', e⟩
    ·rw [e] at h ⊢; exact hK _ _ h
    ·rw [e] at h ⊢; exact hK _ _ h
    ·rw [e] at h ⊢
     cases x <;> exact h
   ·exact absurd h.2 hQ
  ·rw [if_neg hw] at h ⊢
   exact ⟨hab, hK _ _ h⟩
theorem anyIn_of_any {F : Fence} {n : Nat} {P : Program} {md : Region.Mode} {ops : Array Oper} {Q : Exit → Act → World → Prop} (hpl : ∀ (i : Nat) (o : Oper), ops[i]? = some o → plainOp o.op = true) (hQ : ¬ LetsOut Q) :
  ∀ (fuel : Nat) (listed : Array Bool) (a : Act) (w : World), wpAny P md ops Q fuel listed a w → wpAnyIn F n P md ops Q fuel listed a w := by
 intro fuel
 induction fuel with
 | zero => intro listed a w h; exact h
 | succ fuel ih => intro listed a w h; exact ⟨h.1, fun i hi => opIn_of_op hpl hQ (fun a w h => ih _ a w h) (h.2 i hi)⟩
theorem plain_all {l : List Oper} (h : l.all (fun o => plainOp o.op) = true) : ∀ (i : Nat) (o : Oper), l.toArray[i]? = some o → plainOp o.op = true := by
 intro i o ho
 rw [List.getElem?_toArray] at ho
 exact List.all_eq_true.1 h o (List.mem_of_getElem? ho)
theorem roundRegion {F : Fence} {n : Nat} {P : Program} {id : Nat} {l : List Oper} {Q : Exit → Act → World → Prop} {a : Act} {w : World} (hm : P.follows .mixedOrders = true) (hpl : l.all (fun o => plainOp o.op) = true) (hQ : ¬ LetsOut Q)
  (h : wpAny P .any l.toArray Q l.toArray.size (Array.replicate l.toArray.size false) a w.drew) : (Code.region id l.toArray true).wpIn F n P Q a w :=
 wpIn_region_any hm (anyIn_of_any (plain_all hpl) hQ _ _ _ _ h)
end Go.Proofs.YtghpfnhmlpfgcaaGreat
