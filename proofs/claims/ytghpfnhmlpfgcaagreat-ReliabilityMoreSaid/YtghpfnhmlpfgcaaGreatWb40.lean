import Derived.Test.YtghpfnhmlpfgcaaGreatWb25
import Derived.Test.YtghpfnhmlpfgcaaGreatWb33
import Derived.Test.YtghpfnhmlpfgcaaGreatWb26
set_option linter.all false
namespace Go.Proofs.YtghpfnhmlpfgcaaGreat
structure Mn where
 p : Value → World → Prop
 mono : ∀ {v : Value} {w w' : World}, Ext w w' → p v w → p v w'
def Mn.any : Mn := ⟨fun _ _ => True, fun _ _ => trivial⟩
def Mn.eq (x : Value) : Mn := ⟨fun v _ => v = x, fun _ h => h⟩
def putAll : List (Option Tmp) → List Bool → (Nat → Value) → Nat → Act → Act
 | d :: ds, b :: bs, vals, i, a => putAll ds bs vals (i + 1) (if b = true then a.put d (vals i) else a)
 | _, _, _, _, a => a
def nodupB : List (Option Tmp) → Bool
 | [] => true
 | none :: l => nodupB l
 | some t :: l => !l.contains (some t) && nodupB l
def updV (vals : Nat → Value) (i : Nat) (v : Value) (j : Nat) : Value := if j = i then v else vals j
theorem put_comm (a : Act) (d d' : Option Tmp) (v v' : Value) (h : ∀ t, d = some t → d' ≠ some t) : (a.put d v).put d' v' = (a.put d' v').put d v := by
 cases d with
 | none => rfl
 | some t =>
  cases d' with
  | none => rfl
  | some t' =>
   have hne : t ≠ t' := fun e => h t rfl (by rw [e])
   show ({ a with tmps := _ } : Act) = { a with tmps := _ }
   congr 1
   exact Array.setIfInBounds_comm _ _ hne
theorem put_size (a : Act) (d : Option Tmp) (v : Value) : (a.put d v).tmps.size = a.tmps.size := by
 cases d with
 | none => rfl
 | some t => simp [Act.put]
theorem put_other (a : Act) (d : Option Tmp) (v : Value) {t : Nat} (h : d ≠ some t) : (a.put d v).tmps[t]? = a.tmps[t]? := by
 cases d with
 | none => rfl
 | some t' =>
  have hne : t' ≠ t := fun e => h (by rw [e])
  simp [Act.put, Array.getElem?_setIfInBounds, hne]
theorem putAll_put {d : Option Tmp} {v : Value} : ∀ (ds : List (Option Tmp)) (bs : List Bool) (vals : Nat → Value) (k : Nat) (a : Act), (∀ t, d = some t → ds.contains (some t) = false) → putAll ds bs vals k (a.put d v) = (putAll ds bs vals k a).put d v
 | [], _, _, _, _, _ => by unfold putAll; rfl
 | _ :: _, [], _, _, _, _ => rfl
 | d0 :: ds, b :: bs, vals, k, a, h => by
  have h1 : ∀ t, d = some t → d0 ≠ some t ∧ ds.contains (some t) = false := fun t ht => by
   have := h t ht
   simp only [List.contains_cons, Bool.or_eq_false_iff, beq_eq_false_iff_ne] at this
   exact ⟨fun e => this.1 e.symm, this.2⟩
  show putAll ds bs vals (k + 1) (if b = true then (a.put d v).put d0 (vals k) else a.put d v) = _
  show _ = (putAll ds bs vals (k + 1) (if b = true then a.put d0 (vals k) else a)).put d v
  rw [← putAll_put ds bs vals (k + 1) _ (fun t ht => (h1 t ht).2)]
  cases b with
  | false => rfl
  | true =>
   simp only [if_true]
   rw [put_comm a d d0 v (vals k) (fun t ht => (h1 t ht).1)]
theorem putAll_congr {vals vals' : Nat → Value} : ∀ (ds : List (Option Tmp)) (bs : List Bool) (k : Nat) (a : Act), (∀ j, k ≤ j → vals j = vals' j) → putAll ds bs vals k a = putAll ds bs vals' k a
 | [], _, _, _, _ => by unfold putAll; rfl
 | _ :: _, [], _, _, _ => rfl
 | d0 :: ds, b :: bs, k, a, h => by
  show putAll ds bs vals (k + 1) (if b = true then a.put d0 (vals k) else a) = putAll ds bs vals' (k + 1) (if b = true then a.put d0 (vals' k) else a)
  rw [h k (Nat.le_refl _)]
  exact putAll_congr ds bs (k + 1) _ (fun j hj => h j (by omega))
theorem nodup_tail {d : Option Tmp} {ds : List (Option Tmp)} (h : nodupB (d :: ds) = true) : nodupB ds = true ∧ ∀ t, d = some t → ds.contains (some t) = false := by
 cases d with
 | none => exact ⟨h, fun t ht => by cases ht⟩
 | some t0 =>
  unfold nodupB at h
  rw [Bool.and_eq_true] at h
  exact ⟨h.2, fun t ht => by injection ht with ht; subst ht; simpa using h.1⟩
theorem putAll_set {d : Option Tmp} {v : Value} : ∀ (ds : List (Option Tmp)) (bs : List Bool) (vals : Nat → Value) (k i : Nat) (a : Act), nodupB ds = true → bs[i]? = some false → ds[i]? = some d → putAll ds (bs.set i true) (updV vals (k + i) v) k a = (putAll ds bs vals k a).put d v
 | [], _, _, _, _, _, _, _, hd => by simp at hd
 | _ :: _, [], _, _, _, _, _, hb, _ => by simp at hb
 | d0 :: ds, b :: bs, vals, k, 0, a, hn, hb, hd => by
  simp only [List.getElem?_cons_zero, Option.some.injEq] at hb hd
  subst hb hd
  have hn' := nodup_tail hn
  show putAll ds bs (updV vals (k + 0) v) (k + 1) (a.put d0 (updV vals (k + 0) v k)) = (putAll ds bs vals (k + 1) a).put d0 v
  rw [putAll_put _ _ _ _ _ hn'.2]
  have h1 : updV vals (k + 0) v k = v := by simp [updV]
  rw [h1, putAll_congr (vals' := vals) ds bs (k + 1) a (fun j hj => by unfold updV; rw [if_neg (by omega)])]
 | d0 :: ds, b :: bs, vals, k, i + 1, a, hn, hb, hd => by
  have hn' := nodup_tail hn
  simp only [List.getElem?_cons_succ] at hb hd
  show putAll ds (bs.set i true) (updV vals (k + (i + 1)) v) (k + 1) (if b = true then a.put d0 (updV vals (k + (i + 1)) v k) else a) = (putAll ds bs vals (k + 1) (if b = true then a.put d0 (vals k) else a)).put d v
  have h1 : updV vals (k + (i + 1)) v k = vals k := by unfold updV; rw [if_neg (by omega)]
  have h2 : k + (i + 1) = k + 1 + i := by omega
  rw [h1, h2]
  exact putAll_set ds bs vals (k + 1) i _ hn'.1 hb hd
theorem putAll_old {t : Nat} : ∀ (ds : List (Option Tmp)) (bs : List Bool) (vals : Nat → Value) (k : Nat) (a : Act), ds.contains (some t) = false → (putAll ds bs vals k a).tmps[t]? = a.tmps[t]?
 | [], _, _, _, _, _ => by unfold putAll; rfl
 | _ :: _, [], _, _, _, _ => rfl
 | d0 :: ds, b :: bs, vals, k, a, h => by
  simp only [List.contains_cons, Bool.or_eq_false_iff, beq_eq_false_iff_ne] at h
  show (putAll ds bs vals (k + 1) (if b = true then a.put d0 (vals k) else a)).tmps[t]? = _
  rw [putAll_old ds bs vals (k + 1) _ h.2]
  cases b with
  | false => rfl
  | true => exact put_other a d0 _ (fun e => h.1 e.symm)
theorem putAll_new {t : Nat} : ∀ (ds : List (Option Tmp)) (bs : List Bool) (vals : Nat → Value) (k i : Nat) (a : Act), nodupB ds = true → bs[i]? = some true → ds[i]? = some (some t) → t < a.tmps.size → (putAll ds bs vals k a).tmps[t]? = some (vals (k + i))
 | [], _, _, _, _, _, _, _, hd, _ => by simp at hd
 | _ :: _, [], _, _, _, _, _, hb, _, _ => by simp at hb
 | d0 :: ds, b :: bs, vals, k, 0, a, hn, hb, hd, ht => by
  simp only [List.getElem?_cons_zero, Option.some.injEq] at hb hd
  subst hb hd
  have hn' := nodup_tail hn
  show (putAll ds bs vals (k + 1) (a.put (some t) (vals k))).tmps[t]? = _
  rw [putAll_old ds bs vals (k + 1) _ (hn'.2 t rfl)]
  simp [Act.put, ht]
 | d0 :: ds, b :: bs, vals, k, i + 1, a, hn, hb, hd, ht => by
  have hn' := nodup_tail hn
  simp only [List.getElem?_cons_succ] at hb hd
  show (putAll ds bs vals (k + 1) (if b = true then a.put d0 (vals k) else a)).tmps[t]? = _
  have h2 : k + (i + 1) = k + 1 + i := by omega
  rw [h2]
  refine putAll_new ds bs vals (k + 1) i _ hn'.1 hb hd ?_
  split
  ·rw [put_size]; exact ht
  ·exact ht
section
variable {P : Program} {ops : Array Oper} {Q : Exit → Act → World → Prop} {late : List Nat}
theorem anyL_more {S : World → Prop} : ∀ (f : Nat) (listed : Array Bool) (a : Act) (w : World), anyL P ops Q S late f listed a w → anyL P ops Q S late (f + 1) listed a w
 | 0, _, _, _, h => ⟨fun _ => h.2, fun i hi => by rw [h.1] at hi; cases hi⟩
 | f + 1, _, _, _, h => ⟨h.1, fun i hi => wpOp_mono (fun a' w' h' => ⟨h'.1, anyL_more f _ a' w' h'.2⟩) (h.2 i hi)⟩
theorem anyL_ge {S : World → Prop} {f g : Nat} (hfg : f ≤ g) {listed : Array Bool} {a : Act} {w : World} (h : anyL P ops Q S late f listed a w) : anyL P ops Q S late g listed a w := by
 induction hfg with
 | refl => exact h
 | step _ ih => exact anyL_more _ _ _ _ ih
def cnt (listed : Array Bool) : Nat → Nat
 | 0 => 0
 | n + 1 => cnt listed n + if listed.getD n false = true then 0 else 1
theorem cnt_set {listed : Array Bool} {i : Nat} (hi : i < listed.size) (hf : listed.getD i false = false) : ∀ n, cnt (listed.setIfInBounds i true) n + (if i < n then 1 else 0) = cnt listed n
 | 0 => by simp [cnt]
 | n + 1 => by
  have ih := cnt_set hi hf n
  unfold cnt
  by_cases h : i = n
  ·subst h
   have h1 : (listed.setIfInBounds i true).getD i false = true := by simp [hi]
   rw [h1, hf, if_pos rfl, if_pos (Nat.lt_succ_self i), if_neg (by decide)]
   rw [if_neg (Nat.lt_irrefl i)] at ih
   omega
  ·rw [Go.getD_set_ne false h]
   have h2 : (if i < n + 1 then 1 else 0) = if i < n then 1 else 0 := by
    by_cases h3 : i < n
    ·rw [if_pos h3, if_pos (by omega)]
    ·rw [if_neg h3, if_neg (by omega)]
   rw [h2]
   omega
def lowB (ops : Array Oper) : Bool := (List.range ops.size).all fun i => (preds ops i).all fun j => decide (j < i)
def lateB (ops : Array Oper) (late : List Nat) : Bool := (List.range ops.size).all fun i => late.contains i || waitsB ops late i
def fitsB (ds : List (Option Tmp)) (n : Nat) : Bool := ds.all fun d => match d with | some t => decide (t < n) | none => true
def lastB (ops : Array Oper) (late : List Nat) : List Bool := (List.range ops.size).map fun i => !late.contains i
def Stp (P : Program) (ops : Array Oper) (Q : Exit → Act → World → Prop) (Js : List Mn) (ds : List (Option Tmp)) (a0 : Act) (W : World) (i : Nat) : Prop :=
 ∀ o, ops.toList[i]? = some o → ∀ a w, Ext W w → (∀ t, ds.contains (some t) = false → a.tmps[t]? = a0.tmps[t]?) →
  (∀ j, (preds ops i).contains j = true → ∀ t, ds[j]? = some (some t) → ∃ v, a.tmps[t]? = some v ∧ (Js[j]?.getD Mn.any).p v w) →
  ∀ K : Act → World → Prop, Shut (∀ v w', Ext w w' → (Js[i]?.getD Mn.any).p v w' → K (a.put o.dst v) w') → if Region.wanted o (yielded ops a.tmps) = true then Oper.wp P o a w K Q else K (a.put o.dst undef) w
theorem stp {Js : List Mn} {ds : List (Option Tmp)} {a0 : Act} {W : World} {i : Nat} {o : Oper} (hi : ops.toList[i]? = some o)
  (h : ∀ a w, Ext W w → (∀ t, ds.contains (some t) = false → a.tmps[t]? = a0.tmps[t]?) →
   (∀ j, (preds ops i).contains j = true → ∀ t, ds[j]? = some (some t) → ∃ v, a.tmps[t]? = some v ∧ (Js[j]?.getD Mn.any).p v w) →
   ∀ K : Act → World → Prop, Shut (∀ v w', Ext w w' → (Js[i]?.getD Mn.any).p v w' → K (a.put o.dst v) w') → if Region.wanted o (yielded ops a.tmps) = true then Oper.wp P o a w K Q else K (a.put o.dst undef) w) : Stp P ops Q Js ds a0 W i := by
 intro o' ho'
 rw [hi] at ho'
 cases ho'
 exact h
theorem ready_low (hlow : lowB ops = true) {listed : Array Bool} (hsz : listed.size = ops.size) : ∀ n, n ≤ ops.size → (∀ i, i < n → listed.getD i false = true) → (∃ i, i < ops.size ∧ listed.getD i false = false) → ∃ i, i ∈ Region.ready .any ops listed := by
 intro n hn hall hex
 induction h : ops.size - n generalizing n with
 | zero =>
  obtain ⟨i, hi, hf⟩ := hex
  rw [hall i (by omega)] at hf; cases hf
 | succ k ih =>
  cases hl : listed.getD n false with
  | true => exact ih (n + 1) (by omega) (fun i hi => by
    by_cases e : i = n
    ·rw [e]; exact hl
    ·exact hall i (by omega)) (by omega)
  | false =>
   refine ⟨n, mem_ready.2 ⟨?_, ?_⟩⟩
   ·have : n < listed.size := by omega
    simp [this] at hl ⊢; exact hl
   ·have hlt : n < ops.size := by omega
    refine ⟨ops[n], by simp [hlt], fun e he hb => ?_⟩
    have h1 := List.all_eq_true.1 (List.all_eq_true.1 hlow n (by simpa using hlt)) e.on (by
     unfold preds
     rw [Array.getElem?_eq_getElem hlt]
     simp only [List.mem_map, List.mem_filter]
     exact ⟨e, ⟨by simpa using he, hb⟩, rfl⟩)
    exact hall e.on (by simpa using h1)
theorem inv_go {Js : List Mn} {ds : List (Option Tmp)} {a0 : Act} {W : World} (hd : ops.toList.map (·.dst) = ds) (hnd : nodupB ds = true) (hsz : fitsB ds a0.tmps.size = true) (hlow : lowB ops = true) (hlate : lateB ops late = true)
  (hstep : ∀ i, i < ops.size → late.contains i = false → Stp P ops Q Js ds a0 W i) {k : Nat} (hk : cnt (lastB ops late).toArray ops.size = k)
  (hdone : ∀ vals w, Ext W w → (∀ j, j < ops.size → late.contains j = false → (Js[j]?.getD Mn.any).p (vals j) w) → stepL P ops Q (fun _ => True) late k (lastB ops late).toArray (putAll ds (lastB ops late) vals 0 a0) w) :
  ∀ (fuel : Nat) (listed : Array Bool) (vals : Nat → Value) (w : World), listed.size = ops.size → Closed ops listed → (∀ t, late.contains t = true → t < ops.size → listed.getD t false = false) → cnt listed ops.size ≤ fuel → Ext W w →
   (∀ j, listed.getD j false = true → (Js[j]?.getD Mn.any).p (vals j) w) → anyL P ops Q (fun _ => True) late fuel listed (putAll ds listed.toList vals 0 a0) w := by
 intro fuel
 induction fuel with
 | zero =>
  intro listed vals w h1 h2 h3 h4 h5 h6
  by_cases hall : ∀ i, i < ops.size → late.contains i = false → listed.getD i false = true
  ·have hL : listed = (lastB ops late).toArray := by
    apply Array.ext
    ·simp [lastB, h1]
    ·intro i hi _
     have hio : i < ops.size := by omega
     have e1 : listed[i] = listed.getD i false := by simp [hi]
     rw [e1]
     simp only [lastB, List.getElem_toArray, List.getElem_map, List.getElem_range]
     cases hc : late.contains i with
     | false => exact hall i hio hc
     | true => exact h3 i hc hio
   subst hL
   have := hdone vals w h5 (fun j hj hc => h6 j (hall j hj hc)) h2
   rw [hk] at h4
   exact anyL_ge h4 this
  ·exfalso
   apply hall
   intro i hi _
   have hz : ∀ n, n ≤ ops.size → cnt listed n = 0 → ∀ i, i < n → listed.getD i false = true := by
    intro n
    induction n with
    | zero => intro _ _ i hi; omega
    | succ n ih =>
     intro hn hc i hi
     unfold cnt at hc
     by_cases e : i = n
     ·subst e
      by_cases hg : listed.getD i false = true
      ·exact hg
      ·rw [if_neg hg] at hc; omega
     ·exact ih (by omega) (by omega) i (by omega)
   exact hz ops.size (Nat.le_refl _) (by omega) i hi
 | succ fuel ih =>
  intro listed vals w h1 h2 h3 h4 h5 h6
  by_cases hall : ∀ i, i < ops.size → late.contains i = false → listed.getD i false = true
  ·have hL : listed = (lastB ops late).toArray := by
    apply Array.ext
    ·simp [lastB, h1]
    ·intro i hi _
     have hio : i < ops.size := by omega
     have e1 : listed[i] = listed.getD i false := by simp [hi]
     rw [e1]
     simp only [lastB, List.getElem_toArray, List.getElem_map, List.getElem_range]
     cases hc : late.contains i with
     | false => exact hall i hio hc
     | true => exact h3 i hc hio
   subst hL
   have := hdone vals w h5 (fun j hj hc => h6 j (hall j hj hc)) h2
   rw [hk] at h4
   exact anyL_ge h4 this
  ·have hex : ∃ i, i < ops.size ∧ late.contains i = false ∧ listed.getD i false = false := by
    apply Classical.byContradiction
    intro hno
    apply hall
    intro i hi hc
    cases hl : listed.getD i false with
    | true => rfl
    | false => exact absurd ⟨i, hi, hc, hl⟩ hno
   obtain ⟨u, hu, huc, hul⟩ := hex
   have hne := ready_low hlow h1 0 (Nat.zero_le _) (fun i hi => by omega) ⟨u, hu, hul⟩
   refine ⟨fun h0 => ?_, fun i hi => ?_⟩
   ·obtain ⟨i, hi⟩ := hne; rw [h0] at hi; cases hi
   ·have hun := ready_not hi
    obtain ⟨hun2, o, ho, -⟩ := mem_ready.1 hi
    have hio : i < ops.size := (Array.getElem?_eq_some_iff.1 ho).1
    have hic : late.contains i = false := by
     cases hc : late.contains i with
     | false => rfl
     | true =>
      have hw := List.all_eq_true.1 hlate u (by simpa using hu)
      rw [huc, Bool.false_or] at hw
      have := late_listed hw h2 hi hc
      rw [hul] at this; cases this
    have ho' : ops.toList[i]? = some o := by rw [Array.getElem?_toList]; exact ho
    have hdi : ds[i]? = some o.dst := by rw [← hd, List.getElem?_map, ho']; rfl
    have hbi : listed.toList[i]? = some false := by
     rw [Array.getElem?_toList]
     have : i < listed.size := by omega
     simp [this] at hun ⊢; exact hun
    refine wpOp_step ho (fun K' hK => ?_)
    refine hstep i hio hic o ho' _ w h5 (fun t ht => putAll_old ds _ vals 0 a0 ht) (fun j hj t ht => ?_) K' (fun v w' e hJ => hK _ _ ⟨fun _ _ => trivial, ?_⟩)
    ·have hjl := preds_ready hi j (by simpa using hj)
     refine ⟨vals j, ?_, h6 j hjl⟩
     have hjs : j < listed.size := by
      rcases Nat.lt_or_ge j listed.size with h | h
      ·exact h
      ·simp [Array.getElem?_eq_none h] at hjl
     have := putAll_new ds listed.toList vals 0 j a0 hnd (by rw [Array.getElem?_toList]; simp [hjs] at hjl ⊢; exact hjl) ht (by
      have := List.all_eq_true.1 hsz (some t) (List.mem_of_getElem? ht)
      simpa using this)
     rw [Nat.zero_add] at this
     exact this
    ·have hc := cnt_set (by omega : i < listed.size) hun ops.size
     rw [if_pos hio] at hc
     have hps := putAll_set (v := v) ds listed.toList vals 0 i a0 hnd hbi hdi
     rw [Nat.zero_add] at hps
     rw [← hps, ← Array.toList_setIfInBounds]
     refine ih (listed.setIfInBounds i true) (updV vals i v) w' (by simpa using h1) (h2.set hi) (fun t htl htn => ?_) (by omega) (h5.trans e) (fun j hj => ?_)
     ·rw [Go.getD_set_ne false (fun e => by subst e; rw [hic] at htl; cases htl)]
      exact h3 t htl htn
     ·by_cases hji : i = j
      ·subst hji
       have : updV vals i v i = v := by simp [updV]
       rw [this]; exact hJ
      ·rw [Go.getD_set_ne false hji] at hj
       have : updV vals i v j = vals j := by unfold updV; rw [if_neg (fun e => hji e.symm)]
       rw [this]
       exact (Js[j]?.getD Mn.any).mono e (h6 j hj)
theorem region_inv (Js : List Mn) (ds : List (Option Tmp)) (late : List Nat) (bs : List Bool) (k : Nat) {id : Nat} {a0 : Act} {W : World} (hm : P.follows .mixedOrders = true) (hd : ops.toList.map (·.dst) = ds) (hnd : nodupB ds = true) (hsz : fitsB ds a0.tmps.size = true) (hlow : lowB ops = true) (hlate : lateB ops late = true)
  (hb : lastB ops late = bs) (hk : cnt bs.toArray ops.size = k) (hstep : ∀ i, i < ops.size → late.contains i = false → Stp P ops Q Js ds a0 W i)
  (hdone : ∀ vals w, Ext W w → (∀ j, j < ops.size → late.contains j = false → (Js[j]?.getD Mn.any).p (vals j) w) → stepL P ops Q (fun _ => True) late k bs.toArray (putAll ds bs vals 0 a0) w) :
  (Code.region id ops true).wp P Q a0 W := by
 subst hb
 have h0 : ∀ n, putAll ds (Array.replicate n false).toList (fun _ => undef) 0 a0 = a0 := by
  intro n
  simp only [Array.toList_replicate]
  have : ∀ (ds : List (Option Tmp)) (n k : Nat), putAll ds (List.replicate n false) (fun _ => undef) k a0 = a0 := by
   intro ds
   induction ds with
   | nil => intro n k; unfold putAll; rfl
   | cons d ds ih =>
    intro n k
    cases n with
    | zero => rfl
    | succ n => exact ih n (k + 1)
  exact this ds n 0
 have hc0 : ∀ (n : Nat) (l : Array Bool), cnt l n ≤ n := by
  intro n l
  induction n with
  | zero => exact Nat.le_refl _
  | succ n ih => unfold cnt; split <;> omega
 have hf0 : ∀ j, (Array.replicate ops.size false).getD j false = false := fun j => by
  rw [Array.getD_eq_getD_getElem?, Array.getElem?_replicate]; split <;> rfl
 have := inv_go (P := P) (Q := Q) (late := late) hd hnd hsz hlow hlate hstep hk hdone ops.size (Array.replicate ops.size false) (fun _ => undef) W.drew (by simp) (Closed.start _) (fun t _ _ => hf0 t) (hc0 _ _) (Ext.refl W).drew (fun j hj => by rw [hf0 j] at hj; cases hj)
 rw [h0] at this
 exact wp_region_any hm (any_of_anyL _ _ _ _ this)
end
end Go.Proofs.YtghpfnhmlpfgcaaGreat
namespace Go.Proofs.YtghpfnhmlpfgcaaGreat
open Go.RowKit
def Mn.rat (N : Nat) (q : Rat) : Mn := ⟨fun v w => RatV N w v q, fun e h => h.ext e⟩
def Mn.ls (N n : Nat) (x : Nat → Rat) : Mn := ⟨fun v w => LsV N 0 w.heap.size w v n x, fun e h => LsR.wide (h.ext e) (Nat.le_refl _) e.size (Nat.le_refl _)⟩
def Mn.mt (N m n : Nat) (X : Nat → Nat → Rat) : Mn := ⟨fun v w => MtV N 0 w.heap.size w v m n X, fun e h => MtR.wide (h.ext e) (Nat.le_refl _) e.size (Nat.le_refl _)⟩
def Mn.lin (N m n : Nat) (X : Nat → Nat → Rat) (y p : Nat → Rat) : Mn := ⟨fun v w => ∃ v1 v2 v3, v = .agg #[v1, v2, v3] ∧ MtV N 0 w.heap.size w v1 m n X ∧ LsV N 0 w.heap.size w v2 m y ∧ LsV N 0 w.heap.size w v3 m p,
 fun e h => by
  obtain ⟨v1, v2, v3, h0, h1, h2, h3⟩ := h
  exact ⟨v1, v2, v3, h0, MtR.wide (h1.ext e) (Nat.le_refl _) e.size (Nat.le_refl _), LsR.wide (h2.ext e) (Nat.le_refl _) e.size (Nat.le_refl _), LsR.wide (h3.ext e) (Nat.le_refl _) e.size (Nat.le_refl _)⟩⟩
def Mn.blk (lo : Nat) (o : Obj) : Mn := ⟨fun v w => ∃ g, v = .pointer (some ⟨g, 0, none⟩) ∧ lo ≤ g ∧ w.heap[g]? = some o, fun e h => by
  obtain ⟨g, h0, h1, h2⟩ := h
  exact ⟨g, h0, h1, e.block h2⟩⟩
theorem one_rat {N : Nat} {w : World} {g : Nat} {b : Bool} {s t : Value} {q : Rat} (hN : N ≤ w.heap.size) (h : w.heap[g]? = some (.cells #[.bool b, s, .bool false, t] 37 (0, 0))) (hb : Hid (b = decide (q.num < 0))) (h1 : Gs N w s (dg q.num.natAbs)) (h2 : Gs N w t (dg q.den)) :
  LsV N 0 w.heap.size w (.slice (some ⟨g, 0, none⟩) 1 1) 1 (fun _ => q) := by
 refine ⟨hN, Nat.le_refl _, _, 1, rfl, Nat.le_refl _, by unfold maxLen; omega, fun _ => ⟨g, 0, rfl, Nat.zero_le _, blk_lt h, fun i hi => ?_⟩⟩
 obtain rfl : i = 0 := by omega
 refine ⟨s, t, ?_, cell_blk h 1, cell_blk h 2, cell_blk h 3, h1, h2⟩
 show w.cell? ⟨g, 0, none⟩ = some (.bool (decide (q.num < 0)))
 rw [← hb.out]; exact cell_blk h 0
theorem two_rats {N : Nat} {w : World} {g : Nat} {b b' : Bool} {s t s' t' : Value} {q q' : Rat} (hN : N ≤ w.heap.size) (h : w.heap[g]? = some (.cells #[.bool b, s, .bool false, t, .bool b', s', .bool false, t'] 37 (0, 0)))
  (hb : Hid (b = decide (q.num < 0))) (h1 : Gs N w s (dg q.num.natAbs)) (h2 : Gs N w t (dg q.den)) (hb' : Hid (b' = decide (q'.num < 0))) (h1' : Gs N w s' (dg q'.num.natAbs)) (h2' : Gs N w t' (dg q'.den)) :
  LsV N 0 w.heap.size w (.slice (some ⟨g, 0, none⟩) 2 2) 2 (fun i => if i = 0 then q else q') := by
 refine ⟨hN, Nat.le_refl _, _, 2, rfl, Nat.le_refl _, by unfold maxLen; omega, fun _ => ⟨g, 0, rfl, Nat.zero_le _, blk_lt h, fun i hi => ?_⟩⟩
 have hi' : i = 0 ∨ i = 1 := by omega
 rcases hi' with rfl | rfl
 ·refine ⟨s, t, ?_, cell_blk h 1, cell_blk h 2, cell_blk h 3, h1, h2⟩
  show w.cell? ⟨g, 0, none⟩ = some (.bool (decide (q.num < 0)))
  rw [← hb.out]; exact cell_blk h 0
 ·refine ⟨s', t', ?_, cell_blk h 5, cell_blk h 6, cell_blk h 7, h1', h2'⟩
  show w.cell? ⟨g, 4, none⟩ = some (.bool (decide (q'.num < 0)))
  rw [← hb'.out]; exact cell_blk h 4
theorem two_lists {N n : Nat} {w : World} {g : Nat} {s t : Value} {x y : Nat → Rat} (h : w.heap[g]? = some (.cells #[s, t] 24 (0, 0))) (h1 : LsV N 0 w.heap.size w s n x) (h2 : LsV N 0 w.heap.size w t n y) :
  MtV N 0 w.heap.size w (.slice (some ⟨g, 0, none⟩) 2 2) 2 n (fun i => if i = 0 then x else y) := by
 refine MtR.congr (two_rows h1 h2 h) (fun i _ => by simp) (fun i hi j hj => ?_)
 have hi' : i = 0 ∨ i = 1 := by omega
 rcases hi' with rfl | rfl <;> rfl
theorem LsR.upd0 {N lo hi g : Nat} {w w' : World} {v : Value} {n : Nat} {R : Nat → Raw} (h : LsR N lo hi w v n R) (U : Upd g w w') (hg : N ≤ g) (hT : NoU w g) (hc : ∀ o b, w.cell? ⟨g, o, none⟩ ≠ some (.bool b)) : LsR N lo hi w' v n R := by
 have hC := U.chg hT
 obtain ⟨h1, h2, A, c, hv, h3, h4, h5⟩ := h
 refine ⟨Nat.le_trans h1 hC.size, Nat.le_trans h2 hC.size, A, c, hv, h3, h4, fun h0 => ?_⟩
 obtain ⟨b, off, hA, hl, hh, hx⟩ := h5 h0
 refine ⟨b, off, hA, hl, hh, fun i hi => ?_⟩
 have hne : b ≠ g := by
  rintro rfl
  obtain ⟨s, t, k0, -⟩ := hx i hi
  exact hc _ _ k0
 exact (hx i hi).chg hC hg (by omega)
theorem MtR.upd0 {N lo hi g : Nat} {w w' : World} {v : Value} {m : Nat} {L : Nat → Nat} {R : Nat → Nat → Raw} (h : MtR N lo hi w v m L R) (U : Upd g w w') (hg : N ≤ g) (hT : NoU w g) (hc : ∀ o b, w.cell? ⟨g, o, none⟩ ≠ some (.bool b)) (hc2 : ∀ o A k c, 0 < k → w.cell? ⟨g, o, none⟩ ≠ some (.slice A k c)) (hL : ∀ i, i < m → 0 < L i) : MtR N lo hi w' v m L R := by
 have hC := U.chg hT
 obtain ⟨h1, h2, A, c, hv, h3, h4, h5⟩ := h
 refine ⟨Nat.le_trans h1 hC.size, Nat.le_trans h2 hC.size, A, c, hv, h3, h4, fun h0 => ?_⟩
 obtain ⟨b, off, hA, hl, hh, hx⟩ := h5 h0
 refine ⟨b, off, hA, hl, hh, fun i hi => ?_⟩
 obtain ⟨u, k0, k1⟩ := hx i hi
 have hne : b ≠ g := by
  rintro rfl
  obtain ⟨A', c', rfl, -⟩ := k1.form
  exact hc2 _ _ _ _ (hL i hi) k0
 exact ⟨u, hC.cell k0 (by show b < g ∨ g + 1 ≤ b; omega), k1.upd0 U hg hT hc⟩
def Mn.at4 (N : Nat) (q : Rat) : Mn := ⟨fun v w => ∃ b o, v = .pointer (some ⟨b, o, none⟩) ∧ At4 N w b o (raw q), fun e h => by
  obtain ⟨b, o, h0, h1⟩ := h
  exact ⟨b, o, h0, h1.ext e⟩⟩
end Go.Proofs.YtghpfnhmlpfgcaaGreat
