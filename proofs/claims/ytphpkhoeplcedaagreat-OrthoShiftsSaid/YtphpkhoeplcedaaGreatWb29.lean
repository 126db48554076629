import Derived.Test.YtphpkhoeplcedaaGreatWb28
set_option linter.all false
set_option maxHeartbeats 8000000
namespace Go.Proofs.YtphpkhoeplcedaaGreat
open Go.RowKit
section
variable {P:Program} {ops:Array Oper} {Q:Exit→Act→World→Prop} {late:List Nat}
def lateS (ops:Array Oper) (late soft:List Nat):Bool:=(List.range ops.size).all fun i=>late.contains i || soft.contains i || waitsB ops late i
def apartB (ops:Array Oper) (i:Nat):Bool :=
 match ops[i]? with
 | some oi=>(List.range ops.size).all fun j=>j == i || (preds ops j).contains i || (sweep ops i (preds ops i)).contains j || (match ops[j]? with | some oj=>oi.apart ops oj | none=>true)
 | none=>false
def softB (ops:Array Oper) (late soft:List Nat):Bool:=soft.all fun i=>decide (i < ops.size) && !late.contains i && apartB ops i && (preds ops i).all fun j=>waitsB ops late j
def Sft (P:Program) (ops:Array Oper) (Q:Exit→Act→World→Prop) (Js:List Mn) (ds:List (Option Tmp)) (a0:Act) (W:World) (i:Nat):Prop :=
 ∀ o,ops.toList[i]?=some o→(∀ c a v w,Q (.panic c) (Act.put a o.dst v) w→Q (.panic c) a w)∧∀ a w,Ext W w→(∀ t,ds.contains (some t)=false→a.tmps[t]?=a0.tmps[t]?) →
  (∀ j,(preds ops i).contains j=true→∀ t,ds[j]?=some (some t)→∃ v,a.tmps[t]?=some v∧(Js[j]?.getD Mn.any).p v w) →
  ∃ v,YieldsIf P ops (fun _=>True) o v a∧(Js[i]?.getD Mn.any).p v w
theorem sft {Js:List Mn} {ds:List (Option Tmp)} {a0:Act} {W:World} {i:Nat} {o:Oper} (hi:ops.toList[i]?=some o) (hQ:∀ c a v w,Q (.panic c) (Act.put a o.dst v) w→Q (.panic c) a w)
  (h:∀ a w,Ext W w→(∀ t,ds.contains (some t)=false→a.tmps[t]?=a0.tmps[t]?) →
   (∀ j,(preds ops i).contains j=true→∀ t,ds[j]?=some (some t)→∃ v,a.tmps[t]?=some v∧(Js[j]?.getD Mn.any).p v w) →
   ∃ v,YieldsIf P ops (fun _=>True) o v a∧(Js[i]?.getD Mn.any).p v w):Sft P ops Q Js ds a0 W i:=by
 intro o' ho';rw [hi] at ho';cases ho'
 exact⟨hQ,h⟩
theorem inv_goS {soft:List Nat} {Js:List Mn} {ds:List (Option Tmp)} {a0:Act} {W:World} (hd:ops.toList.map (·.dst)=ds) (hnd:nodupB ds=true) (hsz:fitsB ds a0.tmps.size=true) (hlow:lowB ops=true) (hlate:lateS ops late soft=true) (hsoft:softB ops late soft=true) (hns:Region.noSelect ops=true)
  (hstep:∀ i,i < ops.size→late.contains i=false→soft.contains i=false→Stp P ops Q late Js ds a0 W i) (hsft:∀ i,soft.contains i=true→Sft P ops Q Js ds a0 W i) {k:Nat} (hk:cnt (lastB ops late).toArray ops.size=k)
  (hdone:∀ vals w,Ext W w→(∀ j,j < ops.size→late.contains j=false→(Js[j]?.getD Mn.any).p (vals j) w)→stepL P ops Q (fun _=>True) late k (lastB ops late).toArray (putAll ds (lastB ops late) vals 0 a0) w) :
  ∀ (fuel:Nat) (listed:Array Bool) (vals:Nat→Value) (w:World),listed.size=ops.size→Closed ops listed→(∀ t,late.contains t=true→t < ops.size→listed.getD t false=false)→cnt listed ops.size≤fuel→Ext W w →
   (∀ j,listed.getD j false=true→(Js[j]?.getD Mn.any).p (vals j) w)→anyL P ops Q (fun _=>True) late fuel listed (putAll ds listed.toList vals 0 a0) w:=by
 intro fuel
 induction fuel with
 | zero =>
  intro listed vals w h1 h2 h3 h4 h5 h6
  by_cases hall:∀ i,i < ops.size→late.contains i=false→listed.getD i false=true
  ·have hL:listed=(lastB ops late).toArray:=by
    apply Array.ext
    ·simp [lastB,h1]
    ·intro i hi _;have hio:i < ops.size:=by omega
     have e1:listed[i]=listed.getD i false:=by simp [hi]
     rw [e1];simp only [lastB,List.getElem_toArray,List.getElem_map,List.getElem_range];cases hc:late.contains i with
     | false=>exact hall i hio hc
     | true=>exact h3 i hc hio
   subst hL;have:=hdone vals w h5 (fun j hj hc=>h6 j (hall j hj hc)) h2;rw [hk] at h4;exact anyL_ge h4 this
  ·exfalso
   apply hall
   intro i hi _
   have hz:∀ n,n≤ops.size→cnt listed n=0→∀ i,i < n→listed.getD i false=true:=by
    intro n
    induction n with
    | zero=>intro _ _ i hi; omega
    | succ n ih =>
     intro hn hc i hi;unfold cnt at hc
     by_cases e:i=n
     ·subst e
      by_cases hg:listed.getD i false=true
      ·exact hg
      ·rw [if_neg hg] at hc; omega
     ·exact ih (by omega) (by omega) i (by omega)
   exact hz ops.size (Nat.le_refl _) (by omega) i hi
 | succ fuel ih =>
  intro listed vals w h1 h2 h3 h4 h5 h6
  by_cases hall:∀ i,i < ops.size→late.contains i=false→listed.getD i false=true
  ·have hL:listed=(lastB ops late).toArray:=by
    apply Array.ext
    ·simp [lastB,h1]
    ·intro i hi _;have hio:i < ops.size:=by omega
     have e1:listed[i]=listed.getD i false:=by simp [hi]
     rw [e1];simp only [lastB,List.getElem_toArray,List.getElem_map,List.getElem_range];cases hc:late.contains i with
     | false=>exact hall i hio hc
     | true=>exact h3 i hc hio
   subst hL;have:=hdone vals w h5 (fun j hj hc=>h6 j (hall j hj hc)) h2;rw [hk] at h4;exact anyL_ge h4 this
  ·have hfacts:∀ i,i∈Region.ready .any ops listed→∀ j,(preds ops i).contains j=true→∀ t,ds[j]?=some (some t)→∃ v,(putAll ds listed.toList vals 0 a0).tmps[t]?=some v∧(Js[j]?.getD Mn.any).p v w:=by
    intro i hi j hj t ht;have hjl:=preds_ready hi j (by simpa using hj);refine⟨vals j,?_,h6 j hjl⟩
    have hjs:j < listed.size:=by
     rcases Nat.lt_or_ge j listed.size with h | h
     ·exact h
     ·simp [Array.getElem?_eq_none h] at hjl
    have:=putAll_new ds listed.toList vals 0 j a0 hnd (by rw [Array.getElem?_toList]; simp [hjs] at hjl ⊢; exact hjl) ht (by
     have:=List.all_eq_true.1 hsz (some t) (List.mem_of_getElem? ht)
     simpa using this)
    rw [Nat.zero_add] at this;exact this
   have hnext:∀ i,i∈Region.ready .any ops listed→late.contains i=false→∀ (o:Oper),ops.toList[i]?=some o→∀ v w',Ext w w'→(Js[i]?.getD Mn.any).p v w'→anyL P ops Q (fun _=>True) late fuel (listed.setIfInBounds i true) ((putAll ds listed.toList vals 0 a0).put o.dst v) w':=by
    intro i hi hic o ho' v w' e hJ;have hun:=ready_not hi
    have hio:i < ops.size:=by
     rw [Array.getElem?_toList] at ho';exact (Array.getElem?_eq_some_iff.1 ho').1
    have hdi:ds[i]?=some o.dst:=by rw [←hd,List.getElem?_map,ho']; rfl
    have hbi:listed.toList[i]?=some false:=by
     rw [Array.getElem?_toList];have:i < listed.size:=by omega
     simp [this] at hun ⊢; exact hun
    have hc:=cnt_set (by omega:i < listed.size) hun ops.size;rw [if_pos hio] at hc;have hps:=putAll_set (v:=v) ds listed.toList vals 0 i a0 hnd hbi hdi;rw [Nat.zero_add] at hps;rw [←hps,←Array.toList_setIfInBounds];refine ih (listed.setIfInBounds i true) (updV vals i v) w' (by simpa using h1) (h2.set hi) (fun t htl htn=>?_) (by omega) (h5.trans e) (fun j hj=>?_)
    ·rw [Go.getD_set_ne false (fun e=>by subst e; rw [hic] at htl; cases htl)];exact h3 t htl htn
    ·by_cases hji:i=j
     ·subst hji;have:updV vals i v i=v:=by simp [updV]
      rw [this]; exact hJ
     ·rw [Go.getD_set_ne false hji] at hj;have:updV vals i v j=vals j:=by unfold updV; rw [if_neg (fun e=>hji e.symm)]
      rw [this];exact (Js[j]?.getD Mn.any).mono e (h6 j hj)
   by_cases hsr:∃ i,soft.contains i=true∧i∈Region.ready .any ops listed
   ·obtain⟨i,his,hi⟩:=hsr;have hsb:=List.all_eq_true.1 hsoft i (by simpa using his);simp only [Bool.and_eq_true,decide_eq_true_eq,Bool.not_eq_true'] at hsb;obtain⟨⟨⟨hio,hic⟩,hap⟩,-⟩:=hsb;obtain⟨-,o,ho,-⟩:=mem_ready.1 hi;have ho':ops.toList[i]?=some o:=by rw [Array.getElem?_toList]; exact ho
    obtain⟨hQ,hsf⟩:=hsft i his o ho';obtain⟨v,hy,hJ⟩:=hsf _ w h5 (fun t ht=>putAll_old ds _ vals 0 a0 ht) (hfacts i hi);refine anyL_pure ho (Region.noSelect_spec hns) (fun c a w=>hQ c a v w) fuel listed _ w (fun j oj hoj hji hjl hno=>?_) hi hy (hnext i hi hic o ho' v w (Ext.refl _) hJ);unfold apartB at hap;rw [ho] at hap;have hjo:j < ops.size:=(Array.getElem?_eq_some_iff.1 hoj).1;have h9:=List.all_eq_true.1 hap j (by simpa using hjo);rw [hoj] at h9;simp only [Bool.or_eq_true,beq_iff_eq] at h9
    rcases h9 with ((h9 | h9) | h9) | h9
    ·exact absurd h9 hji
    ·exfalso
     have h8:i∈preds ops j:=by simpa using h9
     unfold preds at h8;rw [hoj] at h8;simp only [List.mem_map,List.mem_filter] at h8;obtain⟨e,⟨he,hb⟩,hon⟩:=h8;exact hno e (by simpa using he) hb hon
    ·exfalso
     have h7:=sweep_listed h2 i (preds ops i) (fun x hx=>preds_ready hi x hx) j (by simpa using h9);have h6':j < listed.size:=by omega
     simp [h6'] at h7 hjl
     rw [h7] at hjl; cases hjl
    ·exact h9
   ·have hex:∃ i,i < ops.size∧late.contains i=false∧listed.getD i false=false:=by
     apply Classical.byContradiction
     intro hno
     apply hall
     intro i hi hc;cases hl:listed.getD i false with
     | true=>rfl
     | false=>exact absurd ⟨i,hi,hc,hl⟩ hno
    obtain⟨u,hu,huc,hul⟩:=hex;have hne:=ready_low hlow h1 0 (Nat.zero_le _) (fun i hi=>by omega) ⟨u,hu,hul⟩;refine⟨fun h0=>?_,fun i hi=>?_⟩
    ·obtain⟨i,hi⟩:=hne; rw [h0] at hi; cases hi
    ·obtain⟨-,o,ho,-⟩:=mem_ready.1 hi;have hio:i < ops.size:=(Array.getElem?_eq_some_iff.1 ho).1
     have hsi:soft.contains i=false:=by
      cases hc:soft.contains i with
      | false=>rfl
      | true=>exact absurd ⟨i,hc,hi⟩ hsr
     have hic:late.contains i=false:=by
      cases hc:late.contains i with
      | false=>rfl
      | true =>
       exfalso
       have hw:=List.all_eq_true.1 hlate u (by simpa using hu);rw [huc,Bool.false_or] at hw
       rcases (by simpa using hw:soft.contains u=true∨waitsB ops late u=true) with hs | hs
       ·have hsb:=List.all_eq_true.1 hsoft u (by simpa using hs);rw [Bool.and_eq_true] at hsb;have hpr:=List.all_eq_true.1 hsb.2;refine hsr ⟨u,hs,mem_ready.2 ⟨?_,ops[u],by simp [hu],fun e he hb=>?_⟩⟩
        ·have:u < listed.size:=by omega
         simp [this] at hul ⊢; exact hul
        ·have h8:=hpr e.on (by
          unfold preds;rw [Array.getElem?_eq_getElem hu];simp only [List.mem_map,List.mem_filter]
          exact⟨e,⟨by simpa using he,hb⟩,rfl⟩)
         exact late_listed h8 h2 hi hc
       ·have:=late_listed hs h2 hi hc;rw [hul] at this; cases this
     have ho':ops.toList[i]?=some o:=by rw [Array.getElem?_toList]; exact ho
     refine wpOp_step ho (fun K' hK=>?_);exact hstep i hio hic hsi o ho' _ w h5 (fun t ht=>putAll_oldB (by rw [←hd]; simp) h3 vals a0 ht) (hfacts i hi) K' (fun v w' e hJ=>hK _ _ ⟨fun _ _=>trivial,hnext i hi hic o ho' v w' e hJ⟩)
theorem region_invS (Js:List Mn) (ds:List (Option Tmp)) (late soft:List Nat) (bs:List Bool) (k:Nat) {id:Nat} {a0:Act} {W:World} (hm:P.follows .mixedOrders=true) (hd:ops.toList.map (·.dst)=ds) (hnd:nodupB ds=true) (hsz:fitsB ds a0.tmps.size=true) (hlow:lowB ops=true) (hlate:lateS ops late soft=true) (hsoft:softB ops late soft=true) (hns:Region.noSelect ops=true)
  (hb:lastB ops late=bs) (hk:cnt bs.toArray ops.size=k) (hstep:∀ i,i < ops.size→late.contains i=false→soft.contains i=false→Stp P ops Q late Js ds a0 W i) (hsft:∀ i,soft.contains i=true→Sft P ops Q Js ds a0 W i)
  (hdone:∀ vals w,Ext W w→(∀ j,j < ops.size→late.contains j=false→(Js[j]?.getD Mn.any).p (vals j) w)→stepL P ops Q (fun _=>True) late k bs.toArray (putAll ds bs vals 0 a0) w) :
  (Code.region id ops true).wp P Q a0 W:=by
 subst hb
 have h0:∀ n,putAll ds (Array.replicate n false).toList (fun _=>undef) 0 a0=a0:=by
  intro n;simp only [Array.toList_replicate]
  have:∀ (ds:List (Option Tmp)) (n k:Nat),putAll ds (List.replicate n false) (fun _=>undef) k a0=a0:=by
   intro ds
   induction ds with
   | nil=>intro n k; unfold putAll; rfl
   | cons d ds ih =>
    intro n k;cases n with
    | zero=>rfl
    | succ n=>exact ih n (k+1)
  exact this ds n 0
 have hc0:∀ (n:Nat) (l:Array Bool),cnt l n≤n:=by
  intro n l
  induction n with
  | zero=>exact Nat.le_refl _
  | succ n ih=>unfold cnt; split <;> omega
 have hf0:∀ j,(Array.replicate ops.size false).getD j false=false:=fun j=>by
  rw [Array.getD_eq_getD_getElem?,Array.getElem?_replicate]; split <;> rfl
 have:=inv_goS (P:=P) (Q:=Q) (late:=late) hd hnd hsz hlow hlate hsoft hns hstep hsft hk hdone ops.size (Array.replicate ops.size false) (fun _=>undef) W.drew (by simp) (Closed.start _) (fun t _ _=>hf0 t) (hc0 _ _) (Ext.refl W).drew (fun j hj=>by rw [hf0 j] at hj; cases hj);rw [h0] at this;exact wp_region_any hm (any_of_anyL _ _ _ _ this)
theorem regS (Js:List Mn) (ds:List (Option Tmp)) (late soft:List Nat) (bs:List Bool) (k:Nat) {id:Nat} {a0:Act} {W:World} (h:(P.follows .mixedOrders && (decide (ops.toList.map (·.dst)=ds) && (nodupB ds && (fitsB ds a0.tmps.size && (lowB ops && (lateS ops late soft && (softB ops late soft && (Region.noSelect ops && (decide (lastB ops late=bs) && decide (cnt bs.toArray ops.size=k))))))))))=true) (hstep:∀ i,i < ops.size→late.contains i=false→soft.contains i=false→Stp P ops Q late Js ds a0 W i) (hsft:∀ i,soft.contains i=true→Sft P ops Q Js ds a0 W i)
  (hdone:∀ vals w,Ext W w→(∀ j,j < ops.size→late.contains j=false→(Js[j]?.getD Mn.any).p (vals j) w)→stepL P ops Q (fun _=>True) late k bs.toArray (putAll ds bs vals 0 a0) w) :
  (Code.region id ops true).wp P Q a0 W:=by
 simp only [Bool.and_eq_true,decide_eq_true_eq] at h;obtain⟨h1,h2,h3,h4,h5,h6,h7,h8,h9,h10⟩:=h;exact region_invS Js ds late soft bs k h1 h2 h3 h4 h5 h6 h7 h8 h9 h10 hstep hsft hdone
end
section
variable {P:Program} {ops:Array Oper} {Q:Exit→Act→World→Prop} {late:List Nat}
def softC (ops:Array Oper) (late soft:List Nat):Bool:=soft.all fun i=>decide (i < ops.size) && !late.contains i && apartB ops i && (preds ops i).all fun j=>soft.contains j || waitsB ops late j
def NewP (v:Value) (w w':World):Prop:=∃ g,v=.pointer (some ⟨g,0,none⟩)∧w.heap.size≤g∧g < w'.heap.size
def StpD (P:Program) (ops:Array Oper) (Q:Exit→Act→World→Prop) (late:List Nat) (Js:List Mn) (ds:List (Option Tmp)) (a0:Act) (W:World) (i:Nat):Prop :=
 ∀ o,ops.toList[i]?=some o→∀ a w,Ext W w→(∀ t,oldB ds late t=true→a.tmps[t]?=a0.tmps[t]?) →
  (∀ j,(preds ops i).contains j=true→∀ t,ds[j]?=some (some t)→∃ v,a.tmps[t]?=some v∧(Js[j]?.getD Mn.any).p v w) →
  ∀ K:Act→World→Prop,Shut (∀ v w',Ext w w'→(Js[i]?.getD Mn.any).p v w'→NewP v w w'→K (a.put o.dst v) w')→if Region.wanted o (yielded ops a.tmps)=true then Oper.wp P o a w K Q else K (a.put o.dst undef) w
theorem stpD {Js:List Mn} {ds:List (Option Tmp)} {a0:Act} {W:World} {i:Nat} {o:Oper} (hi:ops.toList[i]?=some o)
  (h:∀ a w,Ext W w→(∀ t,oldB ds late t=true→a.tmps[t]?=a0.tmps[t]?) →
   (∀ j,(preds ops i).contains j=true→∀ t,ds[j]?=some (some t)→∃ v,a.tmps[t]?=some v∧(Js[j]?.getD Mn.any).p v w) →
   ∀ K:Act→World→Prop,Shut (∀ v w',Ext w w'→(Js[i]?.getD Mn.any).p v w'→NewP v w w'→K (a.put o.dst v) w')→if Region.wanted o (yielded ops a.tmps)=true then Oper.wp P o a w K Q else K (a.put o.dst undef) w):StpD P ops Q late Js ds a0 W i:=by
 intro o' ho';rw [hi] at ho';cases ho'
 exact h
def SftL (P:Program) (ops:Array Oper) (Q:Exit→Act→World→Prop) (late:List Nat) (Js:List Mn) (ds:List (Option Tmp)) (a0:Act) (B W:World) (i:Nat):Prop :=
 ∀ o,ops.toList[i]?=some o→(∀ c a v w,Q (.panic c) (Act.put a o.dst v) w→Q (.panic c) a w)∧∀ a w,Ext W w→(∀ t,oldB ds late t=true→a.tmps[t]?=a0.tmps[t]?) →
  (∀ j,(preds ops i).contains j=true→∀ t,ds[j]?=some (some t)→∃ v,a.tmps[t]?=some v∧(Js[j]?.getD Mn.any).p v w) →
  ∃ v,YieldsIf P ops (Ext B) o v a∧(Js[i]?.getD Mn.any).p v w
theorem sftL {Js:List Mn} {ds:List (Option Tmp)} {a0:Act} {B W:World} {i:Nat} {o:Oper} (hi:ops.toList[i]?=some o) (hQ:∀ c a v w,Q (.panic c) (Act.put a o.dst v) w→Q (.panic c) a w)
  (h:∀ a w,Ext W w→(∀ t,oldB ds late t=true→a.tmps[t]?=a0.tmps[t]?) →
   (∀ j,(preds ops i).contains j=true→∀ t,ds[j]?=some (some t)→∃ v,a.tmps[t]?=some v∧(Js[j]?.getD Mn.any).p v w) →
   ∃ v,YieldsIf P ops (Ext B) o v a∧(Js[i]?.getD Mn.any).p v w):SftL P ops Q late Js ds a0 B W i:=by
 intro o' ho';rw [hi] at ho';cases ho'
 exact⟨hQ,h⟩
theorem stepL_lateS {S:World→Prop} {i:Nat} {o:Oper} {fuel:Nat} {listed:Array Bool} {a:Act} {w:World} (hi:ops.toList[i]?=some o) (hr:Region.ready .any ops listed=[i])
  (h:∀ K':Act→World→Prop,Shut (∀ a w',(S w→S w')→stepL P ops Q S [] fuel (listed.setIfInBounds i true) a w'→K' a w')→if Region.wanted o (yielded ops a.tmps)=true then Oper.wp P o a w K' Q else K' (a.put o.dst undef) w) :
  stepL P ops Q S [] (fuel+1) listed a w:=fun hcl=>by
 refine⟨fun h0=>(by rw [hr] at h0; cases h0),fun j hj=>?_⟩;have hj':j=i:=by rw [hr] at hj; simpa using hj
 subst hj';have hi':ops[j]?=some o:=by rw [←Array.getElem?_toList]; exact hi
 exact wpOp_step hi' (fun K' hK=>h K' (fun a w' hS hW=>hK a w' ⟨fun _=>hS,hW (hcl.set hj)⟩))
def Dif (D:List Nat) (listed:Array Bool) (vals:Nat→Value) (w:World):Prop :=
 (∀ j,D.contains j=true→listed.getD j false=true→∃ g,vals j=.pointer (some ⟨g,0,none⟩)∧g < w.heap.size) ∧
 ∀ i j,D.contains i=true→D.contains j=true→listed.getD i false=true→listed.getD j false=true→i≠j→vals i≠vals j
theorem Dif.old {D:List Nat} {listed:Array Bool} {vals:Nat→Value} {w w':World} {i:Nat} {v:Value} (h:Dif D listed vals w) (e:Ext w w') (hi:D.contains i=false):Dif D (listed.setIfInBounds i true) (updV vals i v) w':=by
 have hne:∀ j,D.contains j=true→j≠i:=fun j hj e=>by rw [e,hi] at hj; cases hj
 have hv:∀ j,D.contains j=true→updV vals i v j=vals j:=fun j hj=>by unfold updV; rw [if_neg (hne j hj)]
 have hl:∀ j,D.contains j=true→(listed.setIfInBounds i true).getD j false=true→listed.getD j false=true:=fun j hj h=>by rwa [Go.getD_set_ne false (fun e=>hne j hj e.symm)] at h
 refine⟨fun j hj hlj=>?_,fun j k hj hk hlj hlk hjk=>?_⟩
 ·rw [hv j hj];obtain⟨g,h1,h2⟩:=h.1 j hj (hl j hj hlj);exact⟨g,h1,Nat.lt_of_lt_of_le h2 e.size⟩
 ·rw [hv j hj,hv k hk];exact h.2 j k hj hk (hl j hj hlj) (hl k hk hlk) hjk
theorem Dif.new {D:List Nat} {listed:Array Bool} {vals:Nat→Value} {w w':World} {i:Nat} {v:Value} (h:Dif D listed vals w) (e:Ext w w') (hn:NewP v w w'):Dif D (listed.setIfInBounds i true) (updV vals i v) w':=by
 obtain⟨g,rfl,hg1,hg2⟩:=hn;have hl:∀ j,j≠i→(listed.setIfInBounds i true).getD j false=true→listed.getD j false=true:=fun j hj h=>by rwa [Go.getD_set_ne false (fun e=>hj e.symm)] at h
 have hv:∀ j,j≠i→updV vals i (.pointer (some ⟨g,0,none⟩)) j=vals j:=fun j hj=>by unfold updV; rw [if_neg hj]
 have hvi:updV vals i (.pointer (some ⟨g,0,none⟩)) i=.pointer (some ⟨g,0,none⟩):=by unfold updV; rw [if_pos rfl]
 refine⟨fun j hj hlj=>?_,fun j k hj hk hlj hlk hjk=>?_⟩
 ·by_cases hji:j=i
  ·subst hji;exact⟨g,hvi,hg2⟩
  ·rw [hv j hji];obtain⟨g',h1,h2⟩:=h.1 j hj (hl j hji hlj);exact⟨g',h1,Nat.lt_of_lt_of_le h2 e.size⟩
 ·by_cases hji:j=i
  ·subst hji;have hki:k≠j:=fun e=>hjk e.symm
   rw [hvi,hv k hki];obtain⟨g',h1,h2⟩:=h.1 k hk (hl k hki hlk);rw [h1];intro e9;injection e9 with e9
   injection e9 with e9
   injection e9 with e9
   omega
  ·by_cases hki:k=i
   ·subst hki;rw [hvi,hv j hji];obtain⟨g',h1,h2⟩:=h.1 j hj (hl j hji hlj);rw [h1];intro e9;injection e9 with e9
    injection e9 with e9
    injection e9 with e9
    omega
   ·rw [hv j hji,hv k hki];exact h.2 j k hj hk (hl j hji hlj) (hl k hki hlk) hjk
theorem inv_goL {soft D:List Nat} {Js:List Mn} {ds:List (Option Tmp)} {a0:Act} {B W:World} (hBW:Ext B W) (hd:ops.toList.map (·.dst)=ds) (hnd:nodupB ds=true) (hsz:fitsB ds a0.tmps.size=true) (hlow:lowB ops=true) (hlate:lateS ops late soft=true) (hsoft:softC ops late soft=true) (hns:Region.noSelect ops=true)
  (hDl:∀ i,D.contains i=true→late.contains i=false∧soft.contains i=false∧i < ops.size) (hstep:∀ i,i < ops.size→late.contains i=false→soft.contains i=false→D.contains i=false→Stp P ops Q late Js ds a0 W i) (hstepD:∀ i,D.contains i=true→StpD P ops Q late Js ds a0 W i) (hsft:∀ i,soft.contains i=true→SftL P ops Q late Js ds a0 B W i) {k:Nat} (hk:cnt (lastB ops late).toArray ops.size=k)
  (hdone:∀ vals w,Ext W w→(∀ j,j < ops.size→late.contains j=false→(Js[j]?.getD Mn.any).p (vals j) w)→(∀ i j,D.contains i=true→D.contains j=true→i≠j→vals i≠vals j)→stepL P ops Q (Ext B) [] k (lastB ops late).toArray (putAll ds (lastB ops late) vals 0 a0) w) :
  ∀ (fuel:Nat) (listed:Array Bool) (vals:Nat→Value) (w:World),listed.size=ops.size→Closed ops listed→(∀ t,late.contains t=true→t < ops.size→listed.getD t false=false)→cnt listed ops.size≤fuel→Ext W w →
   (∀ j,listed.getD j false=true→(Js[j]?.getD Mn.any).p (vals j) w)→Dif D listed vals w→anyL P ops Q (Ext B) [] fuel listed (putAll ds listed.toList vals 0 a0) w:=by
 intro fuel
 induction fuel with
 | zero =>
  intro listed vals w h1 h2 h3 h4 h5 h6 h7
  by_cases hall:∀ i,i < ops.size→late.contains i=false→listed.getD i false=true
  ·have hL:listed=(lastB ops late).toArray:=by
    apply Array.ext
    ·simp [lastB,h1]
    ·intro i hi _;have hio:i < ops.size:=by omega
     have e1:listed[i]=listed.getD i false:=by simp [hi]
     rw [e1];simp only [lastB,List.getElem_toArray,List.getElem_map,List.getElem_range];cases hc:late.contains i with
     | false=>exact hall i hio hc
     | true=>exact h3 i hc hio
   subst hL;have:=hdone vals w h5 (fun j hj hc=>h6 j (hall j hj hc)) (fun i j hi hj hij=>h7.2 i j hi hj (hall i (hDl i hi).2.2 (hDl i hi).1) (hall j (hDl j hj).2.2 (hDl j hj).1) hij) h2;rw [hk] at h4;exact anyL_ge h4 this
  ·exfalso
   apply hall
   intro i hi _
   have hz:∀ n,n≤ops.size→cnt listed n=0→∀ i,i < n→listed.getD i false=true:=by
    intro n
    induction n with
    | zero=>intro _ _ i hi; omega
    | succ n ih =>
     intro hn hc i hi;unfold cnt at hc
     by_cases e:i=n
     ·subst e
      by_cases hg:listed.getD i false=true
      ·exact hg
      ·rw [if_neg hg] at hc; omega
     ·exact ih (by omega) (by omega) i (by omega)
   exact hz ops.size (Nat.le_refl _) (by omega) i hi
 | succ fuel ih =>
  intro listed vals w h1 h2 h3 h4 h5 h6 h7
  by_cases hall:∀ i,i < ops.size→late.contains i=false→listed.getD i false=true
  ·have hL:listed=(lastB ops late).toArray:=by
    apply Array.ext
    ·simp [lastB,h1]
    ·intro i hi _;have hio:i < ops.size:=by omega
     have e1:listed[i]=listed.getD i false:=by simp [hi]
     rw [e1];simp only [lastB,List.getElem_toArray,List.getElem_map,List.getElem_range];cases hc:late.contains i with
     | false=>exact hall i hio hc
     | true=>exact h3 i hc hio
   subst hL;have:=hdone vals w h5 (fun j hj hc=>h6 j (hall j hj hc)) (fun i j hi hj hij=>h7.2 i j hi hj (hall i (hDl i hi).2.2 (hDl i hi).1) (hall j (hDl j hj).2.2 (hDl j hj).1) hij) h2;rw [hk] at h4;exact anyL_ge h4 this
  ·have hfacts:∀ i,i∈Region.ready .any ops listed→∀ j,(preds ops i).contains j=true→∀ t,ds[j]?=some (some t)→∃ v,(putAll ds listed.toList vals 0 a0).tmps[t]?=some v∧(Js[j]?.getD Mn.any).p v w:=by
    intro i hi j hj t ht;have hjl:=preds_ready hi j (by simpa using hj);refine⟨vals j,?_,h6 j hjl⟩
    have hjs:j < listed.size:=by
     rcases Nat.lt_or_ge j listed.size with h | h
     ·exact h
     ·simp [Array.getElem?_eq_none h] at hjl
    have:=putAll_new ds listed.toList vals 0 j a0 hnd (by rw [Array.getElem?_toList]; simp [hjs] at hjl ⊢; exact hjl) ht (by
     have:=List.all_eq_true.1 hsz (some t) (List.mem_of_getElem? ht)
     simpa using this)
    rw [Nat.zero_add] at this;exact this
   have hnext:∀ i,i∈Region.ready .any ops listed→late.contains i=false→∀ (o:Oper),ops.toList[i]?=some o→∀ v w',Ext w w'→(Js[i]?.getD Mn.any).p v w'→Dif D (listed.setIfInBounds i true) (updV vals i v) w'→anyL P ops Q (Ext B) [] fuel (listed.setIfInBounds i true) ((putAll ds listed.toList vals 0 a0).put o.dst v) w':=by
    intro i hi hic o ho' v w' e hJ hD;have hun:=ready_not hi
    have hio:i < ops.size:=by
     rw [Array.getElem?_toList] at ho';exact (Array.getElem?_eq_some_iff.1 ho').1
    have hdi:ds[i]?=some o.dst:=by rw [←hd,List.getElem?_map,ho']; rfl
    have hbi:listed.toList[i]?=some false:=by
     rw [Array.getElem?_toList];have:i < listed.size:=by omega
     simp [this] at hun ⊢; exact hun
    have hc:=cnt_set (by omega:i < listed.size) hun ops.size;rw [if_pos hio] at hc;have hps:=putAll_set (v:=v) ds listed.toList vals 0 i a0 hnd hbi hdi;rw [Nat.zero_add] at hps;rw [←hps,←Array.toList_setIfInBounds];refine ih (listed.setIfInBounds i true) (updV vals i v) w' (by simpa using h1) (h2.set hi) (fun t htl htn=>?_) (by omega) (h5.trans e) (fun j hj=>?_) hD
    ·rw [Go.getD_set_ne false (fun e=>by subst e; rw [hic] at htl; cases htl)];exact h3 t htl htn
    ·by_cases hji:i=j
     ·subst hji;have:updV vals i v i=v:=by simp [updV]
      rw [this]; exact hJ
     ·rw [Go.getD_set_ne false hji] at hj;have:updV vals i v j=vals j:=by unfold updV; rw [if_neg (fun e=>hji e.symm)]
      rw [this];exact (Js[j]?.getD Mn.any).mono e (h6 j hj)
   by_cases hsr:∃ i,soft.contains i=true∧i∈Region.ready .any ops listed
   ·obtain⟨i,his,hi⟩:=hsr;have hsb:=List.all_eq_true.1 hsoft i (by simpa using his);simp only [Bool.and_eq_true,decide_eq_true_eq,Bool.not_eq_true'] at hsb;obtain⟨⟨⟨hio,hic⟩,hap⟩,-⟩:=hsb;obtain⟨-,o,ho,-⟩:=mem_ready.1 hi;have ho':ops.toList[i]?=some o:=by rw [Array.getElem?_toList]; exact ho
    obtain⟨hQ,hsf⟩:=hsft i his o ho';obtain⟨v,hy,hJ⟩:=hsf _ w h5 (fun t ht=>putAll_oldB (by rw [←hd]; simp) h3 vals a0 ht) (hfacts i hi)
    refine anyL_first ho (by simp [waitsB]) (Region.noSelect_spec hns) (fun c a w=>hQ c a v w) fuel listed _ w h2 (fun j oj hoj hji hjl hno=>?_) hi hy (hBW.trans h5) (hnext i hi hic o ho' v w (Ext.refl _) hJ (h7.old (Ext.refl _) (by
     cases hc:D.contains i with
     | false=>rfl
     | true=>have h8:=(hDl i hc).2.1; rw [his] at h8; cases h8)))
    unfold apartB at hap;rw [ho] at hap;have hjo:j < ops.size:=(Array.getElem?_eq_some_iff.1 hoj).1;have h9:=List.all_eq_true.1 hap j (by simpa using hjo);rw [hoj] at h9;simp only [Bool.or_eq_true,beq_iff_eq] at h9
    rcases h9 with ((h9 | h9) | h9) | h9
    ·exact absurd h9 hji
    ·exfalso
     have h8:i∈preds ops j:=by simpa using h9
     unfold preds at h8;rw [hoj] at h8;simp only [List.mem_map,List.mem_filter] at h8;obtain⟨e,⟨he,hb⟩,hon⟩:=h8;exact hno e (by simpa using he) hb hon
    ·exfalso
     have h7:=sweep_listed h2 i (preds ops i) (fun x hx=>preds_ready hi x hx) j (by simpa using h9);have h6':j < listed.size:=by omega
     simp [h6'] at h7 hjl
     rw [h7] at hjl; cases hjl
    ·exact h9
   ·have hex:∃ i,i < ops.size∧late.contains i=false∧listed.getD i false=false:=by
     apply Classical.byContradiction
     intro hno
     apply hall
     intro i hi hc;cases hl:listed.getD i false with
     | true=>rfl
     | false=>exact absurd ⟨i,hi,hc,hl⟩ hno
    obtain⟨u,hu,huc,hul⟩:=hex;have hne:=ready_low hlow h1 0 (Nat.zero_le _) (fun i hi=>by omega) ⟨u,hu,hul⟩;refine⟨fun h0=>?_,fun i hi=>?_⟩
    ·obtain⟨i,hi⟩:=hne; rw [h0] at hi; cases hi
    ·obtain⟨-,o,ho,-⟩:=mem_ready.1 hi;have hio:i < ops.size:=(Array.getElem?_eq_some_iff.1 ho).1
     have hsi:soft.contains i=false:=by
      cases hc:soft.contains i with
      | false=>rfl
      | true=>exact absurd ⟨i,hc,hi⟩ hsr
     have hic:late.contains i=false:=by
      cases hc:late.contains i with
      | false=>rfl
      | true =>
       exfalso
       have hw:=List.all_eq_true.1 hlate u (by simpa using hu);rw [huc,Bool.false_or] at hw
       rcases (by simpa using hw:soft.contains u=true∨waitsB ops late u=true) with hs | hs
       ·have hno:∀ n u,u < n→u < ops.size→soft.contains u=true→listed.getD u false=false→False:=by
         intro n
         induction n with
         | zero=>intro u h0; exact absurd h0 (Nat.not_lt_zero u)
         | succ n ihn =>
          intro u hun hu hs hul;have hsb:=List.all_eq_true.1 hsoft u (by simpa using hs);rw [Bool.and_eq_true] at hsb;have hpr:=List.all_eq_true.1 hsb.2;refine hsr ⟨u,hs,mem_ready.2 ⟨?_,ops[u],by simp [hu],fun e he hb=>?_⟩⟩
          ·have:u < listed.size:=by omega
           simp [this] at hul ⊢; exact hul
          ·have hpm:e.on∈preds ops u:=by
            unfold preds;rw [Array.getElem?_eq_getElem hu];simp only [List.mem_map,List.mem_filter];exact⟨e,⟨by simpa using he,hb⟩,rfl⟩
           have h8:=hpr e.on hpm;rw [Bool.or_eq_true] at h8
           rcases h8 with h8 | h8
           ·have hlo:=List.all_eq_true.1 (List.all_eq_true.1 hlow u (by simpa using hu)) e.on hpm;have hlo':e.on < u:=by simpa using hlo
            cases hle:listed.getD e.on false with
            | true=>rfl
            | false=>exact (ihn e.on (by omega) (by omega) h8 hle).elim
           ·exact late_listed h8 h2 hi hc
        exact hno (u+1) u (Nat.lt_succ_self u) hu hs hul
       ·have:=late_listed hs h2 hi hc;rw [hul] at this; cases this
     have ho':ops.toList[i]?=some o:=by rw [Array.getElem?_toList]; exact ho
     refine wpOp_step ho (fun K' hK=>?_);cases hDi:D.contains i with
     | true=>exact hstepD i hDi o ho' _ w h5 (fun t ht=>putAll_oldB (by rw [←hd]; simp) h3 vals a0 ht) (hfacts i hi) K' (fun v w' e hJ hN=>hK _ _ ⟨fun _ h=>h.trans e,hnext i hi hic o ho' v w' e hJ (h7.new e hN)⟩)
     | false =>
     exact hstep i hio hic hsi hDi o ho' _ w h5 (fun t ht=>putAll_oldB (by rw [←hd]; simp) h3 vals a0 ht) (hfacts i hi) K' (fun v w' e hJ=>hK _ _ ⟨fun _ h=>h.trans e,hnext i hi hic o ho' v w' e hJ (h7.old e hDi)⟩)
theorem region_invL (Js:List Mn) (ds:List (Option Tmp)) (late soft D:List Nat) (bs:List Bool) (k:Nat) {id:Nat} {a0:Act} {B W:World} (hBW:Ext B W) (hm:P.follows .mixedOrders=true) (hd:ops.toList.map (·.dst)=ds) (hnd:nodupB ds=true) (hsz:fitsB ds a0.tmps.size=true) (hlow:lowB ops=true) (hlate:lateS ops late soft=true) (hsoft:softC ops late soft=true) (hns:Region.noSelect ops=true)
  (hb:lastB ops late=bs) (hk:cnt bs.toArray ops.size=k) (hDl:∀ i,D.contains i=true→late.contains i=false∧soft.contains i=false∧i < ops.size) (hstep:∀ i,i < ops.size→late.contains i=false→soft.contains i=false→D.contains i=false→Stp P ops Q late Js ds a0 W i) (hstepD:∀ i,D.contains i=true→StpD P ops Q late Js ds a0 W i) (hsft:∀ i,soft.contains i=true→SftL P ops Q late Js ds a0 B W i)
  (hdone:∀ vals w,Ext W w→(∀ j,j < ops.size→late.contains j=false→(Js[j]?.getD Mn.any).p (vals j) w)→(∀ i j,D.contains i=true→D.contains j=true→i≠j→vals i≠vals j)→stepL P ops Q (Ext B) [] k bs.toArray (putAll ds bs vals 0 a0) w) :
  (Code.region id ops true).wp P Q a0 W:=by
 subst hb
 have h0:∀ n,putAll ds (Array.replicate n false).toList (fun _=>undef) 0 a0=a0:=by
  intro n;simp only [Array.toList_replicate]
  have:∀ (ds:List (Option Tmp)) (n k:Nat),putAll ds (List.replicate n false) (fun _=>undef) k a0=a0:=by
   intro ds
   induction ds with
   | nil=>intro n k; unfold putAll; rfl
   | cons d ds ih =>
    intro n k;cases n with
    | zero=>rfl
    | succ n=>exact ih n (k+1)
  exact this ds n 0
 have hc0:∀ (n:Nat) (l:Array Bool),cnt l n≤n:=by
  intro n l
  induction n with
  | zero=>exact Nat.le_refl _
  | succ n ih=>unfold cnt; split <;> omega
 have hf0:∀ j,(Array.replicate ops.size false).getD j false=false:=fun j=>by
  rw [Array.getD_eq_getD_getElem?,Array.getElem?_replicate]; split <;> rfl
 have:=inv_goL (P:=P) (Q:=Q) (late:=late) hBW hd hnd hsz hlow hlate hsoft hns hDl hstep hstepD hsft hk hdone ops.size (Array.replicate ops.size false) (fun _=>undef) W.drew (by simp) (Closed.start _) (fun t _ _=>hf0 t) (hc0 _ _) (Ext.refl W).drew (fun j hj=>by rw [hf0 j] at hj; cases hj) ⟨fun j _ hj=>absurd hj (by rw [hf0 j]; decide),fun i j _ _ hi=>absurd hi (by rw [hf0 i]; decide)⟩;rw [h0] at this;exact wp_region_any hm (any_of_anyL _ _ _ _ this)
theorem regL (Js:List Mn) (ds:List (Option Tmp)) (late soft D:List Nat) (bs:List Bool) (k:Nat) {id:Nat} {a0:Act} {B W:World} (hBW:Ext B W) (h:(P.follows .mixedOrders && (decide (ops.toList.map (·.dst)=ds) && (nodupB ds && (fitsB ds a0.tmps.size && (lowB ops && (lateS ops late soft && (softC ops late soft && (Region.noSelect ops && (D.all (fun i=>!late.contains i && (!soft.contains i && decide (i < ops.size))) && (decide (lastB ops late=bs) && decide (cnt bs.toArray ops.size=k)))))))))))=true) (hstep:∀ i,i < ops.size→late.contains i=false→soft.contains i=false→D.contains i=false→Stp P ops Q late Js ds a0 W i) (hstepD:∀ i,D.contains i=true→StpD P ops Q late Js ds a0 W i) (hsft:∀ i,soft.contains i=true→SftL P ops Q late Js ds a0 B W i)
  (hdone:∀ vals w,Ext W w→(∀ j,j < ops.size→late.contains j=false→(Js[j]?.getD Mn.any).p (vals j) w)→(∀ i j,D.contains i=true→D.contains j=true→i≠j→vals i≠vals j)→stepL P ops Q (Ext B) [] k bs.toArray (putAll ds bs vals 0 a0) w) :
  (Code.region id ops true).wp P Q a0 W:=by
 simp only [Bool.and_eq_true,decide_eq_true_eq] at h;obtain⟨h1,h2,h3,h4,h5,h6,h7,h8,hD,h9,h10⟩:=h;refine region_invL Js ds late soft D bs k hBW h1 h2 h3 h4 h5 h6 h7 h8 h9 h10 (fun i hi=>?_) hstep hstepD hsft hdone;have h:=List.all_eq_true.1 hD i (by simpa using hi);simpa using h
end
end Go.Proofs.YtphpkhoeplcedaaGreat
