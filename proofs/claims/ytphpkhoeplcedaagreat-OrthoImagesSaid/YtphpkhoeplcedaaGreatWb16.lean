import Derived.Test.YtphpkhoeplcedaaGreatWb15
set_option linter.all false
set_option maxHeartbeats 8000000
namespace Go.Proofs.YtphpkhoeplcedaaGreat
open Go.RowKit
variable {w':World} {N n lo hi k g i m c K:Nat} {G:Grd} {q x:Rat} {z:Int} {A:Option Addr}
section
variable {P:Program} {ops:Array Oper} {Q:Exit->Act->World->Prop} {late:List Nat}
def q2M (ops:Array Oper) (late soft:List Nat):Bool:=soft.all fun i=>decide (i < ops.size) && !late.contains i && apartB ops i && (kE ops i).all fun j=>soft.contains j || jw ops late j
def NewP (v:Value) (w w':World):Prop:=∃ g,v=.pointer (some ⟨g,0,none⟩)/\w.heap.size<=g/\g < w'.heap.size
def StpD (P:Program) (ops:Array Oper) (Q:Exit->Act->World->Prop) (late:List Nat) (Js:List Mn) (ds:List (Option Tmp)) (a0:Act) (W:World) (i:Nat):Prop :=
 ∀ o,ops.toList[i]?=some o->∀ a w,Ext W w->(∀ t,q33 ds late t=true->a.tmps[t]?=a0.tmps[t]?) ->
  (∀ j,(kE ops i).contains j=true->∀ t,ds[j]?=some (some t)->∃ v,a.tmps[t]?=some v/\(Js[j]?.getD Mn.any).p v w) ->
  ∀ K:Act->World->Prop,Shut (∀ v w',Ext w w'->(Js[i]?.getD Mn.any).p v w'->NewP v w w'->K (a.put o.dst v) w')->if Region.wanted o (yielded ops a.tmps)=true then Oper.wp P o a w K Q else K (a.put o.dst undef) w
theorem stpD {Js:List Mn} {ds:List (Option Tmp)} {a0:Act} {W:World} {o:Oper} (hi:ops.toList[i]?=some o)
  (h:∀ a w,Ext W w->(∀ (t:Nat) (_:q33 ds late t=true:=by kernel_rfl),a.tmps[t]?=a0.tmps[t]?) ->
   (∀ (j t:Nat) (_:(kE ops i).contains j=true:=by kernel_rfl) (_:ds[j]?=some (some t):=by rfl),∃ v,a.tmps[t]?=some v/\(Js[j]?.getD Mn.any).p v w) ->
   ∀ K:Act->World->Prop,Shut (∀ v w',Ext w w'->(Js[i]?.getD Mn.any).p v w'->NewP v w w'->K (a.put o.dst v) w')->if Region.wanted o (yielded ops a.tmps)=true then Oper.wp P o a w K Q else K (a.put o.dst undef) w):StpD P ops Q late Js ds a0 W i:=by
 intro o' ho';rw [hi] at ho';cases ho'
 exact fun a w e hB hA=>h a w e hB (fun j t h1 h2=>hA j h1 t h2)
def SftL (P:Program) (ops:Array Oper) (Q:Exit->Act->World->Prop) (late:List Nat) (Js:List Mn) (ds:List (Option Tmp)) (a0:Act) (B W:World) (i:Nat):Prop :=
 ∀ o,ops.toList[i]?=some o->(∀ c a v w,Q (.panic c) (Act.put a o.dst v) w->Q (.panic c) a w)/\∀ a w,Ext W w->(∀ t,q33 ds late t=true->a.tmps[t]?=a0.tmps[t]?) ->
  (∀ j,(kE ops i).contains j=true->∀ t,ds[j]?=some (some t)->∃ v,a.tmps[t]?=some v/\(Js[j]?.getD Mn.any).p v w) ->
  ∃ v,YieldsIf P ops (Ext B) o v a/\(Js[i]?.getD Mn.any).p v w
theorem q2e {Js:List Mn} {ds:List (Option Tmp)} {a0:Act} {B W:World} {o:Oper} (hi:ops.toList[i]?=some o) (hQ:∀ c a v w,Q (.panic c) (Act.put a o.dst v) w->Q (.panic c) a w)
  (h:∀ a w,Ext W w->(∀ (t:Nat) (_:q33 ds late t=true:=by kernel_rfl),a.tmps[t]?=a0.tmps[t]?) ->
   (∀ (j t:Nat) (_:(kE ops i).contains j=true:=by kernel_rfl) (_:ds[j]?=some (some t):=by rfl),∃ v,a.tmps[t]?=some v/\(Js[j]?.getD Mn.any).p v w) ->
   ∃ v,YieldsIf P ops (Ext B) o v a/\(Js[i]?.getD Mn.any).p v w):SftL P ops Q late Js ds a0 B W i:=by
 intro o' ho';rw [hi] at ho';cases ho'
 exact⟨hQ,fun a w e hB hA=>h a w e hB (fun j t h1 h2=>hA j h1 t h2)⟩
theorem zY {S:World->Prop} {o:Oper} {fuel:Nat} {listed:Array Bool} {a:Act} {w:World} (hi:ops.toList[i]?=some o) (hr:Region.ready .any ops listed=[i])
  (h:∀ K':Act->World->Prop,Shut (∀ a w',(S w->S w')->xg P ops Q S [] fuel (listed.setIfInBounds i true) a w'->K' a w')->if Region.wanted o (yielded ops a.tmps)=true then Oper.wp P o a w K' Q else K' (a.put o.dst undef) w) :
  xg P ops Q S [] (fuel+1) listed a w:=fun hcl=>by
 refine⟨fun h0=>(by rw [hr] at h0; cases h0),fun j hj=>?_⟩;have hj':j=i:=by rw [hr] at hj; simpa using hj
 subst hj';have hi':ops[j]?=some o:=by rw [<-Array.getElem?_toList]; exact hi
 exact wpOp_step hi' (fun K' hK=>h K' (fun a w' hS hW=>hK a w' ⟨fun _=>hS,hW (hcl.set hj)⟩))
def Dif (D:List Nat) (listed:Array Bool) (vals:Nat->Value) (w:World):Prop :=
 (∀ j,D.contains j=true->listed.getD j false=true->∃ g,vals j=.pointer (some ⟨g,0,none⟩)/\g < w.heap.size) /\
 ∀ i j,D.contains i=true->D.contains j=true->listed.getD i false=true->listed.getD j false=true->i≠j->vals i≠vals j
theorem Dif.old {D:List Nat} {listed:Array Bool} {vals:Nat->Value} {w:World} {v:Value} (h:Dif D listed vals w) (e:Ext w w') (hi:D.contains i=false):Dif D (listed.setIfInBounds i true) (jT vals i v) w':=by
 have hne:∀ j,D.contains j=true->j≠i:=fun j hj e=>by rw [e,hi] at hj; cases hj
 have hv:∀ j,D.contains j=true->jT vals i v j=vals j:=fun j hj=>by unfold jT; rw [if_neg (hne j hj)]
 have hl:∀ j,D.contains j=true->(listed.setIfInBounds i true).getD j false=true->listed.getD j false=true:=fun j hj h=>by rwa [Go.getD_set_ne false (fun e=>hne j hj e.symm)] at h
 refine⟨fun j hj hlj=>?_,fun j k hj hk hlj hlk hjk=>?_⟩
 ·rw [hv j hj];obtain⟨g,h1,h2⟩:=h.1 j hj (hl j hj hlj);exact⟨g,h1,Nat.lt_of_lt_of_le h2 e.size⟩
 ·rw [hv j hj,hv k hk];exact h.2 j k hj hk (hl j hj hlj) (hl k hk hlk) hjk
theorem Dif.new {D:List Nat} {listed:Array Bool} {vals:Nat->Value} {w:World} {v:Value} (h:Dif D listed vals w) (e:Ext w w') (hn:NewP v w w'):Dif D (listed.setIfInBounds i true) (jT vals i v) w':=by
 obtain⟨g,rfl,hg1,hg2⟩:=hn;have hl:∀ j,j≠i->(listed.setIfInBounds i true).getD j false=true->listed.getD j false=true:=fun j hj h=>by rwa [Go.getD_set_ne false (fun e=>hj e.symm)] at h
 have hv:∀ j,j≠i->jT vals i (.pointer (some ⟨g,0,none⟩)) j=vals j:=fun j hj=>by unfold jT; rw [if_neg hj]
 have hvi:jT vals i (.pointer (some ⟨g,0,none⟩)) i=.pointer (some ⟨g,0,none⟩):=by unfold jT; rw [if_pos rfl]
 refine⟨fun j hj hlj=>?_,fun j k hj hk hlj hlk hjk=>?_⟩
 ·by_cases hji:j=i
  ·subst hji;exact⟨g,hvi,hg2⟩
  ·rw [hv j hji];obtain⟨g',h1,h2⟩:=h.1 j hj (hl j hji hlj);exact⟨g',h1,Nat.lt_of_lt_of_le h2 e.size⟩
 ·by_cases hji:j=i
  ·subst hji;have hki:k≠j:=fun e=>hjk e.symm
   rw [hvi,hv k hki];obtain⟨g',h1,h2⟩:=h.1 k hk (hl k hki hlk);rw [h1];intro e9;injection e9 with e9
   injection e9 with e9
   injection e9 with e9
   omega
  ·by_cases hki:k=i
   ·subst hki;rw [hvi,hv j hji];obtain⟨g',h1,h2⟩:=h.1 j hj (hl j hji hlj);rw [h1];intro e9;injection e9 with e9
    injection e9 with e9
    injection e9 with e9
    omega
   ·rw [hv j hji,hv k hki];exact h.2 j k hj hk (hl j hji hlj) (hl k hki hlk) hjk
theorem q3k {soft D:List Nat} {Js:List Mn} {ds:List (Option Tmp)} {a0:Act} {B W:World} (hBW:Ext B W) (hd:ops.toList.map (·.dst)=ds) (hnd:nodupB ds=true) (hsz:KD ds a0.tmps.size=true) (hlow:q0F ops=true) (hlate:Vj ops late soft=true) (hsoft:q2M ops late soft=true) (hns:Region.noSelect ops=true)
  (hDl:∀ i,D.contains i=true->late.contains i=false/\soft.contains i=false/\i < ops.size) (hstep:∀ i,i < ops.size->late.contains i=false->soft.contains i=false->D.contains i=false->Stp P ops Q late Js ds a0 W i) (hstepD:∀ i,D.contains i=true->StpD P ops Q late Js ds a0 W i) (hsft:∀ i,soft.contains i=true->SftL P ops Q late Js ds a0 B W i) (hk:cnt (lastB ops late).toArray ops.size=k)
  (hdone:∀ vals w,Ext W w->(∀ j,j < ops.size->late.contains j=false->(Js[j]?.getD Mn.any).p (vals j) w)->(∀ i j,D.contains i=true->D.contains j=true->i≠j->vals i≠vals j)->xg P ops Q (Ext B) [] k (lastB ops late).toArray (qA ds (lastB ops late) vals 0 a0) w) :
  ∀ (fuel:Nat) (listed:Array Bool) (vals:Nat->Value) (w:World),listed.size=ops.size->Closed ops listed->(∀ t,late.contains t=true->t < ops.size->listed.getD t false=false)->cnt listed ops.size<=fuel->Ext W w ->
   (∀ j,listed.getD j false=true->(Js[j]?.getD Mn.any).p (vals j) w)->Dif D listed vals w->Je P ops Q (Ext B) [] fuel listed (qA ds listed.toList vals 0 a0) w:=by
 intro fuel
 induction fuel with
 | zero =>
  intro listed vals w h1 h2 h3 h4 h5 h6 h7
  by_cases hall:∀ i,i < ops.size->late.contains i=false->listed.getD i false=true
  ·have hL:listed=(lastB ops late).toArray:=by
    apply Array.ext
    ·simp [lastB,h1]
    ·intro i hi _;have hio:i < ops.size:=by omega
     have e1:listed[i]=listed.getD i false:=by simp [hi]
     rw [e1];simp only [lastB,List.getElem_toArray,List.getElem_map,List.getElem_range];cases hc:late.contains i with
     | false=>exact hall i hio hc
     | true=>exact h3 i hc hio
   subst hL;have:=hdone vals w h5 (fun j hj hc=>h6 j (hall j hj hc)) (fun i j hi hj hij=>h7.2 i j hi hj (hall i (hDl i hi).2.2 (hDl i hi).1) (hall j (hDl j hj).2.2 (hDl j hj).1) hij) h2;rw [hk] at h4;exact wZ h4 this
  ·exfalso
   apply hall
   intro i hi _
   have hz:∀ n,n<=ops.size->cnt listed n=0->∀ i,i < n->listed.getD i false=true:=by
    intro n
    induction n with
    | zero=>intro _ _ i hi; omega
    | succ n ih =>
     intro hn hc i hi;unfold cnt at hc
     by_cases e:i=n
     ·subst e
      by_cases hg:listed.getD i false=true
      ·exact hg
      ·rw [if_neg hg] at hc; omega
     ·exact ih (by omega) (by omega) i (by omega)
   exact hz ops.size (q_r) (by omega) i hi
 | succ fuel ih =>
  intro listed vals w h1 h2 h3 h4 h5 h6 h7
  by_cases hall:∀ i,i < ops.size->late.contains i=false->listed.getD i false=true
  ·have hL:listed=(lastB ops late).toArray:=by
    apply Array.ext
    ·simp [lastB,h1]
    ·intro i hi _;have hio:i < ops.size:=by omega
     have e1:listed[i]=listed.getD i false:=by simp [hi]
     rw [e1];simp only [lastB,List.getElem_toArray,List.getElem_map,List.getElem_range];cases hc:late.contains i with
     | false=>exact hall i hio hc
     | true=>exact h3 i hc hio
   subst hL;have:=hdone vals w h5 (fun j hj hc=>h6 j (hall j hj hc)) (fun i j hi hj hij=>h7.2 i j hi hj (hall i (hDl i hi).2.2 (hDl i hi).1) (hall j (hDl j hj).2.2 (hDl j hj).1) hij) h2;rw [hk] at h4;exact wZ h4 this
  ·have hfacts:∀ i,i∈Region.ready .any ops listed->∀ j,(kE ops i).contains j=true->∀ t,ds[j]?=some (some t)->∃ v,(qA ds listed.toList vals 0 a0).tmps[t]?=some v/\(Js[j]?.getD Mn.any).p v w:=by
    intro i hi j hj t ht;have hjl:=zZ hi j (by simpa using hj);refine⟨vals j,?_,h6 j hjl⟩
    have hjs:j < listed.size:=by
     rcases Nat.lt_or_ge j listed.size with h | h
     ·exact h
     ·simp [Array.getElem?_eq_none h] at hjl
    have:=jZ ds listed.toList vals 0 j a0 hnd (by rw [Array.getElem?_toList]; simp [hjs] at hjl ⊢; exact hjl) ht (by
     have:=List.all_eq_true.1 hsz (some t) (List.mem_of_getElem? ht)
     simpa using this)
    rw [Nat.zero_add] at this;exact this
   have hnext:∀ i,i∈Region.ready .any ops listed->late.contains i=false->∀ (o:Oper),ops.toList[i]?=some o->∀ v w',Ext w w'->(Js[i]?.getD Mn.any).p v w'->Dif D (listed.setIfInBounds i true) (jT vals i v) w'->Je P ops Q (Ext B) [] fuel (listed.setIfInBounds i true) ((qA ds listed.toList vals 0 a0).put o.dst v) w':=by
    intro i hi hic o ho' v w' e hJ hD;have hun:=jF hi
    have hio:i < ops.size:=by
     rw [Array.getElem?_toList] at ho';exact (Array.getElem?_eq_some_iff.1 ho').1
    have hdi:ds[i]?=some o.dst:=by rw [<-hd,List.getElem?_map,ho']; rfl
    have hbi:listed.toList[i]?=some false:=by
     rw [Array.getElem?_toList];have:i < listed.size:=by omega
     simp [this] at hun ⊢; exact hun
    have hc:=KO (by omega:i < listed.size) hun ops.size;rw [if_pos hio] at hc;have hps:=jY (v:=v) ds listed.toList vals 0 i a0 hnd hbi hdi;rw [Nat.zero_add] at hps;rw [<-hps,<-Array.toList_setIfInBounds];refine ih (listed.setIfInBounds i true) (jT vals i v) w' (by simpa using h1) (h2.set hi) (fun t htl htn=>?_) (by omega) (h5.trans e) (fun j hj=>?_) hD
    ·rw [Go.getD_set_ne false (fun e=>by subst e; rw [hic] at htl; cases htl)];exact h3 t htl htn
    ·by_cases hji:i=j
     ·subst hji;have:jT vals i v i=v:=by simp [jT]
      rw [this]; exact hJ
     ·rw [Go.getD_set_ne false hji] at hj;have:jT vals i v j=vals j:=by unfold jT; rw [if_neg (fun e=>hji e.symm)]
      rw [this];exact (Js[j]?.getD Mn.any).mono e (h6 j hj)
   by_cases hsr:∃ i,soft.contains i=true/\i∈Region.ready .any ops listed
   ·obtain⟨i,his,hi⟩:=hsr;have hsb:=List.all_eq_true.1 hsoft i (by simpa using his);simp only [Bool.and_eq_true,decide_eq_true_eq,Bool.not_eq_true'] at hsb;obtain⟨⟨⟨hio,hic⟩,hap⟩,-⟩:=hsb;obtain⟨-,o,ho,-⟩:=mem_ready.1 hi;have ho':ops.toList[i]?=some o:=by rw [Array.getElem?_toList]; exact ho
    obtain⟨hQ,hsf⟩:=hsft i his o ho';obtain⟨v,hy,hJ⟩:=hsf _ w h5 (fun t ht=>xB (by rw [<-hd]; simp) h3 vals a0 ht) (hfacts i hi)
    refine Zy ho (by simp [jw]) (Region.noSelect_spec hns) (fun c a w=>hQ c a v w) fuel listed _ w h2 (fun j oj hoj hji hjl hno=>?_) hi hy (hBW.trans h5) (hnext i hi hic o ho' v w (Ext.refl _) hJ (h7.old (Ext.refl _) (by
     cases hc:D.contains i with
     | false=>rfl
     | true=>have h8:=(hDl i hc).2.1; rw [his] at h8; cases h8)))
    unfold apartB at hap;rw [ho] at hap;have hjo:j < ops.size:=(Array.getElem?_eq_some_iff.1 hoj).1;have h9:=List.all_eq_true.1 hap j (by simpa using hjo);rw [hoj] at h9;simp only [Bool.or_eq_true,beq_iff_eq] at h9
    rcases h9 with ((h9 | h9) | h9) | h9
    ·exact absurd h9 hji
    ·exfalso
     have h8:i∈kE ops j:=by simpa using h9
     unfold kE at h8;rw [hoj] at h8;simp only [List.mem_map,List.mem_filter] at h8;obtain⟨e,⟨he,hb⟩,hon⟩:=h8;exact hno e (by simpa using he) hb hon
    ·exfalso
     have h7:=xI h2 i (kE ops i) (fun x hx=>zZ hi x hx) j (by simpa using h9);have h6':j < listed.size:=by omega
     simp [h6'] at h7 hjl
     rw [h7] at hjl; cases hjl
    ·exact h9
   ·have hex:∃ i,i < ops.size/\late.contains i=false/\listed.getD i false=false:=by
     apply Classical.byContradiction
     intro hno
     apply hall
     intro i hi hc;cases hl:listed.getD i false with
     | true=>rfl
     | false=>exact absurd ⟨i,hi,hc,hl⟩ hno
    obtain⟨u,hu,huc,hul⟩:=hex;have hne:=QD hlow h1 0 (Nat.zero_le _) (fun i hi=>by omega) ⟨u,hu,hul⟩;refine⟨fun h0=>?_,fun i hi=>?_⟩
    ·obtain⟨i,hi⟩:=hne; rw [h0] at hi; cases hi
    ·obtain⟨-,o,ho,-⟩:=mem_ready.1 hi;have hio:i < ops.size:=(Array.getElem?_eq_some_iff.1 ho).1
     have hsi:soft.contains i=false:=by
      cases hc:soft.contains i with
      | false=>rfl
      | true=>exact absurd ⟨i,hc,hi⟩ hsr
     have hic:late.contains i=false:=by
      cases hc:late.contains i with
      | false=>rfl
      | true =>
       exfalso
       have hw:=List.all_eq_true.1 hlate u (by simpa using hu);rw [huc,Bool.false_or] at hw
       rcases (by simpa using hw:soft.contains u=true\/jw ops late u=true) with hs | hs
       ·have hno:∀ n u,u < n->u < ops.size->soft.contains u=true->listed.getD u false=false->False:=by
         intro n
         induction n with
         | zero=>intro u h0; exact absurd h0 (Nat.not_lt_zero u)
         | succ n ihn =>
          intro u hun hu hs hul;have hsb:=List.all_eq_true.1 hsoft u (by simpa using hs);rw [Bool.and_eq_true] at hsb;have hpr:=List.all_eq_true.1 hsb.2;refine hsr ⟨u,hs,mem_ready.2 ⟨?_,ops[u],by simp [hu],fun e he hb=>?_⟩⟩
          ·have:u < listed.size:=by omega
           simp [this] at hul ⊢; exact hul
          ·have hpm:e.on∈kE ops u:=by
            unfold kE;rw [Array.getElem?_eq_getElem hu];simp only [List.mem_map,List.mem_filter];exact⟨e,⟨by simpa using he,hb⟩,rfl⟩
           have h8:=hpr e.on hpm;rw [Bool.or_eq_true] at h8
           rcases h8 with h8 | h8
           ·have hlo:=List.all_eq_true.1 (List.all_eq_true.1 hlow u (by simpa using hu)) e.on hpm;have hlo':e.on < u:=by simpa using hlo
            cases hle:listed.getD e.on false with
            | true=>rfl
            | false=>exact (ihn e.on (by omega) (by omega) h8 hle).elim
           ·exact kU h8 h2 hi hc
        exact hno (u+1) u (Nat.lt_succ_self u) hu hs hul
       ·have:=kU hs h2 hi hc;rw [hul] at this; cases this
     have ho':ops.toList[i]?=some o:=by rw [Array.getElem?_toList]; exact ho
     refine wpOp_step ho (fun K' hK=>?_);cases hDi:D.contains i with
     | true=>exact hstepD i hDi o ho' _ w h5 (fun t ht=>xB (by rw [<-hd]; simp) h3 vals a0 ht) (hfacts i hi) K' (fun v w' e hJ hN=>hK _ _ ⟨fun _ h=>h.trans e,hnext i hi hic o ho' v w' e hJ (h7.new e hN)⟩)
     | false =>
     exact hstep i hio hic hsi hDi o ho' _ w h5 (fun t ht=>xB (by rw [<-hd]; simp) h3 vals a0 ht) (hfacts i hi) K' (fun v w' e hJ=>hK _ _ ⟨fun _ h=>h.trans e,hnext i hi hic o ho' v w' e hJ (h7.old e hDi)⟩)
theorem Jw (Js:List Mn) (ds:List (Option Tmp)) (late soft D:List Nat) (bs:List Bool) (k:Nat) {id:Nat} {a0:Act} {B W:World} (hBW:Ext B W) (hm:P.follows .mixedOrders=true) (hd:ops.toList.map (·.dst)=ds) (hnd:nodupB ds=true) (hsz:KD ds a0.tmps.size=true) (hlow:q0F ops=true) (hlate:Vj ops late soft=true) (hsoft:q2M ops late soft=true) (hns:Region.noSelect ops=true)
  (hb:lastB ops late=bs) (hk:cnt bs.toArray ops.size=k) (hDl:∀ i,D.contains i=true->late.contains i=false/\soft.contains i=false/\i < ops.size) (hstep:∀ i,i < ops.size->late.contains i=false->soft.contains i=false->D.contains i=false->Stp P ops Q late Js ds a0 W i) (hstepD:∀ i,D.contains i=true->StpD P ops Q late Js ds a0 W i) (hsft:∀ i,soft.contains i=true->SftL P ops Q late Js ds a0 B W i)
  (hdone:∀ vals w,Ext W w->(∀ j,j < ops.size->late.contains j=false->(Js[j]?.getD Mn.any).p (vals j) w)->(∀ i j,D.contains i=true->D.contains j=true->i≠j->vals i≠vals j)->xg P ops Q (Ext B) [] k bs.toArray (qA ds bs vals 0 a0) w) :
  (Code.region id ops true).wp P Q a0 W:=by
 subst hb
 have h0:∀ n,qA ds (Array.replicate n false).toList (fun _=>undef) 0 a0=a0:=by
  intro n;simp only [Array.toList_replicate]
  have:∀ (ds:List (Option Tmp)) (n k:Nat),qA ds (List.replicate n false) (fun _=>undef) k a0=a0:=by
   intro ds
   induction ds with
   | nil=>intro n k; unfold qA; rfl
   | cons d ds ih =>
    intro n k;cases n with
    | zero=>rfl
    | succ n=>exact ih n (k+1)
  exact this ds n 0
 have hc0:∀ (n:Nat) (l:Array Bool),cnt l n<=n:=by
  intro n l
  induction n with
  | zero=>exact q_r
  | succ n ih=>unfold cnt; split <;> omega
 have hf0:∀ j,(Array.replicate ops.size false).getD j false=false:=fun j=>by
  rw [Array.getD_eq_getD_getElem?,Array.getElem?_replicate]; split <;> rfl
 have:=q3k (P:=P) (Q:=Q) (late:=late) hBW hd hnd hsz hlow hlate hsoft hns hDl hstep hstepD hsft hk hdone ops.size (Array.replicate ops.size false) (fun _=>undef) W.drew (by simp) (Closed.start _) (fun t _ _=>hf0 t) (hc0 _ _) (Ext.refl W).drew (fun j hj=>by rw [hf0 j] at hj; cases hj) ⟨fun j _ hj=>absurd hj (by rw [hf0 j]; decide),fun i j _ _ hi=>absurd hi (by rw [hf0 i]; decide)⟩;rw [h0] at this;exact wp_region_any hm (xE _ _ _ _ this)
theorem regL (Js:List Mn) (ds:List (Option Tmp)) (late soft D:List Nat) (bs:List Bool) (k:Nat) {id:Nat} {a0:Act} {B W:World} (hBW:Ext B W) (h:(P.follows .mixedOrders && (decide (ops.toList.map (·.dst)=ds) && (nodupB ds && (KD ds a0.tmps.size && (q0F ops && (Vj ops late soft && (q2M ops late soft && (Region.noSelect ops && (D.all (fun i=>!late.contains i && (!soft.contains i && decide (i < ops.size))) && (decide (lastB ops late=bs) && decide (cnt bs.toArray ops.size=k)))))))))))=true) (hstep:∀ i,i < ops.size->late.contains i=false->soft.contains i=false->D.contains i=false->Stp P ops Q late Js ds a0 W i) (hstepD:∀ i,D.contains i=true->StpD P ops Q late Js ds a0 W i) (hsft:∀ i,soft.contains i=true->SftL P ops Q late Js ds a0 B W i)
  (hdone:∀ vals w,Ext W w->(∀ j,j < ops.size->late.contains j=false->(Js[j]?.getD Mn.any).p (vals j) w)->(∀ i j,D.contains i=true->D.contains j=true->i≠j->vals i≠vals j)->xg P ops Q (Ext B) [] k bs.toArray (qA ds bs vals 0 a0) w) :
  (Code.region id ops true).wp P Q a0 W:=by
 simp only [Bool.and_eq_true,decide_eq_true_eq] at h;obtain⟨h1,h2,h3,h4,h5,h6,h7,h8,hD,h9,h10⟩:=h;refine Jw Js ds late soft D bs k hBW h1 h2 h3 h4 h5 h6 h7 h8 h9 h10 (fun i hi=>?_) hstep hstepD hsft hdone;have h:=List.all_eq_true.1 hD i (by simpa using hi);simpa using h
end
theorem qy {k:Int} (h:k.natAbs < 2 ^ m) (hm:0 < m):Ht m (k:Rat):=by
 refine⟨by rw [Rat.num_intCast]; exact h,?_⟩;rw [Rat.den_intCast];exact Nat.one_lt_two_pow (by omega)
theorem q0m {n:Int} (hk:Ht K x) (hf:(flo x).natAbs < 1000000000) {p:Nat} (hp:p < (vW x n).length):0<=cI (vW x n) p/\cI (vW x n) p < n - 1/\Ht (K+31) (cQ (vW x n) p):=by
 have h:∀ e∈vW x n,0<=e.1/\e.1 < n - 1/\Ht (K+31) e.2:=by
  intro e he;unfold vW at he
  rcases List.mem_append.1 he with he | he
  ·unfold q2w at he
   split at he
   ·rename_i hc
    rw [List.mem_singleton] at he;subst he;exact⟨hc.1,hc.2,(hk.sub (qy (m:=30) (by omega) (by omega))).mono (by omega)⟩
   ·cases he
  ·unfold XU at he
   split at he
   ·rename_i hc
    rw [List.mem_singleton] at he;subst he;exact⟨by show 0<=flo x - 1; omega,by show flo x - 1 < n - 1; omega,(qy (m:=1) (by decide) (by omega)).mono (by omega)⟩
   ·cases he
 have hm:=h _ (List.getElem_mem hp);unfold cI cQ;rw [List.getElem?_eq_getElem hp];exact hm
theorem q2q {α β:Type} {f:α->Option β} {l:List α} {p:Nat} (h:(l.take p).findSome? f=none) {a:α} (ha:l[p]?=some a) {q:β} (hq:f a=some q):l.findSome? f=some q:=by
 obtain⟨hp,rfl⟩:=List.getElem?_eq_some_iff.1 ha;rw [<-List.take_append_drop p l,List.findSome?_append,h,List.drop_eq_getElem_cons hp,List.findSome?_cons,hq]
 rfl
theorem q03 {α β:Type} {f:α->Option β} {l:List α} {p:Nat} (h:(l.take p).findSome? f=none) {a:α} (ha:l[p]?=some a) (hq:f a=none):(l.take (p+1)).findSome? f=none:=by
 obtain⟨hp,rfl⟩:=List.getElem?_eq_some_iff.1 ha;rw [List.take_succ_eq_append_getElem hp,List.findSome?_append,h,List.findSome?_cons,hq]
 rfl
theorem q2r {α β:Type} {f:α->Option β} {l:List α} {p:Nat} (h:(l.take p).findSome? f=none) (hp:l.length<=p):l.findSome? f=none:=by
 rw [List.take_of_length_le hp] at h;exact h
theorem c_at {l:List (Int×Rat)} {p:Nat} (hp:p < l.length):l[p]?=some (cI l p,cQ l p):=by
 unfold cI cQ;rw [List.getElem?_eq_getElem hp]
 rfl
theorem IzV.wide {lo' hi':Nat} {w:World} {v:Value} {z:Nat->Int} (h:IzV N lo hi w v n z):IzV N lo' hi' w v n z:=⟨rfl,h.2⟩
theorem Cel.ext {w:World} {v1 v2:Value} {l:List (Int×Rat)} (h:Cel N w v1 v2 l) (e:Ext w w'):Cel N w' v1 v2 l :=
 ⟨IzV.wide (h.1.ext e),LsR.wide (h.2.ext e) (q_r) e.size (q_r)⟩
def Mn.cel (N:Nat) (l:List (Int×Rat)):Mn:=⟨fun v w=>∃ v1 v2,v=.tuple #[v1,v2]/\Cel N w v1 v2 l,fun e h=>by
 obtain⟨v1,v2,h0,h1⟩:=h
 exact⟨v1,v2,h0,h1.ext e⟩⟩
def Mn.iz (N n:Nat) (z:Nat->Int):Mn:=⟨fun v w=>IzV N 0 w.heap.size w v n z,fun e h=>IzV.wide (h.ext e)⟩
theorem q29 (h:GOk G) {i j:Int} (hi0:0<=i) (hi1:i < G.wd) (hj0:0<=j) (hj1:j < G.ht) (hn:zAt G i j≠-2147483648) : -1048576<=zAt G i j/\zAt G i j<=1048576:=by
 rcases h.z _ (zidx hi0 hi1 hj0 hj1 h.n).2.1 with h9 | h9
 ·exact absurd h9 hn
 ·exact h9
theorem X6 {i j:Int} {a b:Rat} {r:Nat} (h:¬(0<=orR a b r/\zAt G i j≠jm/\thR G i j r≠jm/\zAt G (i+1) (j+1)≠jm)):QZ G i j a b r=none:=if_neg h
theorem q2G {i j:Int} {a b:Rat} {r:Nat} (h:0<=orR a b r) (h1:zAt G i j≠jm) (h2:thR G i j r≠jm) (h3:zAt G (i+1) (j+1)≠jm):QZ G i j a b r =
  some (((zAt G i j:Int):Rat)+fiR a b r*((thR G i j r - zAt G i j:Int):Rat)+seR a b r*((zAt G (i+1) (j+1) - thR G i j r:Int):Rat)):=if_pos ⟨h,h1,h2,h3⟩
theorem q0R {i j:Int} {a b:Rat} {r:Nat} (h:(QZ G i j a b r).isSome=true):zAt G i j≠-2147483648/\thR G i j r≠-2147483648/\zAt G (i+1) (j+1)≠-2147483648/\QZ G i j a b r =
  some (((zAt G i j:Int):Rat)+fiR a b r*((thR G i j r - zAt G i j:Int):Rat)+seR a b r*((zAt G (i+1) (j+1) - thR G i j r:Int):Rat)):=by
 by_cases hc:0<=orR a b r/\zAt G i j≠jm/\thR G i j r≠jm/\zAt G (i+1) (j+1)≠jm
 ·exact⟨hc.2.1,hc.2.2.1,hc.2.2.2,if_pos hc⟩
 ·rw [X6 hc] at h; cases h
theorem q40 (h:GOk G) {i j:Int} {r:Nat} (hi0:0<=i) (hi1:i < G.wd - 1) (hj0:0<=j) (hj1:j < G.ht - 1) (hn:thR G i j r≠-2147483648) : -1048576<=thR G i j r/\thR G i j r<=1048576:=by
 unfold thR at hn ⊢
 split at hn <;> rename_i h9
 ·rw [if_pos h9]; exact q29 h (by omega) (by omega) (by omega) (by omega) hn
 ·rw [if_neg h9]; exact q29 h (by omega) (by omega) (by omega) (by omega) hn
theorem q4L {a b:Rat} {r:Nat} (ha:Ht k a) (hb:Ht k b):Ht k (fiR a b r):=by unfold fiR; split <;> assumption
theorem q46 {a b:Rat} {r:Nat} (ha:Ht k a) (hb:Ht k b):Ht k (seR a b r):=by unfold seR; split <;> assumption
theorem q44 {i j:Int} {a b:Rat} {r:Nat} (hr:r < 2) (hn:∀ s,s < r->QZ G i j a b s=none) (h:QZ G i j a b r=some q):sqF G (i,a) (j,b)=some q:=by
 unfold sqF;have hr':r=0\/r=1:=by omega
 rcases hr' with rfl | rfl
 ·rw [h]; rfl
 ·rw [hn 0 (by omega),h]; rfl
theorem sq_no {i j:Int} {a b:Rat} (hn:∀ s,s < 2->QZ G i j a b s=none):sqF G (i,a) (j,b)=none:=by
 unfold sqF;rw [hn 0 (by omega),hn 1 (by omega)]; rfl
theorem q31 (a b:Rat) {r:Nat} (hr:r < 2) : -(orR a b r)=orR a b (r+1):=by
 unfold orR;have hr':r=0\/r=1:=by omega
 rcases hr' with rfl | rfl <;> simp
theorem or_le (a b:Rat) (r:Nat) : -1<=orR a b r/\orR a b r<=1:=by
 have h:∀ z:Int,-1<=z.sign/\z.sign<=1:=by
  intro z
  rcases Int.lt_trichotomy z 0 with h | h | h
  ·rw [Int.sign_eq_neg_one_of_neg h]; omega
  ·rw [h]; decide
  ·rw [Int.sign_eq_one_of_pos h]; omega
 have h1:=h (a.num*b.den - b.num*a.den);unfold orR YP
 split <;> omega
theorem q2H (G:Grd) (i j:Int) (r:Nat):zAt G i (j+1)=thR G i j (r+1):=by unfold thR; rw [if_neg (by omega)]
theorem q3A (a b:Rat) (r:Nat):b=fiR a b (r+1):=by unfold fiR; rw [if_neg (by omega)]
theorem q2P (a b:Rat) (r:Nat):a=seR a b (r+1):=by unfold seR; rw [if_neg (by omega)]
theorem YR {w:World} (h:Ji N w g q):g < w.heap.size:=by
 obtain⟨b,A,n,c,A',n',c',h,-⟩:=h;exact qI h
def ZC (w5:World) (gG:Nat) (i j z:Int):Prop:=∀ wi,Ext w5 wi->Calls Tryz.prog 102 #[.int .i64 i,.int .i64 j,.pointer (some ⟨gG,0,none⟩)] wi (q3M wi (.int .i64 z))
theorem q0L {gG:Nat} {w w5:World} (hb:GBlk w gG G A c) (hz:IzV N lo hi w (.slice A G.n c) G.n G.z) (e5:Ext w w5) (hG:GOk G) {i j:Int} (hi0:0<=i) (hi1:i < G.wd) (hj0:0<=j) (hj1:j < G.ht):ZC w5 gG i j (zAt G i j) :=
 fun _ e=>o_z (show GBlk _ _ _ _ _ from (e5.trans e).block hb) (hz.ext (e5.trans e)) hi0 hi1 hj0 hj1 hG.w1 hG.h1 hG.n
theorem ZC.v {w5:World} {gG:Nat} {i j:Int} (h:ZC w5 gG i j z) (e:Ext w5 w'):Calls Tryz.prog 102 #[.int .i64 i,.int .i64 j,.pointer (some ⟨gG,0,none⟩)] w' (zG w' (.int .i64 z)):=(h w' e).mono fun _ _ h=>h.v
def q2A (N:Nat) (w:World) (o:Option Rat) (e:Ending) (w':World):Prop :=
 match o with
 | some q=>∃ v,e=.returned (.tuple #[v,.bool true])/\qp N w' v q/\Ext w w'
 | none=>e=.returned (.tuple #[.agg #[.bool false,.slice none 0 0,.bool false,.slice none 0 0],.bool false])/\Ext w w'
set_option maxRecDepth 100000 in
theorem Yr {w:World} {vg vx vy:Value} {y:Rat} (hg:Ze N lo hi w vg G) (hG:GOk G) (hx:qp N w vx x) (hy:qp N w vy y) (hkx:Ht K x) (hky:Ht K y) (hK:K<=1000000)
  (hfx:(flo (zX x G.x0 G.st)).natAbs < 1000000000) (hfy:(flo (zX y G.y0 G.st)).natAbs < 1000000000) :
  Calls Tryz.prog 51 #[vg,vx,vy] w (q2A N w (Jd G x y)):=by
 have hN:=hx.le;obtain⟨A,c,rfl,-,-,hz⟩:=hg.parts;have HX:=q_h hx;have HY:=q_h hy;obtain⟨m1,X1,i1,d1,X2,i2,d2,rfl,hm1,gx1,gx2⟩:=hx.parts;obtain⟨m2,Y1,i3,d3,Y2,i4,d4,rfl,hm2,gy1,gy2⟩:=hy.parts;clear hx hy gx1 gx2 gy1 gy2;have HG:=q_h hG;have HZ:=q_h hz;obtain⟨res,hres⟩:=qf (Jd G x y);rw [<-hres.out];obtain⟨⟨g1,g2,g3,g4,g5,g6,g7,g8,g9,g10⟩,-,-⟩:(2<=G.wd/\G.wd<=64/\2<=G.ht/\G.ht<=64/\2<=G.st/\G.st<=65536/\-1048576<=G.x0/\G.x0<=1048576/\-1048576<=G.y0/\G.y0<=1048576)/\True/\True:=⟨⟨hG.w0,hG.w1,hG.h0,hG.h1,hG.s0,hG.s1,hG.x0,hG.x1,hG.y0,hG.y1⟩,trivial,trivial⟩
 have HU:Hid (Ht (K+39) (zX x G.x0 G.st)):=((hkx.sub (qy (m:=21) (by omega) (by omega))).div (qy (m:=17) (by omega) (by omega))).mono (by omega);have HV:Hid (Ht (K+39) (zX y G.y0 G.st)):=((hky.sub (qy (m:=21) (by omega) (by omega))).div (qy (m:=17) (by omega) (by omega))).mono (by omega);clear hg hG hz;go_enter Tryz.func51,Tryz.ntmps51;go_wp2_with (go_at_call 61; refine q_o ?_);refine q3I ?_;intro W hE hsz B0 B1 B2 B3;obtain⟨a0,a1,a2,a3,a4,a5⟩:=xk B0;refine (qW (N:=N) (by omega) G.st (by omega) (by omega)).mono ?_;rintro e w1 hh;obtain⟨b3,A11,k11,c11,A12,k12,c12,rfl,hb3,gw5,gw6,e1⟩:=hh.form;replace B0:=e1.block B0;replace B1:=e1.block B1;replace B2:=e1.block B2;replace B3:=e1.block B3;replace hE:=hE.trans e1;replace hsz:=q_l hsz e1.size;clear a0 a1 a2 a3 a4 a5;go_upto_region 2 with (fail);refine ql ?_;intro w2 e2 hsz2 B4;obtain⟨g8,hg8⟩:∃ g8,g8=w1.heap.size:=⟨_,rfl⟩
 rw [<-hg8] at B4 ⊢;replace B0:=e2.block B0;replace B1:=e2.block B1;replace B2:=e2.block B2;replace B3:=e2.block B3;have hx2:=HX.out.ext (hE.trans e2);have hy2:=HY.out.ext (hE.trans e2);have hs2:qp N w2 _ (G.st:Rat):=qp.mk hb3 (gw5.ext e2) (gw6.ext e2);replace hE:=hE.trans e2;obtain⟨a0,a1,a2,a3,a4,a5⟩:=xk B0;obtain⟨p0,p1,p2,p3,-⟩:=cells4 B1;obtain⟨q0,q1,q2,q3,-⟩:=cells4 B2;obtain⟨s0,s1,s2,s3,-⟩:=cells4 B4;have hg8':g8 < w2.heap.size:=qI B4;have HST:Hid (((G.st:Int):Rat)≠0):=by rw [Hid,Ne,Rat.intCast_eq_zero_iff]; omega
 have HSS:Hid (Sz ((G.st:Int):Rat)):=xn (by omega);have HSX:Hid (Sz (x - (G.x0:Rat))):=(hkx.sub (qy (m:=21) (by omega) (by omega))).sz (by omega);have HSY:Hid (Sz (y - (G.y0:Rat))):=(hky.sub (qy (m:=21) (by omega) (by omega))).sz (by omega);have HSX0:Hid (Sz x):=hkx.sz (by omega);have HSY0:Hid (Sz y):=hky.sz (by omega);obtain⟨u,hu⟩:=qf (zX x G.x0 G.st);obtain⟨v,hv⟩:=qf (zX y G.y0 G.st);have HFX:Hid ((flo u).natAbs < 1000000000):=by rw [hu.out]; exact hfx
 have HFY:Hid ((flo v).natAbs < 1000000000):=by rw [hv.out]; exact hfy
 rw [<-hu.out] at HU;rw [<-hv.out] at HV;have HSU:Hid (Sz u/\Sz (u - (flo u:Rat))):=⟨HU.out.sz (by omega),(HU.out.sub (qy (m:=30) (by have:=HFX.out; omega) (by omega))).sz (by omega)⟩
 have HSV:Hid (Sz v/\Sz (v - (flo v:Rat))):=⟨HV.out.sz (by omega),(HV.out.sub (qy (m:=30) (by have:=HFY.out; omega) (by omega))).sz (by omega)⟩
 obtain⟨l1,hl1⟩:=qf (vW u G.wd);obtain⟨l2,hl2⟩:=qf (vW v G.ht);have HM1:Hid (∀ p,p < l1.length->0<=cI l1 p/\cI l1 p < G.wd - 1/\Ht (K+70) (cQ l1 p)):=by rw [hl1.out]; exact fun p hp=>q0m HU.out HFX.out hp
 have HM2:Hid (∀ p,p < l2.length->0<=cI l2 p/\cI l2 p < G.ht - 1/\Ht (K+70) (cQ l2 p)):=by rw [hl2.out]; exact fun p hp=>q0m HV.out HFY.out hp
 have HRES:Hid (res=q1C G l1 l2):=by rw [hres.out,hl1.out,hl2.out,hu.out,hv.out]; rfl
 clear hkx hky hfx hfy hg8 B4 gw5 gw6 hres;refine jE [Mn.rat N (x),Mn.q w.heap.size 0,Mn.i G.x0,Mn.rat N ((G.x0:Int):Rat),Mn.rat N (x - ((G.x0:Int):Rat)),Mn.rat N (((G.st:Int):Rat)),Mn.rat N u,Mn.q w.heap.size 3,Mn.i G.wd,Mn.cel N l1,Mn.cel N l1,Mn.iz N l1.length (cI l1),Mn.ls N l1.length (cQ l1),Mn.iz N l1.length (cI l1),Mn.ls N l1.length (cQ l1)] (sM [29,30,31,32,33,34,35,36,37,38,28,39,40,9,10]) [] (rQ 15 0) 0 (by kernel_rfl) ?_ ?_
 ·show ∀ i,i < 15->_
  iterate 15 refine fs ?_ ?_
  ·exact fz
  all_goals intro hl; clear hl; refine stp rfl ?_; intro ac wi eI hB hA K hK
  have o4:=oOf (hB 4) rfl;clear hB hA;have cc0:=eI.cell p0;have cc1:=eI.cell p1;have cc2:=eI.cell p2;have cc3:=eI.cell p3
  ·go_simp;exact q_k hK (hx2.ext eI)
  have o3:=oOf (hB 3) rfl
  rotate_left
  obtain⟨_,s30,rfl⟩:=hA 1 30;have cc0:=eI.cell a0
  rotate_left
  obtain⟨_,s31,rfl⟩:=hA 2 31;clear hB hA
  ·go_simp;refine (qW (q_l (by omega:N<=w2.heap.size) eI.size) G.x0 (by omega) (by omega)).mono ?_;rintro e wj ⟨vj,rfl,hj,ej⟩;go_wp2_with fail;exact hK.out _ _ ej hj
  obtain⟨x29,s29,j29⟩:=hA 0 29;replace j29:Mn.p (Mn.rat N (x)) x29 wi:=j29;obtain⟨x32,s32,j32⟩:=hA 3 32;replace j32:Mn.p (Mn.rat N ((G.x0:Int):Rat)) x32 wi:=j32;clear hB hA
  ·go_simp;refine (yY j29 j32 HSX0.out (xn (by omega))).mono ?_;rintro e wj ⟨vj,rfl,hj,ej⟩;go_wp2_with fail;exact hK.out _ _ ej hj
  have o8:=oOf (hB 8) rfl;clear hB hA;have cc0:=eI.cell s0;have cc1:=eI.cell s1;have cc2:=eI.cell s2;have cc3:=eI.cell s3
  ·go_simp;exact q_k hK (hs2.ext eI)
  obtain⟨x33,s33,j33⟩:=hA 4 33;replace j33:Mn.p (Mn.rat N (x - ((G.x0:Int):Rat))) x33 wi:=j33;obtain⟨x34,s34,j34⟩:=hA 5 34;replace j34:Mn.p (Mn.rat N (((G.st:Int):Rat))) x34 wi:=j34;clear hB hA
  ·go_simp;refine (QI j33 j34 HSX.out HSS.out HST.out).mono ?_;rw [show (x - ((G.x0:Int):Rat)) / ((G.st:Int):Rat)=u from hu.out.symm];rintro e wj ⟨vj,rfl,hj,ej⟩;go_wp2_with fail;exact hK.out _ _ ej hj
  have o3:=oOf (hB 3) rfl
  rotate_left
  obtain⟨_,s36,rfl⟩:=hA 7 36;have cc0:=eI.cell a3
  rotate_left
  obtain⟨x35,s35,j35⟩:=hA 6 35;replace j35:Mn.p (Mn.rat N u) x35 wi:=j35;obtain⟨_,s37,rfl⟩:=hA 8 37;clear hB hA
  ·go_simp;refine (WC j35 HSU.out.1 HSU.out.2 HFX.out (by omega) (by omega)).mono ?_;rw [<-hl1.out];rintro e wj ⟨u1,u2,rfl,hj,ej⟩;go_wp2_with fail;exact hK.out _ _ ej ⟨u1,u2,rfl,hj⟩
  obtain⟨x38,s38,j38⟩:=hA 9 38;replace j38:Mn.p (Mn.cel N l1) x38 wi:=j38;clear hB hA
  ·go_simp;exact q_k hK j38
  obtain⟨x28,s28,j28⟩:=hA 10 28;replace j28:Mn.p (Mn.cel N l1) x28 wi:=j28;clear hB hA
  ·obtain⟨u1,u2,rfl,hj⟩:=j28;go_simp;exact q_k hK hj.1
  obtain⟨x28,s28,j28⟩:=hA 10 28;replace j28:Mn.p (Mn.cel N l1) x28 wi:=j28;clear hB hA
  ·obtain⟨u1,u2,rfl,hj⟩:=j28;go_simp;exact q_k hK hj.2
  obtain⟨x39,s39,j39⟩:=hA 11 39;replace j39:Mn.p (Mn.iz N l1.length (cI l1)) x39 wi:=j39;clear hB hA
  ·go_simp;exact q_k hK j39
  obtain⟨x40,s40,j40⟩:=hA 12 40;replace j40:Mn.p (Mn.ls N l1.length (cQ l1)) x40 wi:=j40;clear hB hA
  ·go_simp;exact q_k hK j40
  all_goals clear hB hA; go_simp; exact q_k hK rfl
 intro vals wz eZ hJ;have J9:Mn.p (Mn.iz N l1.length (cI l1)) (vals 13) wz:=hJ 13 (by decide) (by decide);have J10:Mn.p (Mn.ls N l1.length (cQ l1)) (vals 14) wz:=hJ 14 (by decide) (by decide);clear hJ;simp only [pr,Nat.reduceAdd]
 generalize vals 13=z9 at J9 ⊢
 generalize vals 14=z10 at J10 ⊢
 refine qi (by kernel_rfl) ?_ _;have I9:IzV N 0 wz.heap.size wz z9 l1.length (cI l1):=J9;have I10:LsV N 0 wz.heap.size wz z10 l1.length (cQ l1):=J10;clear J9 J10;obtain⟨w3,hw3⟩:∃ w3,w3=wz:=⟨_,rfl⟩
 subst hw3;replace hE:=hE.trans eZ;replace B0:=eZ.block B0;replace B3:=eZ.block B3;replace hy2:=hy2.ext eZ;replace hs2:=hs2.ext eZ;replace q0:=eZ.cell q0;replace q1:=eZ.cell q1;replace q2:=eZ.cell q2;replace q3:=eZ.cell q3;replace s0:=eZ.cell s0;replace s1:=eZ.cell s1;replace s2:=eZ.cell s2;replace s3:=eZ.cell s3;have hN3:N<=w3.heap.size:=by have:=hE.size; omega
 clear eZ a0 a1 a2 a3 a4 a5 p0 p1 p2 p3 hx2 B1 B2;obtain⟨a0,a1,a2,a3,a4,a5⟩:=xk B0;go_upto_region 3 with (fail);refine jE [Mn.rat N (y),Mn.q w.heap.size 1,Mn.i G.y0,Mn.rat N ((G.y0:Int):Rat),Mn.rat N (y - ((G.y0:Int):Rat)),Mn.rat N (((G.st:Int):Rat)),Mn.rat N v,Mn.q w.heap.size 4,Mn.i G.ht,Mn.cel N l2,Mn.cel N l2,Mn.iz N l2.length (cI l2),Mn.ls N l2.length (cQ l2),Mn.iz N l2.length (cI l2),Mn.ls N l2.length (cQ l2)] (sM [42,43,44,45,46,47,48,49,50,51,41,52,53,11,12]) [] (rQ 15 0) 0 (by kernel_rfl) ?_ ?_
 ·show ∀ i,i < 15->_
  iterate 15 refine fs ?_ ?_
  ·exact fz
  all_goals intro hl; clear hl; refine stp rfl ?_; intro ac wi eI hB hA K hK
  have o5:=oOf (hB 5) rfl;clear hB hA;have cc0:=eI.cell q0;have cc1:=eI.cell q1;have cc2:=eI.cell q2;have cc3:=eI.cell q3
  ·go_simp;exact q_k hK (hy2.ext eI)
  have o3:=oOf (hB 3) rfl
  rotate_left
  obtain⟨_,s43,rfl⟩:=hA 1 43;have cc0:=eI.cell a1
  rotate_left
  obtain⟨_,s44,rfl⟩:=hA 2 44;clear hB hA
  ·go_simp;refine (qW (q_l (by omega:N<=w3.heap.size) eI.size) G.y0 (by omega) (by omega)).mono ?_;rintro e wj ⟨vj,rfl,hj,ej⟩;go_wp2_with fail;exact hK.out _ _ ej hj
  obtain⟨x42,s42,j42⟩:=hA 0 42;replace j42:Mn.p (Mn.rat N (y)) x42 wi:=j42;obtain⟨x45,s45,j45⟩:=hA 3 45;replace j45:Mn.p (Mn.rat N ((G.y0:Int):Rat)) x45 wi:=j45;clear hB hA
  ·go_simp;refine (yY j42 j45 HSY0.out (xn (by omega))).mono ?_;rintro e wj ⟨vj,rfl,hj,ej⟩;go_wp2_with fail;exact hK.out _ _ ej hj
  have o8:=oOf (hB 8) rfl;clear hB hA;have cc0:=eI.cell s0;have cc1:=eI.cell s1;have cc2:=eI.cell s2;have cc3:=eI.cell s3
  ·go_simp;exact q_k hK (hs2.ext eI)
  obtain⟨x46,s46,j46⟩:=hA 4 46;replace j46:Mn.p (Mn.rat N (y - ((G.y0:Int):Rat))) x46 wi:=j46;obtain⟨x47,s47,j47⟩:=hA 5 47;replace j47:Mn.p (Mn.rat N (((G.st:Int):Rat))) x47 wi:=j47;clear hB hA
  ·go_simp;refine (QI j46 j47 HSY.out HSS.out HST.out).mono ?_;rw [show (y - ((G.y0:Int):Rat)) / ((G.st:Int):Rat)=v from hv.out.symm];rintro e wj ⟨vj,rfl,hj,ej⟩;go_wp2_with fail;exact hK.out _ _ ej hj
  have o3:=oOf (hB 3) rfl
  rotate_left
  obtain⟨_,s49,rfl⟩:=hA 7 49;have cc0:=eI.cell a4
  rotate_left
  obtain⟨x48,s48,j48⟩:=hA 6 48;replace j48:Mn.p (Mn.rat N v) x48 wi:=j48;obtain⟨_,s50,rfl⟩:=hA 8 50;clear hB hA
  ·go_simp;refine (WC j48 HSV.out.1 HSV.out.2 HFY.out (by omega) (by omega)).mono ?_;rw [<-hl2.out];rintro e wj ⟨u1,u2,rfl,hj,ej⟩;go_wp2_with fail;exact hK.out _ _ ej ⟨u1,u2,rfl,hj⟩
  obtain⟨x51,s51,j51⟩:=hA 9 51;replace j51:Mn.p (Mn.cel N l2) x51 wi:=j51;clear hB hA
  ·go_simp;exact q_k hK j51
  obtain⟨x41,s41,j41⟩:=hA 10 41;replace j41:Mn.p (Mn.cel N l2) x41 wi:=j41;clear hB hA
  ·obtain⟨u1,u2,rfl,hj⟩:=j41;go_simp;exact q_k hK hj.1
  obtain⟨x41,s41,j41⟩:=hA 10 41;replace j41:Mn.p (Mn.cel N l2) x41 wi:=j41;clear hB hA
  ·obtain⟨u1,u2,rfl,hj⟩:=j41;go_simp;exact q_k hK hj.2
  obtain⟨x52,s52,j52⟩:=hA 11 52;replace j52:Mn.p (Mn.iz N l2.length (cI l2)) x52 wi:=j52;clear hB hA
  ·go_simp;exact q_k hK j52
  obtain⟨x53,s53,j53⟩:=hA 12 53;replace j53:Mn.p (Mn.ls N l2.length (cQ l2)) x53 wi:=j53;clear hB hA
  ·go_simp;exact q_k hK j53
  all_goals clear hB hA; go_simp; exact q_k hK rfl
 intro vals wz eZ hJ;have J11:Mn.p (Mn.iz N l2.length (cI l2)) (vals 13) wz:=hJ 13 (by decide) (by decide);have J12:Mn.p (Mn.ls N l2.length (cQ l2)) (vals 14) wz:=hJ 14 (by decide) (by decide);clear hJ;simp only [pr,Nat.reduceAdd]
 generalize vals 13=z11 at J11 ⊢
 generalize vals 14=z12 at J12 ⊢
 refine qi (by kernel_rfl) ?_ _;have I11:IzV N 0 wz.heap.size wz z11 l2.length (cI l2):=J11;have I12:LsV N 0 wz.heap.size wz z12 l2.length (cQ l2):=J12;replace I9:=I9.ext eZ;replace I10:=I10.ext eZ;clear J11 J12;obtain⟨w4,hw4⟩:∃ w4,w4=wz:=⟨_,rfl⟩
 subst hw4;replace hE:=hE.trans eZ;replace B0:=eZ.block B0;replace B3:=eZ.block B3;clear eZ a0 a1 a2 a3 a4 a5 q0 q1 q2 q3 s0 s1 s2 s3 hy2 hs2;obtain⟨A9,c9,rfl,hn9,hc9⟩:=I9.form;obtain⟨A10,c10,rfl,-,hc10⟩:=I10.form;obtain⟨A11',c11',rfl,hn11,hc11⟩:=I11.form;obtain⟨A12',c12',rfl,-,hc12⟩:=I12.form;unfold maxLen at hc9 hc10 hc11 hc12;have HBG:Hid (GBlk w4 w.heap.size G A c):=B0;have HBR:=q_h B3;have HGN:=HG.out.n;have hN4:N<=w4.heap.size:=by have:=hE.size; omega
 clear B0 B3;go_wp2
 go_loopw [57] (fun i wr=>∃ p:Nat,p<=l1.length/\i=.int .i64 p/\Hid ((l1.take p).findSome? (fun e=>q48 G e l2)=none)/\Ext w4 wr) (fun i _=>l1.length - (intOf i).toNat)
 case atStart=>exact⟨0,Nat.zero_le _,rfl,rfl,Ext.refl w4⟩
 case round =>
  obtain⟨p,hp,rfl,HA1,hEr⟩:=hrel
  by_cases hlt:p < l1.length
  case neg =>
   have HR:Hid (res=none):=by rw [Hid,HRES.out]; exact q2r HA1.out (by omega)
   have hBRH:=hEr.block HBR.out;obtain⟨u0,u1,u2,u3,u4,u5,u6,u7⟩:=cells4 hBRH;have hEr0:=hE.trans hEr;clear hEr;go_wp2;obtain⟨wR,ER,FR,UR⟩:=ex4 hBRH (.bool false) (.slice none 0 0) (.bool false) (.slice none 0 0);rw [ER];obtain⟨v0,v1,v2,v3,-⟩:=cells4 FR;refine bodyPost_ret (v:=.tuple #[.agg #[.bool false,.slice none 0 0,.bool false,.slice none 0 0],.bool false]) ?_ rfl ?_
   ·simp [results,Tryz.results51,v0,v1,v2,v3,go_sem]
   rw [HR.out];exact⟨rfl,UR.ext hEr0 (by omega)⟩
  obtain⟨b9,of9,rfl,hx9⟩:=(I9.ext hEr).addr (by omega);have u0:=hx9 p hlt;obtain⟨hi0,hi1,ha⟩:=HM1.out p hlt;obtain⟨i,hid⟩:=qf (cI l1 p);obtain⟨a,had⟩:=qf (cQ l1 p);rw [<-hid.out] at u0 hi0 hi1;rw [<-had.out] at ha;have HAT:Hid (l1[p]?=some (i,a)):=by rw [Hid,hid.out,had.out]; exact c_at hlt
  clear hx9;go_wp2;obtain⟨wq,hwq⟩:∃ wq,wq=wr:=⟨wr,rfl⟩
  subst hwq;clear u0
  go_loopw [64] (fun jv wr=>∃ q:Nat,q<=l2.length/\jv=.int .i64 q/\Hid ((l2.take q).findSome? (sqF G (i,a))=none)/\Ext w4 wr) (fun jv _=>l2.length - (intOf jv).toNat)
  case atStart=>exact⟨0,Nat.zero_le _,rfl,rfl,hEr⟩
  case round =>
   clear hEr;obtain⟨q,hq,rfl,HA2,hEr⟩:=hrel
   by_cases hlt2:q < l2.length
   case neg =>
    have HR:Hid (q48 G (i,a) l2=none):=q2r HA2.out (by omega);go_wp2;go_roundw
    case rel=>exact⟨p+1,by omega,by go_num,q03 HA1.out HAT.out HR.out,hEr⟩
    case measure=>simp [intOf]; omega
   obtain⟨b11,of11,rfl,hx11⟩:=(I11.ext hEr).addr (by omega);have v0:=hx11 q hlt2;obtain⟨hj0,hj1,hb⟩:=HM2.out q hlt2;obtain⟨j,hjd⟩:=qf (cI l2 q);obtain⟨b,hbd⟩:=qf (cQ l2 q);rw [<-hjd.out] at v0 hj0 hj1;rw [<-hbd.out] at hb;have HAT2:Hid (l2[q]?=some (j,b)):=by rw [Hid,hjd.out,hbd.out]; exact c_at hlt2
   obtain⟨b10,of10,rfl,-,-,hx10⟩:=(I10.ext hEr).addr (by omega);obtain⟨b12,of12,rfl,-,-,hx12⟩:=(I12.ext hEr).addr (by omega);obtain⟨nr,Ar,kr,cr,A'r,k'r,c'r,r0,r1,r2,r3,hRr⟩:=(hx10 p (by omega)).opn;obtain⟨nt,At,kt,ct,A't,k't,c't,t0,t1,t2,t3,hRt⟩:=(hx12 q (by omega)).opn;rw [<-had.out] at hRr;rw [<-hbd.out] at hRt;clear hx10 hx11 hx12;go_upto_region 11 with (fail);refine regL [Mn.eq (.slice (some ⟨b10,of10,none⟩) l1.length c10),Mn.i (p:Int),Mn.q b10 (of10+p*4),Mn.rat N (a),Mn.eq (.slice (some ⟨b12,of12,none⟩) l2.length c12'),Mn.i (q:Int),Mn.q b12 (of12+q*4),Mn.rat N (b),Mn.blk wr.heap.size (.cells #[.bool false,.slice none 0 0,.bool false,.slice none 0 0] 29 (0,0)),Mn.blk wr.heap.size (.cells #[.bool false,.slice none 0 0,.bool false,.slice none 0 0] 29 (0,0)),Mn.any,Mn.any] [some 69,some 70,some 71,some 72,some 73,some 74,some 75,some 76,some 18,some 19,none,none] [10,11] [4,5,6,7] [8,9] (rQ 10 2) 2 (Ext.refl _) (by kernel_rfl) ?_ ?_ ?_ ?_
   ·show ∀ i,i < 12->_
    iterate 12 refine fs ?_ ?_
    ·exact fz
    all_goals intro hl hs hd; first | exact absurd hl (by decide) | exact absurd hs (by decide) | exact absurd hd (by decide) | (clear hl hs hd; refine stp rfl ?_; intro ac wi eI hB hA K hK)
    have o10:=oOf (hB 10) rfl
    rotate_left
    have o14:=oOf (hB 14) rfl
    rotate_left
    obtain⟨_,s69,rfl⟩:=hA 0 69;obtain⟨_,s70,rfl⟩:=hA 1 70
    rotate_left
    obtain⟨_,s71,rfl⟩:=hA 2 71;clear hB hA;have cc0:=eI.cell r0;have cc1:=eI.cell r1;have cc2:=eI.cell r2;have cc3:=eI.cell r3
    ·go_simp;exact q_k hK (hRr.ext eI)
    all_goals clear hB hA; go_simp; exact q_k hK rfl
   ·intro i hs;have hi':i=8\/i=9:=by simpa using hs
    clear hs
    rcases hi' with rfl | rfl
    ·refine stpD rfl ?_;intro ac wi eI hB hA K hK;clear hB hA;go_simp;refine ql ?_;intro wj ej hszj BJ;exact hK.out _ _ ej ⟨_,rfl,eI.size,BJ⟩ ⟨_,rfl,q_r,qI BJ⟩
    ·refine stpD rfl ?_;intro ac wi eI hB hA K hK;clear hB hA;go_simp;refine ql ?_;intro wj ej hszj BJ;exact hK.out _ _ ej ⟨_,rfl,eI.size,BJ⟩ ⟨_,rfl,q_r,qI BJ⟩
   ·intro i hs;have hi':i=4\/i=5\/i=6\/i=7:=by simpa using hs
    clear hs
    rcases hi' with rfl | rfl | rfl | rfl
    ·refine q2e rfl (fun _ _ _ _ h=>h) ?_;intro ac wi eI hB hA;have o12:=oOf (hB 12) rfl;clear hB hA;refine⟨(.slice (some ⟨b12,of12,none⟩) l2.length c12'),.inl ⟨rfl,fun w9 _=>?_⟩,rfl⟩;go_simp
    ·refine q2e rfl (fun _ _ _ _ h=>h) ?_;intro ac wi eI hB hA;have o16:=oOf (hB 16) rfl;clear hB hA;refine⟨(.int .i64 (q:Int)),.inl ⟨rfl,fun w9 _=>?_⟩,rfl⟩;go_simp
    ·refine q2e rfl (fun _ _ _ _ h=>h) ?_;intro ac wi eI hB hA;obtain⟨_,s73,rfl⟩:=hA 4 73;obtain⟨_,s74,rfl⟩:=hA 5 74;clear hB hA;refine⟨(.pointer (some ⟨b12,of12+q*4,none⟩)),.inl ⟨rfl,fun w9 _=>?_⟩,rfl⟩;go_simp
    ·refine q2e rfl (fun _ _ _ _ h=>h) ?_;intro ac wi eI hB hA;obtain⟨_,s75,rfl⟩:=hA 6 75;clear hB hA;refine⟨_,.inl ⟨rfl,fun w9 e9=>?_⟩,hRt.ext eI⟩;have cc0:=e9.cell t0;have cc1:=e9.cell t1;have cc2:=e9.cell t2;have cc3:=e9.cell t3;go_simp
   intro vals wz eZ hJ hD;have hD18_19:vals 8≠vals 9:=hD 8 9 (by decide) (by decide) (by decide);clear hD;have J72:Mn.p (Mn.rat N (a)) (vals 3) wz:=hJ 3 (by decide) (by decide);have J76:Mn.p (Mn.rat N (b)) (vals 7) wz:=hJ 7 (by decide) (by decide);have J18:Mn.p (Mn.blk wr.heap.size (.cells #[.bool false,.slice none 0 0,.bool false,.slice none 0 0] 29 (0,0))) (vals 8) wz:=hJ 8 (by decide) (by decide);have J19:Mn.p (Mn.blk wr.heap.size (.cells #[.bool false,.slice none 0 0,.bool false,.slice none 0 0] 29 (0,0))) (vals 9) wz:=hJ 9 (by decide) (by decide);clear hJ;simp only [pr,Nat.reduceAdd]
   generalize vals 3=z72 at J72 ⊢
   generalize vals 7=z76 at J76 ⊢
   generalize vals 8=z18 at J18 hD18_19 ⊢
   generalize vals 9=z19 at J19 hD18_19 ⊢
   obtain⟨gA,rfl,hgA,BA⟩:=J18;obtain⟨gB,rfl,hgB,BB⟩:=J19;have hAB:gA≠gB:=fun e=>hD18_19 (by rw [e])
   obtain⟨bz,Az,kz,cz,Az',kz',cz',rfl,hbz,gz1,gz2⟩:=qp.parts J72;obtain⟨by',Ay,ky,cy,Ay',ky',cy',rfl,hby,gy1,gy2⟩:=qp.parts J76;obtain⟨m0,m1,m2,m3,m4,m5,m6,m7⟩:=cells4 BA;obtain⟨n0,n1,n2,n3,n4,n5,n6,n7⟩:=cells4 BB;refine zY (i:=10) rfl (by kernel_rfl) (fun K hK=>?_);go_simp;refine hK.out _ _ (fun e9=>?_) ?_
   ·repeat (first | with_reducible exact e9 | refine Ext.setCell ?_ (by dsimp only; omega) _)
   clear hK K;try simp only [nr]
   refine zY (i:=11) rfl (by kernel_rfl) (fun K hK=>?_);go_simp;refine hK.out _ _ (fun e9=>?_) ?_
   ·repeat (first | with_reducible exact e9 | refine Ext.setCell ?_ (by dsimp only; omega) _)
   clear hK K;try simp only [nr]
   refine qi (by kernel_rfl) ?_ _;obtain⟨wA,EA,hBA,KA,hsA⟩:=kN (q:=a) BA (by have:=hEr.size; omega) hbz gz1 gz2;rw [EA];have hNA:N<=gA:=by have:=hEr.size; omega
   obtain⟨wB,EB,hBB,KB,hsB⟩:=kN (q:=b) (KA.blk BB (by omega)) (by have:=hEr.size; omega) hby (gy1.chg KA hNA) (gy2.chg KA hNA);rw [EB];replace hBA:=hBA.chg KB (by have:=hEr.size; omega) (by omega);have hE5:Ext w4 wB:=KB.ext (KA.ext (hEr.trans eZ) (by have:=hEr.size; omega)) (by have:=hEr.size; omega);have hlA:gA < wB.heap.size:=by have:=qI BA; omega
   have hlB:gB < wB.heap.size:=by have:=qI BB; omega
   have hlA4:w4.heap.size<=gA:=by have:=hEr.size; omega
   have hlB4:w4.heap.size<=gB:=by have:=hEr.size; omega
   clear m0 m1 m2 m3 m4 m5 m6 m7 n0 n1 n2 n3 n4 n5 n6 n7 EA EB KA KB BA BB hsA hsB hbz gz1 gz2 hby gy1 gy2 J72 J76 r0 r1 r2 r3 t0 t1 t2 t3 hRr hRt hD18_19 eZ v0 hEr hgA hgB;obtain⟨w5,hw5⟩:∃ w5,w5=wB:=⟨_,rfl⟩
   subst hw5;have HBA:=q_h hBA;have HBB:=q_h hBB;obtain⟨nm,Am,km,cm,A'm,k'm,c'm,Bm,hbm,ym,zm⟩:=hBA;obtain⟨m0,m1,m2,m3,-⟩:=cells4 Bm;have hRm:qp N w5 (.agg #[.bool nm,.slice Am km cm,.bool false,.slice A'm k'm c'm]) (a):=qp.mk hbm ym zm;obtain⟨nn,An,kn,cn,A'n,k'n,c'n,Bn,hbn,yn,zn⟩:=hBB;obtain⟨n0,n1,n2,n3,-⟩:=cells4 Bn;have hRn:qp N w5 (.agg #[.bool nn,.slice An kn cn,.bool false,.slice A'n k'n c'n]) (b):=qp.mk hbn yn zn;clear hbm ym zm hbn yn zn Bm Bn;have hwi:IntKind.i64.wrap (i+1)=i+1:=IntWalk.i64_in _ (by omega);have hwj:IntKind.i64.wrap (j+1)=j+1:=IntWalk.i64_in _ (by omega);have HZ4:Hid (IzV N lo hi w4 (.slice A G.n c) G.n G.z):=HZ.out.ext hE;have HZ00:Hid (ZC w5 w.heap.size i j (zAt G i j)):=q0L HBG.out HZ4.out hE5 HG.out (by omega) (by omega) (by omega) (by omega);have HZ10:Hid (ZC w5 w.heap.size (i+1) j (zAt G (i+1) j)):=q0L HBG.out HZ4.out hE5 HG.out (by omega) (by omega) (by omega) (by omega);have HZ01:Hid (ZC w5 w.heap.size i (j+1) (zAt G i (j+1))):=q0L HBG.out HZ4.out hE5 HG.out (by omega) (by omega) (by omega) (by omega);have HZ11:Hid (ZC w5 w.heap.size (i+1) (j+1) (zAt G (i+1) (j+1))):=q0L HBG.out HZ4.out hE5 HG.out (by omega) (by omega) (by omega) (by omega);have HL00:Hid (zAt G i j≠-2147483648->-1048576<=zAt G i j/\zAt G i j<=1048576):=q29 HG.out (by omega) (by omega) (by omega) (by omega);have HL10:Hid (zAt G (i+1) j≠-2147483648->-1048576<=zAt G (i+1) j/\zAt G (i+1) j<=1048576):=q29 HG.out (by omega) (by omega) (by omega) (by omega)
   have HL01:Hid (zAt G i (j+1)≠-2147483648->-1048576<=zAt G i (j+1)/\zAt G i (j+1)<=1048576):=q29 HG.out (by omega) (by omega) (by omega) (by omega);have HL11:Hid (zAt G (i+1) (j+1)≠-2147483648->-1048576<=zAt G (i+1) (j+1)/\zAt G (i+1) (j+1)<=1048576):=q29 HG.out (by omega) (by omega) (by omega) (by omega);obtain⟨z00,hz00⟩:=qf (zAt G i j);obtain⟨z10,hz10⟩:=qf (zAt G (i+1) j);obtain⟨z01,hz01⟩:=qf (zAt G i (j+1));obtain⟨z11,hz11⟩:=qf (zAt G (i+1) (j+1));rw [<-hz00.out] at HZ00 HL00;rw [<-hz10.out] at HZ10 HL10;rw [<-hz01.out] at HZ01 HL01;rw [<-hz11.out] at HZ11 HL11;go_upto_region 12 with (fail);refine regL [Mn.eq (.func (.func 102) #[] #[.pointer (some ⟨w.heap.size,0,none⟩)]),Mn.i i,Mn.i (i+1),Mn.i j,Mn.i z10,Mn.rat N (a),Mn.rat N (b),Mn.blk w5.heap.size (.cells #[.bool false,.slice none 0 0,.bool false,.slice none 0 0] 29 (0,0)),Mn.blk w5.heap.size (.cells #[.bool false,.slice none 0 0,.bool false,.slice none 0 0] 29 (0,0)),Mn.i z10,Mn.any,Mn.any] [some 77,some 78,some 79,some 80,some 81,some 82,some 83,some 21,some 22,some 20,none,none] [10,11] [6] [7,8] (rQ 10 2) 2 (Ext.refl _) (by kernel_rfl) ?_ ?_ ?_ ?_
   ·show ∀ i,i < 12->_
    iterate 12 refine fs ?_ ?_
    ·exact fz
    all_goals intro hl hs hd; first | exact absurd hl (by decide) | exact absurd hs (by decide) | exact absurd hd (by decide) | (clear hl hs hd; refine stp rfl ?_; intro ac wi eI hB hA K hK)
    have o13:=oOf (hB 13) rfl
    rotate_left
    have o15:=oOf (hB 15) rfl
    rotate_left
    obtain⟨_,s78,rfl⟩:=hA 1 78
    rotate_left
    have o17:=oOf (hB 17) rfl
    rotate_left
    obtain⟨_,s77,rfl⟩:=hA 0 77;obtain⟨_,s79,rfl⟩:=hA 2 79;obtain⟨_,s80,rfl⟩:=hA 3 80;clear hB hA
    ·go_simp;refine (HZ10.out.v eI).mono ?_;rintro e wj ⟨rfl,ej⟩;go_wp2_with fail;exact hK.out _ _ ej rfl
    have o18:=oOf (hB 18) rfl;clear hB hA;have cc0:=eI.cell m0;have cc1:=eI.cell m1;have cc2:=eI.cell m2;have cc3:=eI.cell m3
    ·go_simp;exact q_k hK (hRm.ext eI)
    obtain⟨_,s81,rfl⟩:=hA 4 81
    rotate_left
    all_goals clear hB hA; go_simp; exact q_k hK rfl
   ·intro i hs;have hi':i=7\/i=8:=by simpa using hs
    clear hs
    rcases hi' with rfl | rfl
    ·refine stpD rfl ?_;intro ac wi eI hB hA K hK;clear hB hA;go_simp;refine ql ?_;intro wj ej hszj BJ;exact hK.out _ _ ej ⟨_,rfl,eI.size,BJ⟩ ⟨_,rfl,q_r,qI BJ⟩
    ·refine stpD rfl ?_;intro ac wi eI hB hA K hK;clear hB hA;go_simp;refine ql ?_;intro wj ej hszj BJ;exact hK.out _ _ ej ⟨_,rfl,eI.size,BJ⟩ ⟨_,rfl,q_r,qI BJ⟩
   ·intro i hs;have hi':i=6:=by simpa using hs
    clear hs
    rcases hi' with rfl
    ·refine q2e rfl (fun _ _ _ _ h=>h) ?_;intro ac wi eI hB hA;have o19:=oOf (hB 19) rfl;clear hB hA;refine⟨_,.inl ⟨rfl,fun w9 e9=>?_⟩,hRn.ext eI⟩;have cc0:=e9.cell n0;have cc1:=e9.cell n1;have cc2:=e9.cell n2;have cc3:=e9.cell n3;go_simp
   intro vals wz eZ hJ hD;have hD21_22:vals 7≠vals 8:=hD 7 8 (by decide) (by decide) (by decide);clear hD;have J82:Mn.p (Mn.rat N (a)) (vals 5) wz:=hJ 5 (by decide) (by decide);have J83:Mn.p (Mn.rat N (b)) (vals 6) wz:=hJ 6 (by decide) (by decide);have J21:Mn.p (Mn.blk w5.heap.size (.cells #[.bool false,.slice none 0 0,.bool false,.slice none 0 0] 29 (0,0))) (vals 7) wz:=hJ 7 (by decide) (by decide);have J22:Mn.p (Mn.blk w5.heap.size (.cells #[.bool false,.slice none 0 0,.bool false,.slice none 0 0] 29 (0,0))) (vals 8) wz:=hJ 8 (by decide) (by decide);have J20:vals 9=_:=hJ 9 (by decide) (by decide);clear hJ;simp only [pr,Nat.reduceAdd,J20];clear J20
   generalize vals 5=z82 at J82 ⊢
   generalize vals 6=z83 at J83 ⊢
   generalize vals 7=z21 at J21 hD21_22 ⊢
   generalize vals 8=z22 at J22 hD21_22 ⊢
   obtain⟨gF,rfl,hgF,BF⟩:=J21;obtain⟨gS,rfl,hgS,BS⟩:=J22;have hFS:gF≠gS:=fun e=>hD21_22 (by rw [e])
   obtain⟨bz,Az,kz,cz,Az',kz',cz',rfl,hbz,gz1,gz2⟩:=qp.parts J82;obtain⟨by',Ay,ky,cy,Ay',ky',cy',rfl,hby,gy1,gy2⟩:=qp.parts J83;obtain⟨x0,x1,x2,x3,x4,x5,x6,x7⟩:=cells4 BF;obtain⟨y0,y1,y2,y3,y4,y5,y6,y7⟩:=cells4 BS;refine zY (i:=10) rfl (by kernel_rfl) (fun K hK=>?_);go_simp;refine hK.out _ _ (fun e9=>?_) ?_
   ·repeat (first | with_reducible exact e9 | refine Ext.setCell ?_ (by dsimp only; omega) _)
   clear hK K;try simp only [nr]
   refine zY (i:=11) rfl (by kernel_rfl) (fun K hK=>?_);go_simp;refine hK.out _ _ (fun e9=>?_) ?_
   ·repeat (first | with_reducible exact e9 | refine Ext.setCell ?_ (by dsimp only; omega) _)
   clear hK K;try simp only [nr]
   refine qi (by kernel_rfl) ?_ _;obtain⟨wF,EF,hBF,KF,hsF⟩:=kN (q:=a) BF (by have:=hE5.size; omega) hbz gz1 gz2;rw [EF];have hNF:N<=gF:=by have:=hE5.size; omega
   obtain⟨wS,ES,hBS,KS,hsS⟩:=kN (q:=b) (KF.blk BS (by omega)) (by have:=hE5.size; omega) hby (gy1.chg KF hNF) (gy2.chg KF hNF);rw [ES];replace hBF:=hBF.chg KS (by omega) (by omega);have hE6:Ext w5 wS:=KS.ext (KF.ext eZ (by omega)) (by omega);have hlF5:w5.heap.size<=gF:=hgF;have hlS5:w5.heap.size<=gS:=hgS;have hNS:N<=gS:=by have:=hE5.size; omega
   have hlF:gF < wS.heap.size:=by have:=qI BF; omega
   have hlS:gS < wS.heap.size:=by have:=qI BS; omega
   clear x0 x1 x2 x3 x4 x5 x6 x7 y0 y1 y2 y3 y4 y5 y6 y7 EF ES KF KS BF BS hsF hsS hbz gz1 gz2 hby gy1 gy2 J82 J83 hD21_22 eZ;obtain⟨w6,hw6⟩:∃ w6,w6=wS:=⟨_,rfl⟩
   subst hw6;have HSA:Hid (Sz a):=ha.sz (by omega);have HSB:Hid (Sz b):=hb.sz (by omega);have HHA:=q_h ha;have HHB:=q_h hb;clear ha hb;have hRm6:=hRm.ext hE6;have hRn6:=hRn.ext hE6;have m0':=hE6.cell m0;have m1':=hE6.cell m1;have m2':=hE6.cell m2;have m3':=hE6.cell m3;have n0':=hE6.cell n0;have n1':=hE6.cell n1;have n2':=hE6.cell n2;have n3':=hE6.cell n3;obtain⟨c0,hc0⟩:=qf (YP a b);go_wp2_with (go_at_call 60; refine q_o ?_);refine (jL hRm6 hRn6 HSA.out HSB.out).mono ?_;rintro e w7 ⟨rfl,e7⟩;rw [show (a.num*b.den - b.num*a.den).sign=c0 from hc0.out.symm];replace hE6:=hE6.trans e7;replace hBF:=hBF.ext e7;replace hBS:=hBS.ext e7;clear hRm6 hRn6 m0' m1' m2' m3' n0' n1' n2' n3' hlA hlB;have hlF7:=YR hBF;have hlS7:=YR hBS;clear hlF hlS e7;go_wp2;have HMC:=q_h (And.intro (And.intro m0 (And.intro m1 (And.intro m2 m3))) (And.intro n0 (And.intro n1 (And.intro n2 n3))));clear m0 m1 m2 m3 n0 n1 n2 n3
   go_loopw [87,23,20] (fun iv v23 v20 wr=>∃ r:Nat,r<=2/\iv=.int .i64 r/\v23=.int .i64 (orR a b r)/\v20=.int .i64 (thR G i j r)/\Ji N wr gF (fiR a b r)/\Ji N wr gS (seR a b r)/\Hid (∀ s,s < r->QZ G i j a b s=none)/\Ext w5 wr) (fun iv _ _ _=>2 - (intOf iv).toNat)
   case atStart=>exact⟨0,by omega,rfl,by rw [hc0.out]; rfl,by rw [hz10.out]; rfl,hBF,hBS,fun s hs=>absurd hs (by omega),hE6⟩
   case round =>
    clear hBF hBS hE6 hlF7 hlS7;obtain⟨r,hr,rfl,rfl,rfl,hBF,hBS,HNO,hE6⟩:=hrel;have hlF7:=YR hBF;have hlS7:=YR hBS;have hEw:Ext w4 wr:=hE5.trans hE6
    by_cases hr2:r < 2
    case neg =>
     have HQ:Hid (sqF G (i,a) (j,b)=none):=sq_no (fun s hs=>HNO.out s (by omega));have hq1:decide ((r:Int) < 2)=false:=q_f (by omega);go_wp2;go_roundw
     case rel=>exact⟨q+1,by omega,by go_num,q03 HA2.out HAT2.out HQ.out,hEw⟩
     case measure=>simp [intOf]; omega
    have hq1:decide ((r:Int) < 2)=true:=q_t (by omega);obtain⟨ord,hord⟩:=qf (orR a b r);obtain⟨thd,hthd⟩:=qf (thR G i j r);obtain⟨fi,hfi⟩:=qf (fiR a b r);obtain⟨se,hse⟩:=qf (seR a b r);rw [<-hfi.out] at hBF;rw [<-hse.out] at hBS;rw [<-hord.out,<-hthd.out]
    have hwo:IntKind.i64.wrap (-ord) = -ord:=by
     have:=or_le a b r;rw [<-hord.out] at this;exact IntWalk.i64_in _ (by omega)
    obtain⟨tb,htb⟩:=qf (QZ G i j a b r).isSome;go_upto_region 16 with (fail)
    go_cut [110] (fun v wx=>v=.bool tb/\wx=wr)
    case first =>
     by_cases d1:0<=ord
     case neg =>
      have t1:decide (0<=ord)=false:=decide_eq_false d1;have HB:Hid (false=tb):=by rw [Hid,htb.out,X6 (fun h=>d1 (by rw [hord.out]; exact h.1))]; rfl
      go_wp2_with fail
      go_meet
      exact⟨by rw [<-HB.out],rfl⟩
     have t1:decide (0<=ord)=true:=decide_eq_true d1;go_wp2_with (go_at_call 102; refine q_o ?_);refine (HZ00.out wr hE6).mono ?_;rintro e wz ⟨rfl,rfl⟩
     by_cases d2:z00 = -2147483648
     case pos =>
      have HB:Hid (false=tb):=by rw [Hid,htb.out,X6 (fun h=>h.2.1 (by rw [<-hz00.out]; exact d2))]; rfl
      have t2:(z00 != -2147483648)=false:=by simpa using d2
      clear d2;go_wp2_with fail
      go_meet
      exact⟨by rw [<-HB.out],rfl⟩
     have t2:(z00 != -2147483648)=true:=by simpa using d2
     by_cases d3:thd = -2147483648
     case pos =>
      have HB:Hid (false=tb):=by rw [Hid,htb.out,X6 (fun h=>h.2.2.1 (by rw [<-hthd.out]; exact d3))]; rfl
      have t3:(thd != -2147483648)=false:=by simpa using d3
      clear d3;go_wp2_with fail
      go_meet
      exact⟨by rw [<-HB.out],rfl⟩
     have t3:(thd != -2147483648)=true:=by simpa using d3
     go_wp2_with (go_at_call 102; refine q_o ?_);refine (HZ11.out _ hE6).mono ?_;rintro e wz ⟨rfl,rfl⟩
     by_cases d4:z11 = -2147483648
     case pos =>
      have HB:Hid (false=tb):=by rw [Hid,htb.out,X6 (fun h=>h.2.2.2 (by rw [<-hz11.out]; exact d4))]; rfl
      have t4:(z11 != -2147483648)=false:=by simpa using d4
      clear d4;go_wp2_with fail
      go_meet
      exact⟨by rw [<-HB.out],rfl⟩
     have t4:(z11 != -2147483648)=true:=by simpa using d4
     have HB:Hid (true=tb):=by rw [Hid,htb.out,q2G (by rw [<-hord.out]; exact d1) (by rw [<-hz00.out]; exact d2) (by rw [<-hthd.out]; exact d3) (by rw [<-hz11.out]; exact d4)]; rfl
     go_wp2_with fail
     go_meet
     exact⟨by rw [<-HB.out],rfl⟩
    obtain⟨rfl,rfl⟩:=hcut;cases tb with
    | false =>
     have HT:Hid (QZ G i j a b r=none):=by
      have:=htb.out;rw [Hid];cases h9:QZ G i j a b r with
      | none=>rfl
      | some q=>rw [h9] at this; cases this
     clear htb;go_upto_region 19 with (fail);obtain⟨⟨m0,m1,m2,m3⟩,n0,n1,n2,n3⟩:=HMC.out;obtain⟨bF,AF,kF,cF,AF',kF',cF',BF,-⟩:=hBF;obtain⟨x0,x1,x2,x3,x4,x5,x6,x7⟩:=cells4 BF;obtain⟨bS,AS,kS,cS,AS',kS',cS',BS,-⟩:=hBS;obtain⟨y0,y1,y2,y3,y4,y5,y6,y7⟩:=cells4 BS;refine regL [Mn.eq (.func (.func 102) #[] #[.pointer (some ⟨w.heap.size,0,none⟩)]),Mn.i i,Mn.i j,Mn.i (j+1),Mn.i z01,Mn.rat N (b),Mn.rat N (a),Mn.i ord,Mn.i (-ord),Mn.i z01,Mn.any,Mn.any,Mn.any] [some 139,some 140,some 141,some 142,some 143,some 144,some 145,some 146,some 147,some 20,none,none,some 23] [10,11,12] [6,7,8] [] (rQ 10 3) 3 hE6 (by kernel_rfl) ?_ ?_ ?_ ?_
     ·show ∀ i,i < 13->_
      iterate 13 refine fs ?_ ?_
      ·exact fz
      all_goals intro hl hs hd; first | exact absurd hl (by decide) | exact absurd hs (by decide) | (clear hl hs hd; refine stp rfl ?_; intro ac wi eI hB hA K hK)
      have o13:=oOf (hB 13) rfl
      rotate_left
      have o15:=oOf (hB 15) rfl
      rotate_left
      have o17:=oOf (hB 17) rfl
      rotate_left
      obtain⟨_,s141,rfl⟩:=hA 2 141
      rotate_left
      obtain⟨_,s139,rfl⟩:=hA 0 139;obtain⟨_,s140,rfl⟩:=hA 1 140;obtain⟨_,s142,rfl⟩:=hA 3 142;clear hB hA
      ·go_simp;refine (HZ01.out.v (hE6.trans eI)).mono ?_;rintro e wj ⟨rfl,ej⟩;go_wp2_with fail;exact hK.out _ _ ej rfl
      have o19:=oOf (hB 19) rfl;clear hB hA;have cc0:=(hE6.trans eI).cell n0;have cc1:=(hE6.trans eI).cell n1;have cc2:=(hE6.trans eI).cell n2;have cc3:=(hE6.trans eI).cell n3
      ·go_simp;exact q_k hK (hRn.ext (hE6.trans eI))
      obtain⟨_,s143,rfl⟩:=hA 4 143
      rotate_left
      all_goals clear hB hA; go_simp; exact q_k hK rfl
     ·intro i hs; exact absurd hs (by simp)
     ·intro i hs;have hi':i=6\/i=7\/i=8:=by simpa using hs
      clear hs
      rcases hi' with rfl | rfl | rfl
      ·refine q2e rfl (fun _ _ _ _ h=>h) ?_;intro ac wi eI hB hA;have o18:=oOf (hB 18) rfl;clear hB hA;refine⟨_,.inl ⟨rfl,fun w9 e9=>?_⟩,hRm.ext (hE6.trans eI)⟩;have cc0:=e9.cell m0;have cc1:=e9.cell m1;have cc2:=e9.cell m2;have cc3:=e9.cell m3;go_simp
      ·refine q2e rfl (fun _ _ _ _ h=>h) ?_;intro ac wi eI hB hA;have o23:=oOf (hB 23) rfl;clear hB hA;refine⟨(.int .i64 ord),.inl ⟨rfl,fun w9 _=>?_⟩,rfl⟩;go_simp
      ·refine q2e rfl (fun _ _ _ _ h=>h) ?_;intro ac wi eI hB hA;obtain⟨_,s146,rfl⟩:=hA 7 146;clear hB hA;refine⟨(.int .i64 (-ord)),.inl ⟨rfl,fun w9 _=>?_⟩,rfl⟩;go_simp
     intro vals wz eZ hJ hD;clear hD;have J144:Mn.p (Mn.rat N (b)) (vals 5) wz:=hJ 5 (by decide) (by decide);have J145:Mn.p (Mn.rat N (a)) (vals 6) wz:=hJ 6 (by decide) (by decide);have J147:vals 8=_:=hJ 8 (by decide) (by decide);have J20:vals 9=_:=hJ 9 (by decide) (by decide);clear hJ;simp only [pr,Nat.reduceAdd,J147,J20];clear J147 J20
     generalize vals 5=z144 at J144 ⊢
     generalize vals 6=z145 at J145 ⊢
     obtain⟨bz,Az,kz,cz,Az',kz',cz',rfl,hbz,gz1,gz2⟩:=qp.parts J144;obtain⟨by',Ay,ky,cy,Ay',ky',cy',rfl,hby,gy1,gy2⟩:=qp.parts J145;replace x0:=eZ.cell x0;replace x1:=eZ.cell x1;replace x2:=eZ.cell x2;replace x3:=eZ.cell x3;replace BF:=eZ.block BF;replace BS:=eZ.block BS;clear x0 x1 x2 x3 x4 x5 x6 x7 y0 y1 y2 y3 y4 y5 y6 y7;obtain⟨x0,x1,x2,x3,x4,x5,x6,x7⟩:=cells4 BF;obtain⟨y0,y1,y2,y3,y4,y5,y6,y7⟩:=cells4 BS;refine zY (i:=10) rfl (by kernel_rfl) (fun K hK=>?_);go_simp;refine hK.out _ _ (fun e9=>?_) ?_
     ·repeat (first | with_reducible exact e9 | refine Ext.setCell ?_ (by dsimp only; omega) _)
     clear hK K;try simp only [nr]
     refine zY (i:=11) rfl (by kernel_rfl) (fun K hK=>?_);go_simp;refine hK.out _ _ (fun e9=>?_) ?_
     ·repeat (first | with_reducible exact e9 | refine Ext.setCell ?_ (by dsimp only; omega) _)
     clear hK K;try simp only [nr]
     refine zY (i:=12) rfl (by kernel_rfl) (fun K hK=>?_);go_simp;refine hK.out _ _ (fun e9=>?_) ?_
     ·repeat (first | with_reducible exact e9 | refine Ext.setCell ?_ (by dsimp only; omega) _)
     clear hK K;try simp only [nr]
     refine qi (by kernel_rfl) ?_ _;obtain⟨wF,EF,hBF',KF,hsF⟩:=kN (q:=b) BF hNF hbz gz1 gz2;rw [EF];obtain⟨wS,ES,hBS',KS,hsS⟩:=kN (q:=a) (KF.blk BS (by omega)) hNS hby (gy1.chg KF hNF) (gy2.chg KF hNF);rw [ES];replace hBF':=hBF'.chg KS hNS (by omega);have hE9:Ext w5 wS:=KS.ext (KF.ext (hE6.trans eZ) hlF5) hlS5;go_wp2;go_roundw
     case rel=>exact⟨r+1,by omega,by go_num,by rw [<-q31 a b hr2,<-hord.out],by rw [<-q2H,hz01.out],by rw [<-q3A]; exact hBF',by rw [<-q2P]; exact hBS',xP (p:=fun s=>QZ G i j a b s=none) HNO.out HT.out,hE9⟩
     case measure=>simp [intOf]; omega
    | true =>
     obtain⟨q00,qth,q11,hval⟩:=q0R htb.out.symm;have hb00:=HL00.out (by rw [hz00.out]; exact q00);have hbth : -1048576<=thd/\thd<=1048576:=by rw [hthd.out]; exact q40 HG.out hi0 hi1 hj0 hj1 qth
     have hb11:=HL11.out (by rw [hz11.out]; exact q11);have hFiH:Ht (K+70) fi:=by rw [hfi.out]; exact q4L HHA.out HHB.out
     have hSeH:Ht (K+70) se:=by rw [hse.out]; exact q46 HHA.out HHB.out
     have HF1:Hid (Sz fi):=hFiH.sz (by omega);have HF2:Hid (Sz se):=hSeH.sz (by omega);have hH1:Ht (K+92) (fi*((thd - z00:Int):Rat)):=(hFiH.mul (qy (k:=thd - z00) (m:=22) (by omega) (by omega))).mono (by omega);have hH2:Ht (K+92) (se*((z11 - thd:Int):Rat)):=(hSeH.mul (qy (k:=z11 - thd) (m:=22) (by omega) (by omega))).mono (by omega);have HP1:Hid (Sz (fi*((thd - z00:Int):Rat))):=hH1.sz (by omega);have HP2:Hid (Sz (se*((z11 - thd:Int):Rat))):=hH2.sz (by omega);have HP3:Hid (Sz (((z00:Int):Rat)+fi*((thd - z00:Int):Rat))):=((qy (k:=z00) (m:=22) (by omega) (by omega)).add hH1).sz (by omega);have HV:Hid (QZ G i j a b r=some (((z00:Int):Rat)+fi*((thd - z00:Int):Rat)+se*((z11 - thd:Int):Rat))):=by rw [Hid,hz00.out,hthd.out,hz11.out,hfi.out,hse.out]; exact hval
     have HR:Hid (res=some (((z00:Int):Rat)+fi*((thd - z00:Int):Rat)+se*((z11 - thd:Int):Rat))):=by
      rw [Hid,HRES.out];exact q2q HA1.out HAT.out (q2q HA2.out HAT2.out (q44 hr2 HNO.out HV.out))
     clear q00 qth q11 hval hFiH hSeH hH1 hH2 HV htb;have hwd1:IntKind.i64.wrap (thd - z00)=thd - z00:=IntWalk.i64_in _ (by omega);have hwd2:IntKind.i64.wrap (z11 - thd)=z11 - thd:=IntWalk.i64_in _ (by omega);go_upto_region 17 with (fail);have hBF0:=hBF;have hBS0:=hBS;obtain⟨nx,Ax,kx,cx,A'x,k'x,c'x,Bx,hbx,yx,zx⟩:=hBF;obtain⟨x0,x1,x2,x3,-⟩:=cells4 Bx;have hRx:qp N wc (.agg #[.bool nx,.slice Ax kx cx,.bool false,.slice A'x k'x c'x]) (fi):=qp.mk hbx yx zx;refine jE [Mn.eq (.func (.func 102) #[] #[.pointer (some ⟨w.heap.size,0,none⟩)]),Mn.i i,Mn.i j,Mn.i z00,Mn.rat N ((z00:Int):Rat),Mn.rat N (fi),Mn.i thd,Mn.eq (.func (.func 102) #[] #[.pointer (some ⟨w.heap.size,0,none⟩)]),Mn.i i,Mn.i j,Mn.i z00,Mn.i (thd - z00),Mn.rat N ((thd - z00:Int):Rat),Mn.rat N (fi*((thd - z00:Int):Rat)),Mn.rat N (((z00:Int):Rat)+fi*((thd - z00:Int):Rat)),Mn.blk wc.heap.size (.cells #[.bool false,.slice none 0 0,.bool false,.slice none 0 0] 29 (0,0)),Mn.any] [some 111,some 112,some 113,some 114,some 115,some 116,some 117,some 118,some 119,some 120,some 121,some 122,some 123,some 124,some 125,some 24,none] [16] (rQ 16 1) 1 (by kernel_rfl) ?_ ?_
     ·show ∀ i,i < 17->_
      iterate 17 refine fs ?_ ?_
      ·exact fz
      all_goals intro hl; first | exact absurd hl (by decide) | (clear hl; refine stp rfl ?_; intro ac wi eI hB hA K hK)
      have o13:=oOf (hB 13) rfl
      rotate_left
      have o15:=oOf (hB 15) rfl
      rotate_left
      have o17:=oOf (hB 17) rfl
      rotate_left
      obtain⟨_,s111,rfl⟩:=hA 0 111;obtain⟨_,s112,rfl⟩:=hA 1 112;obtain⟨_,s113,rfl⟩:=hA 2 113;clear hB hA
      ·go_simp;refine (HZ00.out.v (hE6.trans eI)).mono ?_;rintro e wj ⟨rfl,ej⟩;go_wp2_with fail;exact hK.out _ _ ej rfl
      obtain⟨_,s114,rfl⟩:=hA 3 114;clear hB hA
      ·go_simp;refine (qW (q_l (by have:=hE6.size; omega:N<=wc.heap.size) eI.size) z00 (by omega) (by omega)).mono ?_;rintro e wj ⟨vj,rfl,hj,ej⟩;go_wp2_with fail;exact hK.out _ _ ej hj
      have o21:=oOf (hB 21) rfl;clear hB hA;have cc0:=eI.cell x0;have cc1:=eI.cell x1;have cc2:=eI.cell x2;have cc3:=eI.cell x3
      ·go_simp;exact q_k hK (hRx.ext eI)
      have o20:=oOf (hB 20) rfl
      rotate_left
      have o13:=oOf (hB 13) rfl
      rotate_left
      have o15:=oOf (hB 15) rfl
      rotate_left
      have o17:=oOf (hB 17) rfl
      rotate_left
      obtain⟨_,s118,rfl⟩:=hA 7 118;obtain⟨_,s119,rfl⟩:=hA 8 119;obtain⟨_,s120,rfl⟩:=hA 9 120;clear hB hA
      ·go_simp;refine (HZ00.out.v (hE6.trans eI)).mono ?_;rintro e wj ⟨rfl,ej⟩;go_wp2_with fail;exact hK.out _ _ ej rfl
      obtain⟨_,s117,rfl⟩:=hA 6 117;obtain⟨_,s121,rfl⟩:=hA 10 121
      rotate_left
      obtain⟨_,s122,rfl⟩:=hA 11 122;clear hB hA
      ·go_simp;refine (qW (q_l (by have:=hE6.size; omega:N<=wc.heap.size) eI.size) (thd - z00) (by omega) (by omega)).mono ?_;rintro e wj ⟨vj,rfl,hj,ej⟩;go_wp2_with fail;exact hK.out _ _ ej hj
      obtain⟨x116,s116,j116⟩:=hA 5 116;replace j116:Mn.p (Mn.rat N (fi)) x116 wi:=j116;obtain⟨x123,s123,j123⟩:=hA 12 123;replace j123:Mn.p (Mn.rat N ((thd - z00:Int):Rat)) x123 wi:=j123;clear hB hA
      ·go_simp;refine (ZW j116 j123 HF1.out (xn (by omega))).mono ?_;rintro e wj ⟨vj,rfl,hj,ej⟩;go_wp2_with fail;exact hK.out _ _ ej hj
      obtain⟨x115,s115,j115⟩:=hA 4 115;replace j115:Mn.p (Mn.rat N ((z00:Int):Rat)) x115 wi:=j115;obtain⟨x124,s124,j124⟩:=hA 13 124;replace j124:Mn.p (Mn.rat N (fi*((thd - z00:Int):Rat))) x124 wi:=j124;clear hB hA
      ·go_simp;refine (Xy j115 j124 (xn (by omega)) HP1.out).mono ?_;rintro e wj ⟨vj,rfl,hj,ej⟩;go_wp2_with fail;exact hK.out _ _ ej hj
      clear hB hA
      ·go_simp;refine ql ?_;intro wj ej hszj BJ;exact hK.out _ _ ej ⟨_,rfl,eI.size,BJ⟩
      all_goals clear hB hA; go_simp; exact q_k hK rfl
     intro vals wz eZ hJ;have J125:Mn.p (Mn.rat N (((z00:Int):Rat)+fi*((thd - z00:Int):Rat))) (vals 14) wz:=hJ 14 (by decide) (by decide);have J24:Mn.p (Mn.blk wc.heap.size (.cells #[.bool false,.slice none 0 0,.bool false,.slice none 0 0] 29 (0,0))) (vals 15) wz:=hJ 15 (by decide) (by decide);clear hJ;simp only [pr,Nat.reduceAdd]
     generalize vals 14=z125 at J125 ⊢
     generalize vals 15=z24 at J24 ⊢
     obtain⟨gH,rfl,hgH,BH⟩:=J24;obtain⟨bz,Az,kz,cz,Az',kz',cz',rfl,hbz,gz1,gz2⟩:=qp.parts J125;obtain⟨y0,y1,y2,y3,y4,y5,y6,y7⟩:=cells4 BH;refine qh (i:=16) rfl (by kernel_rfl) (by kernel_rfl) (fun K hK=>?_);go_simp;refine hK.out _ _ ?_;clear hK K;try simp only [nr]
     refine qi (by kernel_rfl) ?_ _;obtain⟨wH,EH,hBH,KH,hsH⟩:=kN (q:=((z00:Int):Rat)+fi*((thd - z00:Int):Rat)) BH (by have:=hE6.size; omega) hbz gz1 gz2;rw [EH];have hEH:Ext wc wH:=KH.ext eZ hgH;have hE8:Ext w5 wH:=hE6.trans hEH;replace hBS:=hBS0.ext hEH;clear x0 x1 x2 x3 hbx yx zx hRx Bx y0 y1 y2 y3 y4 y5 y6 y7 EH KH BH hsH hbz gz1 gz2 hBF0 hBS0 eZ;have hEw8:Ext w4 wH:=hE5.trans hE8;have hNH:N<=wH.heap.size:=q_l hN4 hEw8.size;have hBRH:=hEw8.block HBR.out;have hBR0:w.heap.size+1+1+1 < w4.heap.size:=qI HBR.out;go_upto_region 18 with (fail);obtain⟨nx,Ax,kx,cx,A'x,k'x,c'x,Bx,hbx,yx,zx⟩:=hBH;obtain⟨x0,x1,x2,x3,-⟩:=cells4 Bx;have hRx:qp N wH (.agg #[.bool nx,.slice Ax kx cx,.bool false,.slice A'x k'x c'x]) (((z00:Int):Rat)+fi*((thd - z00:Int):Rat)):=qp.mk hbx yx zx;obtain⟨ny,Ay,ky,cy,A'y,k'y,c'y,By,hby,yy,zy⟩:=hBS;obtain⟨y0,y1,y2,y3,-⟩:=cells4 By;have hRy:qp N wH (.agg #[.bool ny,.slice Ay ky cy,.bool false,.slice A'y k'y c'y]) (se):=qp.mk hby yy zy;obtain⟨u0,u1,u2,u3,u4,u5,u6,u7⟩:=cells4 hBRH;refine jE [Mn.rat N (((z00:Int):Rat)+fi*((thd - z00:Int):Rat)),Mn.rat N (se),Mn.eq (.func (.func 102) #[] #[.pointer (some ⟨w.heap.size,0,none⟩)]),Mn.i i,Mn.i (i+1),Mn.i j,Mn.i (j+1),Mn.i z11,Mn.i thd,Mn.i (z11 - thd),Mn.rat N ((z11 - thd:Int):Rat),Mn.rat N (se*((z11 - thd:Int):Rat)),Mn.rat N (((z00:Int):Rat)+fi*((thd - z00:Int):Rat)+se*((z11 - thd:Int):Rat)),Mn.any,Mn.any] [some 126,some 127,some 128,some 129,some 130,some 131,some 132,some 133,some 134,some 135,some 136,some 137,some 138,none,some 7] [13,14] (rQ 13 2) 2 (by kernel_rfl) ?_ ?_
     ·show ∀ i,i < 15->_
      iterate 15 refine fs ?_ ?_
      ·exact fz
      all_goals intro hl; first | exact absurd hl (by decide) | (clear hl; refine stp rfl ?_; intro ac wi eI hB hA K hK)
      have o24:=oOf (hB 24) rfl;clear hB hA;have cc0:=eI.cell x0;have cc1:=eI.cell x1;have cc2:=eI.cell x2;have cc3:=eI.cell x3
      ·go_simp;exact q_k hK (hRx.ext eI)
      have o22:=oOf (hB 22) rfl;clear hB hA;have cc0:=eI.cell y0;have cc1:=eI.cell y1;have cc2:=eI.cell y2;have cc3:=eI.cell y3
      ·go_simp;exact q_k hK (hRy.ext eI)
      have o13:=oOf (hB 13) rfl
      rotate_left
      have o15:=oOf (hB 15) rfl
      rotate_left
      obtain⟨_,s129,rfl⟩:=hA 3 129
      rotate_left
      have o17:=oOf (hB 17) rfl
      rotate_left
      obtain⟨_,s131,rfl⟩:=hA 5 131
      rotate_left
      obtain⟨_,s128,rfl⟩:=hA 2 128;obtain⟨_,s130,rfl⟩:=hA 4 130;obtain⟨_,s132,rfl⟩:=hA 6 132;clear hB hA
      ·go_simp;refine (HZ11.out.v (hE8.trans eI)).mono ?_;rintro e wj ⟨rfl,ej⟩;go_wp2_with fail;exact hK.out _ _ ej rfl
      have o20:=oOf (hB 20) rfl
      rotate_left
      obtain⟨_,s133,rfl⟩:=hA 7 133;obtain⟨_,s134,rfl⟩:=hA 8 134
      rotate_left
      obtain⟨_,s135,rfl⟩:=hA 9 135;clear hB hA
      ·go_simp;refine (qW (q_l hNH eI.size) (z11 - thd) (by omega) (by omega)).mono ?_;rintro e wj ⟨vj,rfl,hj,ej⟩;go_wp2_with fail;exact hK.out _ _ ej hj
      obtain⟨x127,s127,j127⟩:=hA 1 127;replace j127:Mn.p (Mn.rat N (se)) x127 wi:=j127;obtain⟨x136,s136,j136⟩:=hA 10 136;replace j136:Mn.p (Mn.rat N ((z11 - thd:Int):Rat)) x136 wi:=j136;clear hB hA
      ·go_simp;refine (ZW j127 j136 HF2.out (xn (by omega))).mono ?_;rintro e wj ⟨vj,rfl,hj,ej⟩;go_wp2_with fail;exact hK.out _ _ ej hj
      obtain⟨x126,s126,j126⟩:=hA 0 126;replace j126:Mn.p (Mn.rat N (((z00:Int):Rat)+fi*((thd - z00:Int):Rat))) x126 wi:=j126;obtain⟨x137,s137,j137⟩:=hA 11 137;replace j137:Mn.p (Mn.rat N (se*((z11 - thd:Int):Rat))) x137 wi:=j137;clear hB hA
      ·go_simp;refine (Xy j126 j137 HP3.out HP2.out).mono ?_;rintro e wj ⟨vj,rfl,hj,ej⟩;go_wp2_with fail;exact hK.out _ _ ej hj
      all_goals clear hB hA; go_simp; exact q_k hK rfl
     intro vals wz eZ hJ;have J138:Mn.p (Mn.rat N (((z00:Int):Rat)+fi*((thd - z00:Int):Rat)+se*((z11 - thd:Int):Rat))) (vals 12) wz:=hJ 12 (by decide) (by decide);clear hJ;simp only [pr,Nat.reduceAdd]
     generalize vals 12=z138 at J138 ⊢
     obtain⟨bz,Az,kz,cz,Az',kz',cz',rfl,hbz,gz1,gz2⟩:=qp.parts J138;replace hBRH:=eZ.block hBRH;clear u0 u1 u2 u3 u4 u5 u6 u7;obtain⟨u0,u1,u2,u3,u4,u5,u6,u7⟩:=cells4 hBRH;refine qh (i:=13) rfl (by kernel_rfl) (by kernel_rfl) (fun K hK=>?_);go_simp;refine hK.out _ _ ?_;clear hK K;try simp only [nr]
     refine qh (i:=14) rfl (by kernel_rfl) (by kernel_rfl) (fun K hK=>?_);go_simp;refine hK.out _ _ ?_;clear hK K;try simp only [nr]
     refine qi (by kernel_rfl) ?_ _;obtain⟨wR,ER,FR,UR⟩:=ex4 hBRH (.bool bz) (.slice Az kz cz) (.bool false) (.slice Az' kz' cz');rw [ER];have hTR:=NoU.mk hBRH (by decide);obtain⟨v0,v1,v2,v3,-⟩:=cells4 FR;have hEF:Ext w wR:=UR.ext ((hE.trans hEw8).trans eZ) (by omega);have hRR:qp N wR _ _:=qp.mk hbz (gz1.upd UR (by omega) hTR) (gz2.upd UR (by omega) hTR);go_wp2;refine bodyPost_ret (v:=.tuple #[.agg #[.bool bz,.slice Az kz cz,.bool false,.slice Az' kz' cz'],.bool true]) ?_ rfl ?_
     ·simp [results,Tryz.results51,v0,v1,v2,v3,go_sem]
     rw [HR.out];exact⟨_,rfl,hRR,hEF⟩
def J3 (N:Nat) (w:World) (v:Value) (q:Rat):Prop:=qp N w v q\/(v=jd/\q=0/\N<=w.heap.size)
theorem qp.w {w:World} {v:Value} (h:qp N w v q):J3 N w v q:=.inl h
theorem J3.nil {w:World} (h:N<=w.heap.size):J3 N w jd 0:=.inr ⟨rfl,rfl,h⟩
theorem J3.ext {w:World} {v:Value} (h:J3 N w v q) (e:Ext w w'):J3 N w' v q:=by
 rcases h with h | ⟨h1,h2,h3⟩
 ·exact .inl (h.ext e)
 ·exact .inr ⟨h1,h2,q_l h3 e.size⟩
theorem J3.le {w:World} {v:Value} (h:J3 N w v q):N<=w.heap.size:=by
 rcases h with h | ⟨-,-,h⟩
 ·exact h.le
 ·exact h
theorem J3.parts {w:World} {v:Value} (h:J3 N w v q):∃ (b:Bool) (A:Option Addr) (n c:Nat) (A':Option Addr) (n' c':Nat),v=.agg #[.bool b,.slice A n c,.bool false,.slice A' n' c']/\True/\True/\True:=by
 rcases h with h | ⟨rfl,-,-⟩
 ·obtain⟨b,A,n,c,A',n',c',rfl,-⟩:=h.parts;exact⟨b,A,n,c,A',n',c',rfl,trivial,trivial,trivial⟩
 ·exact⟨false,none,0,0,none,0,0,rfl,trivial,trivial,trivial⟩
theorem q3b {w:World} (h:N<=w.heap.size):xy N w jd ⟨false,[],false,[]⟩:=⟨_,_,rfl,Gs.nil h _ (Nat.zero_le _),Gs.nil h _ (Nat.zero_le _)⟩
theorem q4g:okR ⟨false,[],false,[]⟩=false:=by decide
theorem YN {w:World} {v:Value} (h:J3 N w v q) (hz:Sz q) :
  Calls Tryz.prog 111 #[v] w (yM N w q):=by
 rcases h with h | ⟨rfl,rfl,hN⟩
 ·exact xh h hz
 clear hz;obtain⟨z,hzz⟩:=qf (0:Rat);rw [<-hzz.out];have HZ:Hid (((0:Int):Rat)=z):=by rw [Hid,hzz.out]; rfl
 clear hzz;have hI:xy N w jd _:=q3b hN;unfold jd at hI ⊢;go_enter Tryz.func111,Tryz.ntmps111;go_wp2_with (go_at_call 98; refine q_o ?_);refine kL ?_;intro W hE hsz B0 B1;refine (JY (hI.ext hE) (by simp) (by simp)).mono ?_;rintro e w1 ⟨rfl,e1⟩;rw [q4g];replace hE:=hE.trans e1;replace B0:=e1.block B0;replace B1:=e1.block B1;go_wp2_with (go_at_call 114; refine q_o ?_);refine (f_whole (N:=N) (by have:=hE.size; omega) 0 (by omega) (by omega)).mono ?_;rw [HZ.out];intro e w2 hh;obtain⟨n3,A3,k3,c3,A4,k4,c4,rfl,hb3,g3,g4,e2⟩:=hh.form;replace B1:=e2.block B1;obtain⟨r0,r1,r2,r3,r4,r5,r6,r7⟩:=cells4 B1;go_wp2;exact qM rfl rfl rfl (hE.trans e2) B1 (by omega) hN g3 g4 hb3
theorem q4O {w:World} {v v':Value} {y:Rat} (h:J3 N w v x) (h':J3 N w v' y) (hz:Sz x) (hz':Sz y) :
  Calls Tryz.prog 154 #[v,v'] w (yM N w (x+y)):=by
 obtain⟨q,hq⟩:=qf (x+y);rw [<-hq.out];have HQ:Hid (Rat.divInt (x.num*y.den+y.num*x.den) ((x.den:Int)*y.den)=q):=by rw [Hid,hq.out,yu]
 have L1:Hid (ln (x.num*(y.den:Int)).natAbs<=2000000000):=by rw [Hid,Int.natAbs_mul,Int.natAbs_natCast]; exact zI hz.1 hz'.2
 have L2:Hid (ln (y.num*(x.den:Int)).natAbs<=2000000000):=by rw [Hid,Int.natAbs_mul,Int.natAbs_natCast]; exact zI hz'.1 hz.2
 have L3:Hid (ln ((x.den:Int)*(y.den:Int)).natAbs<=2000000000):=by rw [Hid,Int.natAbs_mul,Int.natAbs_natCast,Int.natAbs_natCast]; exact zI hz.2 hz'.2
 have D0:Hid ((x.den:Int)*(y.den:Int)≠0):=by have h8:=x.den_pos; have h9:=y.den_pos; exact Int.mul_ne_zero (by omega) (by omega)
 clear hq;have hI:=h;have hI':=h';have hN:=h.le;obtain⟨m1,X1,i1,d1,X2,i2,d2,rfl,hm1,gx1,gx2⟩:=h.parts;obtain⟨m2,Y1,i3,d3,Y2,i4,d4,rfl,hm2,gy1,gy2⟩:=h'.parts;have HZ:=q_h hz;have HZ':=q_h hz';clear hz hz' h h' gx1 gx2 gy1 gy2;go_enter Tryz.func154,Tryz.ntmps154;go_wp2;refine zK ?_;intro W hE hsz B0 B1 B2;obtain⟨a0,a1,a2,a3,-⟩:=cells4 B0;obtain⟨b0,b1,b2,b3,-⟩:=cells4 B1
 go_cut [] (fun wx=>∃ n1 A1 k1 c1 A2 k2 c2 n2 A3 k3 c3 A4 k4 c4,Ext w wx/\w.heap.size+2<=wx.heap.size/\wx.heap[w.heap.size]?=some (.cells #[.bool n1,.slice A1 k1 c1,.bool false,.slice A2 k2 c2] 29 (0,0))/\wx.heap[w.heap.size+1]?=some (.cells #[.bool n2,.slice A3 k3 c3,.bool false,.slice A4 k4 c4] 29 (0,0))/\Hid (n1=decide (x.num < 0))/\Hid (n2=decide (y.num < 0))/\Gs N wx (.slice A1 k1 c1) (dg x.num.natAbs)/\Gs N wx (.slice A2 k2 c2) (dg x.den)/\Gs N wx (.slice A3 k3 c3) (dg y.num.natAbs)/\Gs N wx (.slice A4 k4 c4) (dg y.den)/\w.heap.size+3<=wx.heap.size/\wx.heap[w.heap.size+1+1]?=some (.cells #[.bool false,.slice none 0 0,.bool false,.slice none 0 0] 29 (0,0)))
 case first =>
  have eC:=(Ext.refl W).drew
  go_region_with (first
   | (go_at_call_of 111 X1; refine (YN (by exact hI.ext (hE.trans eC)) HZ.out).mono ?_; intro e w1 hh; obtain⟨n1,A1,k1,c1,A2,k2,c2,rfl,hb1,g1,g2,e1⟩:=hh.form; replace eC:=eC.trans e1; have C0:=eC.block B0; have C1:=eC.block B1; obtain⟨p0,p1,p2,p3,p4,p5,p6,p7⟩:=cells4 C0; obtain⟨q0,q1,q2,q3,q4,q5,q6,q7⟩:=cells4 C1)
   | (go_at_call_of 111 Y1; refine (YN (by exact hI'.ext (hE.trans eC)) HZ'.out).mono ?_; intro e w2 hh; obtain⟨n2,A3,k3,c3,A4,k4,c4,rfl,hb2,g3,g4,e2⟩:=hh.form; replace eC:=eC.trans e2; have C0:=eC.block B0; have C1:=eC.block B1; obtain⟨p0,p1,p2,p3,p4,p5,p6,p7⟩:=cells4 C0; obtain⟨q0,q1,q2,q3,q4,q5,q6,q7⟩:=cells4 C1))
  all_goals
   go_wp2_with fail
   go_meet
   obtain⟨w3,E3,D0,U⟩:=ex4 C0 (.bool n1) (.slice A1 k1 c1) (.bool false) (.slice A2 k2 c2);rw [E3];obtain⟨w4,E4,D1,U'⟩:=ex4 (U.blk C1 (by omega)) (.bool n2) (.slice A3 k3 c3) (.bool false) (.slice A4 k4 c4);rw [E4];have hT0:=NoU.mk C0 (by decide);have hT1:=NoU.mk (U.blk C1 (by omega)) (by decide);refine⟨n1,A1,k1,c1,A2,k2,c2,n2,A3,k3,c3,A4,k4,c4,U'.ext (U.ext (hE.trans eC) (q_r)) (by omega),?_,U'.blk D0 (by omega),D1,hb1,hb2,((g1.ext e2).upd U (by omega) hT0).upd U' (by omega) hT1,((g2.ext e2).upd U (by omega) hT0).upd U' (by omega) hT1,(g3.upd U (by omega) hT0).upd U' (by omega) hT1,(g4.upd U (by omega) hT0).upd U' (by omega) hT1,(by rw [U'.size,U.size]; have:=eC.size; omega),U'.blk (U.blk (eC.block B2) (by omega)) (by omega)⟩;rw [U'.size,U.size]; have:=eC.size; omega
 case rest =>
  clear a0 a1 a2 a3 b0 b1 b2 b3 B0 B1 B2 hE hsz hI hI';obtain⟨n1,A1,k1,c1,A2,k2,c2,n2,A3,k3,c3,A4,k4,c4,hE,-,B0,B1,hb1,hb2,g1,g2,g3,g4,hsz,B2⟩:=hcut;obtain⟨a0,a1,a2,a3,-⟩:=cells4 B0;obtain⟨b0,b1,b2,b3,-⟩:=cells4 B1;have eC:=(Ext.refl wc).drew;go_wp2
  go_region_held3 (fun w'=>(w'.cell? ⟨w.heap.size,0,none⟩=some (.bool n1)/\w'.cell? ⟨w.heap.size,1,none⟩=some (.slice A1 k1 c1)/\w'.cell? ⟨w.heap.size,2,none⟩=some (.bool false)/\w'.cell? ⟨w.heap.size,3,none⟩=some (.slice A2 k2 c2))/\(w'.cell? ⟨w.heap.size+1,0,none⟩=some (.bool n2)/\w'.cell? ⟨w.heap.size+1,1,none⟩=some (.slice A3 k3 c3)/\w'.cell? ⟨w.heap.size+1,2,none⟩=some (.bool false)/\w'.cell? ⟨w.heap.size+1,3,none⟩=some (.slice A4 k4 c4)))
   ((repeat' apply And.intro) <;> repeat with_reducible first | assumption | exact eC.cell (by assumption) | refine cell_far _ ?_ (by omega))
   (first
    | (go_at_call_of 113 A1; refine (Qe (by exact qK hb1 (g1.ext eC)) (by exact qJ (g4.ext eC)) (by have:=HZ.out.1; omega) (by rw [Int.natAbs_natCast]; have:=HZ'.out.2; omega)).mono ?_; rintro e w5 ⟨v5,rfl,h5,e5⟩; replace eC:=eC.trans e5)
    | (go_at_call_of 113 A3; refine (Qe (by exact qK hb2 (g3.ext eC)) (by exact qJ (g2.ext eC)) (by have:=HZ'.out.1; omega) (by rw [Int.natAbs_natCast]; have:=HZ.out.2; omega)).mono ?_; rintro e w6 ⟨v6,rfl,h6,e6⟩; replace eC:=eC.trans e6)
    | (go_at_call_of 113 A2; refine (Qe (by exact qJ (g2.ext eC)) (by exact qJ (g4.ext eC)) (by rw [Int.natAbs_natCast]; have:=HZ.out.2; omega) (by rw [Int.natAbs_natCast]; have:=HZ'.out.2; omega)).mono ?_; rintro e w9 ⟨v9,rfl,h9,e9⟩; replace eC:=eC.trans e9)
    | (go_at_call 201; refine (q4y (by exact h5.ext e6) (by exact h6) (by have:=L1.out; omega) (by have:=L2.out; omega)).mono ?_; rintro e w7 ⟨v7,rfl,h7,e7⟩; replace eC:=eC.trans e7)
    | (go_at_call 199; refine (jK (by exact h7.ext e9) (by exact h9) D0.out (q_l (JI L1.out L2.out) (by omega)) (by have:=L3.out; omega)).mono ?_; rw [HQ.out]; intro e w10 hh; obtain⟨n10,A10,k10,c10,A11,k11,c11,rfl,hb10,h10,h11,e10⟩:=hh.form; replace eC:=eC.trans e10; obtain⟨r0,r1,r2,r3,r4,r5,r6,r7⟩:=cells4 (eC.block B2)))
  go_wp2;exact qM rfl rfl rfl (hE.trans eC) (eC.block B2) (by omega) hN h10 h11 hb10
theorem q4M {w:World} {v v':Value} {y:Rat} (h:J3 N w v x) (h':qp N w v' y) (hz:Sz x) (hz':Sz y) :
  Calls Tryz.prog 153 #[v,v'] w (yM N w (x - y)):=by
 obtain⟨q,hq⟩:=qf (x - y);rw [<-hq.out];have HQ:Hid (x + -y=q):=by rw [Hid,hq.out,Rat.sub_eq_add_neg]
 clear hq;have hI:=h;have hI':=h';have hN:=h.le;obtain⟨m1,X1,i1,d1,X2,i2,d2,rfl,hm1,gx1,gx2⟩:=h.parts;obtain⟨m2,Y1,i3,d3,Y2,i4,d4,rfl,hm2,gy1,gy2⟩:=h'.parts;have HZ:=q_h hz;have HZ':=q_h hz';clear hz hz' h h' gx1 gx2 gy1 gy2;go_enter Tryz.func153,Tryz.ntmps153;go_wp2;refine zK ?_;intro W hE hsz B0 B1 B2;obtain⟨a0,a1,a2,a3,-⟩:=cells4 B0;obtain⟨b0,b1,b2,b3,-⟩:=cells4 B1;have eC:=(Ext.refl W).drew
 go_region_held3 (fun w'=>(w'.cell? ⟨w.heap.size,0,none⟩=some (.bool m1)/\w'.cell? ⟨w.heap.size,1,none⟩=some (.slice X1 i1 d1)/\w'.cell? ⟨w.heap.size,2,none⟩=some (.bool false)/\w'.cell? ⟨w.heap.size,3,none⟩=some (.slice X2 i2 d2))/\(w'.cell? ⟨w.heap.size+1,0,none⟩=some (.bool m2)/\w'.cell? ⟨w.heap.size+1,1,none⟩=some (.slice Y1 i3 d3)/\w'.cell? ⟨w.heap.size+1,2,none⟩=some (.bool false)/\w'.cell? ⟨w.heap.size+1,3,none⟩=some (.slice Y2 i4 d4)))
  ((repeat' apply And.intro) <;> repeat with_reducible first | assumption | exact eC.cell (by assumption) | refine cell_far _ ?_ (by omega))
  (first
   | (go_at_call 200; refine (q4N (by exact hI'.ext (hE.trans eC)) HZ'.out).mono ?_; rintro e w5 ⟨v5,rfl,h5,e5⟩; replace eC:=eC.trans e5)
   | (go_at_call 154; refine (q4O (by exact hI.ext (hE.trans eC)) (by exact h5.w) HZ.out HZ'.out.neg).mono ?_; rw [HQ.out]; intro e w7 hh; obtain⟨n7,A7,k7,c7,A8,k8,c8,rfl,hb7,h7,h8,e7⟩:=hh.form; replace eC:=eC.trans e7; obtain⟨r0,r1,r2,r3,r4,r5,r6,r7⟩:=cells4 (eC.block B2)))
 go_wp2;exact qM rfl rfl rfl (hE.trans eC) (eC.block B2) (by omega) hN h7 h8 hb7
theorem q4e {w:World} {v v':Value} {y:Rat} (h:J3 N w v x) (h':qp N w v' y) (hz:Sz x) (hz':Sz y) :
  Calls Tryz.prog 101 #[v,v'] w (yM N w (x - y)):=by
 obtain⟨q,hq⟩:=qf (x - y);rw [<-hq.out];have hN:=h.le;have hI:=h;have hI':=h';have HZ:=q_h hz;have HZ':=q_h hz';obtain⟨m1,X1,i1,d1,X2,i2,d2,rfl,hm1,gx1,gx2⟩:=h.parts;obtain⟨m2,Y1,i3,d3,Y2,i4,d4,rfl,hm2,gy1,gy2⟩:=h'.parts;clear hz hz' h h' gx1 gx2 gy1 gy2;go_enter Tryz.func101,Tryz.ntmps101;go_wp2_with (go_at_call 153; refine q_o ?_);refine kV ?_;intro W hE hsz B0 B1 B2;refine (q4M (hI.ext hE) (hI'.ext hE) HZ.out HZ'.out).mono ?_;rw [<-hq.out];intro e w1 hh;obtain⟨n3,A3,k3,c3,A4,k4,c4,rfl,hb3,g3,g4,e1⟩:=hh.form;replace hE:=hE.trans e1;replace B2:=e1.block B2;obtain⟨t0,t1,t2,t3,t4,t5,t6,t7⟩:=cells4 B2;go_wp2;exact qM rfl rfl rfl hE B2 (by omega) hN g3 g4 hb3
end Go.Proofs.YtphpkhoeplcedaaGreat
