import Derived.Test.YtphpkhoeplcedaaGreatWb13
set_option linter.all false
set_option maxHeartbeats 8000000
namespace Go.Proofs.YtphpkhoeplcedaaGreat
open Go.RowKit
variable {w w':World} {N n lo hi k g m base c b:Nat} {v s:Value} {G:Grd} {x:Rat} {z:Int} {A:Option Addr}
def jd:Value:=.agg #[.bool false,.slice none 0 0,.bool false,.slice none 0 0]
def q5e (base:Nat) (w:World) (v:Value) (xs:List Value):Prop:=base<=w.heap.size/\w.ownsRow base 45 1 v xs.length xs
theorem q5e.at_ {xs:List Value} (h:q5e base w v xs) (hn:0 < xs.length):∃ g cap,v=.slice (some ⟨g,0,none⟩) xs.length cap/\cap<=maxLen/\xs.length<=cap/\∀ j (hj:j < xs.length),w.cell? ⟨g,j,none⟩=some xs[j]:=by
 obtain⟨-,-,h2⟩:=h
 rcases h2 with ⟨-,h⟩ | ⟨g,cap,cur,hv,hb,hg,hnc,hcm,hcs,htk⟩
 ·omega
 ·refine⟨g,cap,hv,hcm,hnc,fun j hj=>?_⟩;rw [qg hg];have h9:(cur.toList.take (xs.length*1))[j]?=some xs[j]:=by rw [htk]; exact List.getElem?_eq_getElem hj
  rw [List.getElem?_take] at h9;rw [if_pos (by omega)] at h9;simpa using h9
structure One (ET:TypeId) (z0:Value) (bz:Nat):Prop where
 inf:(Tryz.prog.info? ET).map (fun i=>(i.zero,i.size,i.bytes))=some (some z0,1,bz)
 cells:z0.cells.size=1
 le:bz<=24
 ne:ET≠152
def zh (ET:TypeId) (base:Nat) (w:World) (v:Value) (xs:List Value):Prop:=base<=w.heap.size/\w.ownsRow base ET 1 v xs.length xs
section
variable {ET:TypeId} {base:Nat} {w w':World} {v:Value} {xs:List Value}
theorem zh.nil (h:base<=w.heap.size):zh ET base w (.slice none 0 0) []:=⟨h,by simp,.inl ⟨rfl,rfl⟩⟩
theorem zh.empty (hb:base<=g) (h:w.heap[g]?=some (.cells #[] ET (0,0))):zh ET base w (.slice (some ⟨g,0,none⟩) 0 0) [] :=
 ⟨by have:=qI h; omega,by simp,.inr ⟨g,0,#[],rfl,hb,h,q_r,Nat.zero_le _,rfl,rfl⟩⟩
theorem zh.form (h:zh ET base w v xs):∃ A c,v=.slice A xs.length c/\xs.length<=c:=by
 rcases h.2.2 with ⟨rfl,h0⟩ | ⟨g,cap,cur,rfl,_,_,hc,_⟩
 ·exact⟨_,_,by rw [h0],by omega⟩
 ·exact⟨_,_,rfl,hc⟩
theorem zh.ext (h:zh ET base w v xs) (e:Ext w w'):zh ET base w' v xs:=by
 refine⟨q_l h.1 e.size,h.2.1,?_⟩
 rcases h.2.2 with h0 | ⟨g,cap,cur,hv,hb,hh,h1,h2,h3,h4⟩
 ·exact .inl h0
 ·exact .inr ⟨g,cap,cur,hv,hb,e.block hh,h1,h2,h3,h4⟩
theorem zh.chg {l u:Nat} (h:zh ET base w v xs) (c:Chg l u w w') (hd:u<=base):zh ET base w' v xs:=by
 refine⟨q_l h.1 c.size,h.2.1,?_⟩
 rcases h.2.2 with h0 | ⟨g,cap,cur,hv,hb,hh,h1,h2,h3,h4⟩
 ·exact .inl h0
 ·exact .inr ⟨g,cap,cur,hv,hb,c.blk hh (by omega),h1,h2,h3,h4⟩
theorem zh.far {l u:Nat} (h:zh ET base w v xs) (c:Chg l u w w') (hd:∀ k,v.ownBlock=some k->k < l\/u<=k):zh ET base w' v xs:=by
 refine⟨q_l h.1 c.size,h.2.1,?_⟩
 rcases h.2.2 with h0 | ⟨g,cap,cur,rfl,hb,hh,h1,h2,h3,h4⟩
 ·exact .inl h0
 ·exact .inr ⟨g,cap,cur,rfl,hb,c.blk hh (hd g rfl),h1,h2,h3,h4⟩
theorem zh.low {b':Nat} (h:zh ET base w v xs) (hb:b'<=base):zh ET b' w v xs:=by
 refine⟨q_l hb h.1,h.2.1,?_⟩
 rcases h.2.2 with h0 | ⟨g,cap,cur,hv,hb0,h3⟩
 ·exact .inl h0
 ·exact .inr ⟨g,cap,cur,hv,by omega,h3⟩
theorem zh.own_lt (h:zh ET base w v xs):∀ k,v.ownBlock=some k->base<=k/\k < w.heap.size:=by
 rcases h.2.2 with ⟨rfl,h0⟩ | ⟨g,cap,cur,rfl,hb,hh,-⟩
 ·intro k hk; simp [Value.ownBlock] at hk
 ·intro k hk;obtain rfl:g=k:=by simpa [Value.ownBlock] using hk
  exact⟨hb,qI hh⟩
theorem zh.at_ (h:zh ET base w v xs) (hn:0 < xs.length):∃ g cap,v=.slice (some ⟨g,0,none⟩) xs.length cap/\base<=g/\g < w.heap.size/\cap<=maxLen/\xs.length<=cap/\(∃ cs,w.heap[g]?=some (.cells cs ET (0,0))/\cs.size=cap)/\∀ j (hj:j < xs.length),w.cell? ⟨g,j,none⟩=some xs[j]:=by
 rcases h.2.2 with ⟨-,h⟩ | ⟨g,cap,cur,hv,hb,hg,hnc,hcm,hcs,htk⟩
 ·omega
 ·refine⟨g,cap,hv,hb,qI hg,hcm,hnc,⟨cur,hg,by omega⟩,fun j hj=>?_⟩;rw [qg hg];have h9:(cur.toList.take (xs.length*1))[j]?=some xs[j]:=by rw [htk]; exact List.getElem?_eq_getElem hj
  rw [List.getElem?_take] at h9;rw [if_pos (by omega)] at h9;simpa using h9
theorem Xd {z0:Value} {bz:Nat} (ho:One ET z0 bz) (t ty:TypeId) (ht:Tryz.prog.underlying t=some (.slice ET)) (h:zh ET base w v xs) {off:Nat} {news:List Value} (hl:news.length=m)
  (hnews:∀ j u,news[j]?=some u->w.cell? ⟨b,off+j,none⟩=some u) (h1:∀ u∈news,u.oneCell'=true) (hm:0 < m) (hn:xs.length+m<=1000000000) :
  ∃ g cap w',(Builtin.append_ #[t,t] ty #[v,.slice (some ⟨b,off,none⟩) m c]).run Tryz.prog w=.ok (.slice (some ⟨g,0,none⟩) (xs.length+m) cap) w'/\zh ET base w' (.slice (some ⟨g,0,none⟩) (xs.length+m) cap) (xs ++ news)/\(v.ownBlock=some g\/g=w.heap.size) /\
   (∃ g',base<=g'/\(v.ownBlock=some g'\/g'=w.heap.size)/\Chg g' (g'+1) w w'/\NoU w g'):=by
 obtain⟨i0,hi0,hz0,hz1,hz2⟩:=info_parts ho.inf;obtain⟨hb0,hown⟩:=h;have hle:=ho.le
 obtain⟨g,cap,w',hrun,hO,hgr,hat,hlt⟩:=run_append_lies (P:=Tryz.prog) w t ty base ET i0 _ 1 bz ht hi0 hz0 hz1 hz2 ho.cells (by omega) v xs.length xs hown ⟨b,off,none⟩ m c news (by omega)
  (fun j u hj=>by rw [xQ]; exact hnews j u hj) h1 hm (by unfold maxLen; omega)
  (q_l (Nat.mul_le_mul hn ho.le) (by decide)) hb0 w.heap.size rfl
 refine⟨g,cap,w',hrun,⟨q_l hb0 hgr.size,?_⟩,hat,?_⟩
 ·rw [List.length_append,hl]; exact hO
 ·have hT:NoU w w.heap.size:=fun cs fr h=>by rw [Array.getElem?_eq_none (q_r)] at h; cases h
  rcases hown.2 with ⟨rfl,h0⟩ | ⟨g0,cap0,cur,rfl,hbb,hh,_⟩
  ·exact⟨w.heap.size,hb0,.inr rfl,zJ hgr (fun k hk=>by simp [Value.ownBlock] at hk) hT,hT⟩
  ·have hT0:NoU w g0:=NoU.mk hh ho.ne;exact⟨g0,hbb,.inl rfl,zJ hgr (fun k hk=>by simpa [Value.ownBlock] using hk.symm) hT0,hT0⟩
end
theorem Qz {ET:TypeId} {xs:List Value} {z0:Value} {bz:Nat} (h0:One ET z0 bz) {o:Oper} {a:Act} {K:Act->World->Prop} {Q:Exit->Act->World->Prop} (s x:Operand) (t:TypeId) (ht:Tryz.prog.underlying t=some (.slice ET))
  (ho:o.op=.call { callee:=.builtin .append,args:=#[s,x],argTypes:=#[t,t] }) (hs:a.eval s=v) (h:zh ET base w v xs) {off:Nat} {news:List Value} (hx:a.eval x=.slice (some ⟨b,off,none⟩) m c) (hl:news.length=m)
  (hnews:∀ j u,news[j]?=some u->w.cell? ⟨b,off+j,none⟩=some u) (h1:∀ u∈news,u.oneCell'=true) (hm:0 < m) (hn:xs.length+m<=1000000000)
  (hK:∀ g cap w',zh ET base w' (.slice (some ⟨g,0,none⟩) (xs.length+m) cap) (xs ++ news)->(v.ownBlock=some g\/g=w.heap.size)->(∃ g',base<=g'/\(v.ownBlock=some g'\/g'=w.heap.size)/\Chg g' (g'+1) w w'/\NoU w g')->K (a.put o.dst (.slice (some ⟨g,0,none⟩) (xs.length+m) cap)) w'):o.wp Tryz.prog a w K Q:=by
 obtain⟨g,cap,w',hrun,h2,h3,h4⟩:=Xd h0 t o.type ht h hl hnews h1 hm hn (c:=c);unfold Oper.wp execOp;simp only [ho,resolve,invoke,builtin,Sem.run_bind,Sem.run_pure,Result.andThen_ok,List.map_toArray,List.map_cons,List.map_nil,hs,hx,hrun];exact hK g cap w' h2 h3 h4
theorem kG {ET:TypeId} {xs:List Value} {z0:Value} {bz:Nat} (h0:One ET z0 bz) {ops:Array Oper} {rest:List Oper} {o:Oper} {a:Act} {Q:Exit->Act->World->Prop} (hgd:o.guard=none) (s x:Operand) (t:TypeId) (ht:Tryz.prog.underlying t=some (.slice ET))
  (ho:o.op=.call { callee:=.builtin .append,args:=#[s,x],argTypes:=#[t,t] }) (hs:a.eval s=v) (h:zh ET base w v xs) {off:Nat} {news:List Value} (hx:a.eval x=.slice (some ⟨b,off,none⟩) m c) (hl:news.length=m)
  (hnews:∀ j u,news[j]?=some u->w.cell? ⟨b,off+j,none⟩=some u) (h1:∀ u∈news,u.oneCell'=true) (hm:0 < m) (hn:xs.length+m<=1000000000)
  (hK:∀ g cap w',zh ET base w' (.slice (some ⟨g,0,none⟩) (xs.length+m) cap) (xs ++ news)->(v.ownBlock=some g\/g=w.heap.size)->(∃ g',base<=g'/\(v.ownBlock=some g'\/g'=w.heap.size)/\Chg g' (g'+1) w w'/\NoU w g')->wpList Tryz.prog ops Q rest (a.put o.dst (.slice (some ⟨g,0,none⟩) (xs.length+m) cap)) w'):wpList Tryz.prog ops Q (o :: rest) a w :=
 wpList_plain hgd fun _ hK'=>Qz h0 s x t ht ho hs h hx hl hnews h1 hm hn (fun g cap w' a1 a2 a3=>hK' _ _ (hK g cap w' a1 a2 a3))
theorem QH {u:Value} {t:TypeId} {fr:Nat×Nat} (h:w.heap[g]?=some (.cells #[u] t fr)):∀ j x,[u][j]?=some x->w.cell? ⟨g,0+j,none⟩=some x:=by
 intro j x hj;rw [Nat.zero_add,qg h];simpa using hj
theorem ZV:One 3 (.int .i64 0) 8:=⟨by kernel_rfl,rfl,by omega,by decide⟩
end Go.Proofs.YtphpkhoeplcedaaGreat
namespace Go.Proofs.YtphpkhoeplcedaaGreat
variable {w w':World} {N n lo hi k g m base c b:Nat} {v s:Value} {G:Grd} {x:Rat} {z:Int} {A:Option Addr}
structure Mn where
 p:Value->World->Prop
 mono:∀ {v:Value} {w w':World},Ext w w'->p v w->p v w'
def Mn.any:Mn:=⟨fun _ _=>True,fun _ _=>trivial⟩
def Mn.eq (x:Value):Mn:=⟨fun v _=>v=x,fun _ h=>h⟩
def Mn.i (z:Int):Mn:=Mn.eq (.int .i64 z)
def Mn.q (b o:Nat):Mn:=Mn.eq (.pointer (some ⟨b,o,none⟩))
def Mn.t (b:Bool):Mn:=Mn.eq (.bool b)
def sM (l:List Nat):List (Option Tmp):=l.map some
def rF:Nat->List Bool
 | n+1=>false :: rF n
 | 0=>[]
def rQ:Nat->Nat->List Bool
 | m+1,n=>true :: rQ m n
 | 0,n=>rF n
theorem q_k {J Q:Value->World->Prop} (h:Shut (∀ v w',Ext w w'->J v w'->Q v w')) (hj:J v w):Q v w:=h.out _ _ (Ext.refl w) hj
def qA:List (Option Tmp)->List Bool->(Nat->Value)->Nat->Act->Act
 | d :: ds,b :: bs,vals,i,a=>qA ds bs vals (i+1) (if b=true then a.put d (vals i) else a)
 | _,_,_,_,a=>a
def nodupB:List (Option Tmp)->Bool
 | []=>true
 | none :: l=>nodupB l
 | some t :: l=>!l.contains (some t) && nodupB l
def jT (vals:Nat->Value) (i:Nat) (v:Value) (j:Nat):Value:=if j=i then v else vals j
theorem put_comm (a:Act) (d d':Option Tmp) (v v':Value) (h:∀ t,d=some t->d'≠some t):(a.put d v).put d' v'=(a.put d' v').put d v:=by
 cases d with
 | none=>rfl
 | some t =>
  cases d' with
  | none=>rfl
  | some t' =>
   have hne:t≠t':=fun e=>h t rfl (by rw [e])
   show ({ a with tmps:=_ }:Act)={ a with tmps:=_ }
   congr 1
   exact Array.setIfInBounds_comm _ _ hne
theorem q1d (a:Act) (d:Option Tmp) (v:Value):(a.put d v).tmps.size=a.tmps.size:=by
 cases d with
 | none=>rfl
 | some t=>simp [Act.put]
theorem Xr (a:Act) (d:Option Tmp) (v:Value) {t:Nat} (h:d≠some t):(a.put d v).tmps[t]?=a.tmps[t]?:=by
 cases d with
 | none=>rfl
 | some t' =>
  have hne:t'≠t:=fun e=>h (by rw [e])
  simp [Act.put,Array.getElem?_setIfInBounds,hne]
theorem Zj {d:Option Tmp} {v:Value}:∀ (ds:List (Option Tmp)) (bs:List Bool) (vals:Nat->Value) (k:Nat) (a:Act),(∀ t,d=some t->ds.contains (some t)=false)->qA ds bs vals k (a.put d v)=(qA ds bs vals k a).put d v
 | [],_,_,_,_,_=>by unfold qA; rfl
 | _ :: _,[],_,_,_,_=>rfl
 | d0 :: ds,b :: bs,vals,k,a,h=>by
  have h1:∀ t,d=some t->d0≠some t/\ds.contains (some t)=false:=fun t ht=>by
   have:=h t ht;simp only [List.contains_cons,Bool.or_eq_false_iff,beq_eq_false_iff_ne] at this;exact⟨fun e=>this.1 e.symm,this.2⟩
  show qA ds bs vals (k+1) (if b=true then (a.put d v).put d0 (vals k) else a.put d v)=_
  show _=(qA ds bs vals (k+1) (if b=true then a.put d0 (vals k) else a)).put d v
  rw [<-Zj ds bs vals (k+1) _ (fun t ht=>(h1 t ht).2)];cases b with
  | false=>rfl
  | true =>
   simp only [if_true];rw [put_comm a d d0 v (vals k) (fun t ht=>(h1 t ht).1)]
theorem Q8 {vals vals':Nat->Value}:∀ (ds:List (Option Tmp)) (bs:List Bool) (k:Nat) (a:Act),(∀ j,k<=j->vals j=vals' j)->qA ds bs vals k a=qA ds bs vals' k a
 | [],_,_,_,_=>by unfold qA; rfl
 | _ :: _,[],_,_,_=>rfl
 | d0 :: ds,b :: bs,k,a,h=>by
  show qA ds bs vals (k+1) (if b=true then a.put d0 (vals k) else a)=qA ds bs vals' (k+1) (if b=true then a.put d0 (vals' k) else a)
  rw [h k (q_r)];exact Q8 ds bs (k+1) _ (fun j hj=>h j (by omega))
theorem yf {d:Option Tmp} {ds:List (Option Tmp)} (h:nodupB (d :: ds)=true):nodupB ds=true/\∀ t,d=some t->ds.contains (some t)=false:=by
 cases d with
 | none=>exact⟨h,fun t ht=>by cases ht⟩
 | some t0 =>
  unfold nodupB at h;rw [Bool.and_eq_true] at h;exact⟨h.2,fun t ht=>by injection ht with ht; subst ht; simpa using h.1⟩
theorem jY {d:Option Tmp} {v:Value}:∀ (ds:List (Option Tmp)) (bs:List Bool) (vals:Nat->Value) (k i:Nat) (a:Act),nodupB ds=true->bs[i]?=some false->ds[i]?=some d->qA ds (bs.set i true) (jT vals (k+i) v) k a=(qA ds bs vals k a).put d v
 | [],_,_,_,_,_,_,_,hd=>by simp at hd
 | _ :: _,[],_,_,_,_,_,hb,_=>by simp at hb
 | d0 :: ds,b :: bs,vals,k,0,a,hn,hb,hd=>by
  simp only [List.getElem?_cons_zero,Option.some.injEq] at hb hd;subst hb hd;have hn':=yf hn
  show qA ds bs (jT vals (k+0) v) (k+1) (a.put d0 (jT vals (k+0) v k))=(qA ds bs vals (k+1) a).put d0 v
  rw [Zj _ _ _ _ _ hn'.2];have h1:jT vals (k+0) v k=v:=by simp [jT]
  rw [h1,Q8 (vals':=vals) ds bs (k+1) a (fun j hj=>by unfold jT; rw [if_neg (by omega)])]
 | d0 :: ds,b :: bs,vals,k,i+1,a,hn,hb,hd=>by
  have hn':=yf hn;simp only [List.getElem?_cons_succ] at hb hd
  show qA ds (bs.set i true) (jT vals (k+(i+1)) v) (k+1) (if b=true then a.put d0 (jT vals (k+(i+1)) v k) else a)=(qA ds bs vals (k+1) (if b=true then a.put d0 (vals k) else a)).put d v
  have h1:jT vals (k+(i+1)) v k=vals k:=by unfold jT; rw [if_neg (by omega)]
  have h2:k+(i+1)=k+1+i:=by omega
  rw [h1,h2];exact jY ds bs vals (k+1) i _ hn'.1 hb hd
theorem wK {t:Nat}:∀ (ds:List (Option Tmp)) (bs:List Bool) (vals:Nat->Value) (k:Nat) (a:Act),ds.contains (some t)=false->(qA ds bs vals k a).tmps[t]?=a.tmps[t]?
 | [],_,_,_,_,_=>by unfold qA; rfl
 | _ :: _,[],_,_,_,_=>rfl
 | d0 :: ds,b :: bs,vals,k,a,h=>by
  simp only [List.contains_cons,Bool.or_eq_false_iff,beq_eq_false_iff_ne] at h
  show (qA ds bs vals (k+1) (if b=true then a.put d0 (vals k) else a)).tmps[t]?=_
  rw [wK ds bs vals (k+1) _ h.2];cases b with
  | false=>rfl
  | true=>exact Xr a d0 _ (fun e=>h.1 e.symm)
theorem jZ {t:Nat}:∀ (ds:List (Option Tmp)) (bs:List Bool) (vals:Nat->Value) (k i:Nat) (a:Act),nodupB ds=true->bs[i]?=some true->ds[i]?=some (some t)->t < a.tmps.size->(qA ds bs vals k a).tmps[t]?=some (vals (k+i))
 | [],_,_,_,_,_,_,_,hd,_=>by simp at hd
 | _ :: _,[],_,_,_,_,_,hb,_,_=>by simp at hb
 | d0 :: ds,b :: bs,vals,k,0,a,hn,hb,hd,ht=>by
  simp only [List.getElem?_cons_zero,Option.some.injEq] at hb hd;subst hb hd;have hn':=yf hn
  show (qA ds bs vals (k+1) (a.put (some t) (vals k))).tmps[t]?=_
  rw [wK ds bs vals (k+1) _ (hn'.2 t rfl)];simp [Act.put,ht]
 | d0 :: ds,b :: bs,vals,k,i+1,a,hn,hb,hd,ht=>by
  have hn':=yf hn;simp only [List.getElem?_cons_succ] at hb hd
  show (qA ds bs vals (k+1) (if b=true then a.put d0 (vals k) else a)).tmps[t]?=_
  have h2:k+(i+1)=k+1+i:=by omega
  rw [h2];refine jZ ds bs vals (k+1) i _ hn'.1 hb hd ?_
  split
  ·rw [q1d]; exact ht
  ·exact ht
theorem fz {p:Nat->Prop}:∀ i,i < 0->p i:=fun i hi=>absurd hi (Nat.not_lt_zero i)
theorem fs {p:Nat->Prop} (h:∀ i,i < n->p i) (hn:p n):∀ i,i < n+1->p i:=fun i hi=>by
 rcases Nat.lt_succ_iff_lt_or_eq.1 hi with h1 | h1
 ·exact h i h1
 ·rw [h1]; exact hn
theorem oOf {T:Array Value} {l:List Value} {t:Nat} (h:T[t]?=l.toArray[t]?) (hv:l[t]?=some v):T[t]?=some v:=by
 rw [h,List.getElem?_toArray]; exact hv
theorem pr:(∀ (d:Nat) (ds:List Nat),sM (d :: ds)=some d :: sM ds)/\sM []=[]/\(∀ (m n:Nat),rQ (m+1) n=true :: rQ m n)/\(∀ (n:Nat),rQ 0 (n+1)=false :: rQ 0 n)/\rQ 0 0=[]/\(∀ (d:Option Tmp) (ds:List (Option Tmp)) (bs:List Bool) (vals:Nat->Value) (i:Nat) (a:Act),qA (d :: ds) (true :: bs) vals i a=qA ds bs vals (i+1) (a.put d (vals i)))/\(∀ (d:Option Tmp) (ds:List (Option Tmp)) (bs:List Bool) (vals:Nat->Value) (i:Nat) (a:Act),qA (d :: ds) (false :: bs) vals i a=qA ds bs vals (i+1) a)/\(∀ (bs:List Bool) (vals:Nat->Value) (i:Nat) (a:Act),qA [] bs vals i a=a) /\
  (∀ (a:Act) (d:Tmp) (v:Value),a.put (some d) v={ a with tmps:=a.tmps.setIfInBounds d v })/\(∀ (a:Act) (v:Value),a.put none v=a)/\(∀ (l:List Value) (i:Nat) (v:Value),l.toArray.setIfInBounds i v=(l.set i v).toArray)/\(∀ (x:Value) (l:List Value) (v:Value),(x :: l).set 0 v=v :: l)/\(∀ (x:Value) (l:List Value) (i:Nat) (v:Value),(x :: l).set (i+1) v=x :: l.set i v) :=
 ⟨fun _ _=>rfl,rfl,fun _ _=>rfl,fun _=>rfl,rfl,fun _ _ _ _ _ _=>rfl,fun _ _ _ _ _ _=>rfl,fun _ _ _ _=>by unfold qA; rfl,nr⟩
section
variable {P:Program} {ops:Array Oper} {Q:Exit->Act->World->Prop} {late:List Nat}
theorem XX {S:World->Prop}:∀ (f:Nat) (listed:Array Bool) (a:Act) (w:World),Je P ops Q S late f listed a w->Je P ops Q S late (f+1) listed a w
 | 0,_,_,_,h=>⟨fun _=>h.2,fun i hi=>by rw [h.1] at hi; cases hi⟩
 | f+1,_,_,_,h=>⟨h.1,fun i hi=>wpOp_mono (fun a' w' h'=>⟨h'.1,XX f _ a' w' h'.2⟩) (h.2 i hi)⟩
theorem wZ {S:World->Prop} {f:Nat} (hfg:f<=g) {listed:Array Bool} {a:Act} (h:Je P ops Q S late f listed a w):Je P ops Q S late g listed a w:=by
 induction hfg with
 | refl=>exact h
 | step _ ih=>exact XX _ _ _ _ ih
def cnt (listed:Array Bool):Nat->Nat
 | 0=>0
 | n+1=>cnt listed n+if listed.getD n false=true then 0 else 1
theorem KO {listed:Array Bool} {i:Nat} (hi:i < listed.size) (hf:listed.getD i false=false):∀ n,cnt (listed.setIfInBounds i true) n+(if i < n then 1 else 0)=cnt listed n
 | 0=>by simp [cnt]
 | n+1=>by
  have ih:=KO hi hf n;unfold cnt
  by_cases h:i=n
  ·subst h;have h1:(listed.setIfInBounds i true).getD i false=true:=by simp [hi]
   rw [h1,hf,if_pos rfl,if_pos (Nat.lt_succ_self i),if_neg (by decide)];rw [if_neg (Nat.lt_irrefl i)] at ih;omega
  ·rw [Go.getD_set_ne false h]
   have h2:(if i < n+1 then 1 else 0)=if i < n then 1 else 0:=by
    by_cases h3:i < n
    ·rw [if_pos h3,if_pos (by omega)]
    ·rw [if_neg h3,if_neg (by omega)]
   rw [h2];omega
def q0F (ops:Array Oper):Bool:=(List.range ops.size).all fun i=>(kE ops i).all fun j=>decide (j < i)
def q3f (ops:Array Oper) (late:List Nat):Bool:=(List.range ops.size).all fun i=>late.contains i || jw ops late i
def KD (ds:List (Option Tmp)) (n:Nat):Bool:=ds.all fun d=>match d with | some t=>decide (t < n) | none=>true
def lastB (ops:Array Oper) (late:List Nat):List Bool:=(List.range ops.size).map fun i=>!late.contains i
def q33 (ds:List (Option Tmp)) (late:List Nat) (t:Nat):Bool:=(List.range ds.length).all fun j=>late.contains j || (ds[j]? != some (some t))
theorem QF {t:Nat}:∀ (ds:List (Option Tmp)) (bs:List Bool) (vals:Nat->Value) (k:Nat) (a:Act),(∀ j:Nat,bs[j]?=some true->ds[j]?≠some (some t))->(qA ds bs vals k a).tmps[t]?=a.tmps[t]?
 | [],_,_,_,_,_=>by unfold qA; rfl
 | _ :: _,[],_,_,_,_=>rfl
 | d0 :: ds,b :: bs,vals,k,a,h=>by
  show (qA ds bs vals (k+1) (if b=true then a.put d0 (vals k) else a)).tmps[t]?=_
  rw [QF ds bs vals (k+1) _ (fun j hj=>h (j+1) hj)];cases b with
  | false=>rfl
  | true=>exact Xr a d0 _ (fun e=>h 0 rfl (by rw [e]; rfl))
theorem xB {ds:List (Option Tmp)} {late:List Nat} {listed:Array Bool} {t:Nat} (hl:ds.length=n) (h3:∀ j,late.contains j=true->j < n->listed.getD j false=false) (vals:Nat->Value) (a:Act) (h:q33 ds late t=true):(qA ds listed.toList vals 0 a).tmps[t]?=a.tmps[t]?:=by
 refine QF _ _ _ _ _ (fun j hj hd9=>?_);have hjl:j < ds.length:=(List.getElem?_eq_some_iff.1 hd9).1;have h1:=List.all_eq_true.1 h j (List.mem_range.2 hjl);rw [Bool.or_eq_true] at h1
 rcases h1 with h1 | h1
 ·have h2:=h3 j h1 (by omega);rw [Array.getElem?_toList] at hj;rw [Array.getD_eq_getD_getElem?,hj] at h2;cases h2
 ·rw [hd9] at h1;simp at h1
def Stp (P:Program) (ops:Array Oper) (Q:Exit->Act->World->Prop) (late:List Nat) (Js:List Mn) (ds:List (Option Tmp)) (a0:Act) (W:World) (i:Nat):Prop :=
 ∀ o,ops.toList[i]?=some o->∀ a w,Ext W w->(∀ t,q33 ds late t=true->a.tmps[t]?=a0.tmps[t]?) ->
  (∀ j,(kE ops i).contains j=true->∀ t,ds[j]?=some (some t)->∃ v,a.tmps[t]?=some v/\(Js[j]?.getD Mn.any).p v w) ->
  ∀ K:Act->World->Prop,Shut (∀ v w',Ext w w'->(Js[i]?.getD Mn.any).p v w'->K (a.put o.dst v) w')->if Region.wanted o (yielded ops a.tmps)=true then Oper.wp P o a w K Q else K (a.put o.dst undef) w
theorem stp {Js:List Mn} {ds:List (Option Tmp)} {a0:Act} {W:World} {i:Nat} {o:Oper} (hi:ops.toList[i]?=some o)
  (h:∀ a w,Ext W w->(∀ (t:Nat) (_:q33 ds late t=true:=by kernel_rfl),a.tmps[t]?=a0.tmps[t]?) ->
   (∀ (j t:Nat) (_:(kE ops i).contains j=true:=by kernel_rfl) (_:ds[j]?=some (some t):=by rfl),∃ v,a.tmps[t]?=some v/\(Js[j]?.getD Mn.any).p v w) ->
   ∀ K:Act->World->Prop,Shut (∀ v w',Ext w w'->(Js[i]?.getD Mn.any).p v w'->K (a.put o.dst v) w')->if Region.wanted o (yielded ops a.tmps)=true then Oper.wp P o a w K Q else K (a.put o.dst undef) w):Stp P ops Q late Js ds a0 W i:=by
 intro o' ho';rw [hi] at ho';cases ho'
 exact fun a w e hB hA=>h a w e hB (fun j t h1 h2=>hA j h1 t h2)
theorem QD (hlow:q0F ops=true) {listed:Array Bool} (hsz:listed.size=ops.size):∀ n,n<=ops.size->(∀ i,i < n->listed.getD i false=true)->(∃ i,i < ops.size/\listed.getD i false=false)->∃ i,i∈Region.ready .any ops listed:=by
 intro n hn hall hex
 induction h:ops.size - n generalizing n with
 | zero =>
  obtain⟨i,hi,hf⟩:=hex;rw [hall i (by omega)] at hf; cases hf
 | succ k ih =>
  cases hl:listed.getD n false with
  | true=>exact ih (n+1) (by omega) (fun i hi=>by
    by_cases e:i=n
    ·rw [e]; exact hl
    ·exact hall i (by omega)) (by omega)
  | false =>
   refine⟨n,mem_ready.2 ⟨?_,?_⟩⟩
   ·have:n < listed.size:=by omega
    simp [this] at hl ⊢; exact hl
   ·have hlt:n < ops.size:=by omega
    refine⟨ops[n],by simp [hlt],fun e he hb=>?_⟩
    have h1:=List.all_eq_true.1 (List.all_eq_true.1 hlow n (by simpa using hlt)) e.on (by
     unfold kE;rw [Array.getElem?_eq_getElem hlt];simp only [List.mem_map,List.mem_filter]
     exact⟨e,⟨by simpa using he,hb⟩,rfl⟩)
    exact hall e.on (by simpa using h1)
theorem q4t {Js:List Mn} {ds:List (Option Tmp)} {a0:Act} {W:World} (hd:ops.toList.map (·.dst)=ds) (hnd:nodupB ds=true) (hsz:KD ds a0.tmps.size=true) (hlow:q0F ops=true) (hlate:q3f ops late=true)
  (hstep:∀ i,i < ops.size->late.contains i=false->Stp P ops Q late Js ds a0 W i) (hk:cnt (lastB ops late).toArray ops.size=k)
  (hdone:∀ vals w,Ext W w->(∀ j,j < ops.size->late.contains j=false->(Js[j]?.getD Mn.any).p (vals j) w)->xg P ops Q (fun _=>True) late k (lastB ops late).toArray (qA ds (lastB ops late) vals 0 a0) w) :
  ∀ (fuel:Nat) (listed:Array Bool) (vals:Nat->Value) (w:World),listed.size=ops.size->Closed ops listed->(∀ t,late.contains t=true->t < ops.size->listed.getD t false=false)->cnt listed ops.size<=fuel->Ext W w ->
   (∀ j,listed.getD j false=true->(Js[j]?.getD Mn.any).p (vals j) w)->Je P ops Q (fun _=>True) late fuel listed (qA ds listed.toList vals 0 a0) w:=by
 intro fuel
 induction fuel with
 | zero =>
  intro listed vals w h1 h2 h3 h4 h5 h6
  by_cases hall:∀ i,i < ops.size->late.contains i=false->listed.getD i false=true
  ·have hL:listed=(lastB ops late).toArray:=by
    apply Array.ext
    ·simp [lastB,h1]
    ·intro i hi _;have hio:i < ops.size:=by omega
     have e1:listed[i]=listed.getD i false:=by simp [hi]
     rw [e1];simp only [lastB,List.getElem_toArray,List.getElem_map,List.getElem_range];cases hc:late.contains i with
     | false=>exact hall i hio hc
     | true=>exact h3 i hc hio
   subst hL;have:=hdone vals w h5 (fun j hj hc=>h6 j (hall j hj hc)) h2;rw [hk] at h4;exact wZ h4 this
  ·exfalso
   apply hall
   intro i hi _
   have hz:∀ n,n<=ops.size->cnt listed n=0->∀ i,i < n->listed.getD i false=true:=by
    intro n
    induction n with
    | zero=>intro _ _ i hi; omega
    | succ n ih =>
     intro hn hc i hi;unfold cnt at hc
     by_cases e:i=n
     ·subst e
      by_cases hg:listed.getD i false=true
      ·exact hg
      ·rw [if_neg hg] at hc; omega
     ·exact ih (by omega) (by omega) i (by omega)
   exact hz ops.size (q_r) (by omega) i hi
 | succ fuel ih =>
  intro listed vals w h1 h2 h3 h4 h5 h6
  by_cases hall:∀ i,i < ops.size->late.contains i=false->listed.getD i false=true
  ·have hL:listed=(lastB ops late).toArray:=by
    apply Array.ext
    ·simp [lastB,h1]
    ·intro i hi _;have hio:i < ops.size:=by omega
     have e1:listed[i]=listed.getD i false:=by simp [hi]
     rw [e1];simp only [lastB,List.getElem_toArray,List.getElem_map,List.getElem_range];cases hc:late.contains i with
     | false=>exact hall i hio hc
     | true=>exact h3 i hc hio
   subst hL;have:=hdone vals w h5 (fun j hj hc=>h6 j (hall j hj hc)) h2;rw [hk] at h4;exact wZ h4 this
  ·have hex:∃ i,i < ops.size/\late.contains i=false/\listed.getD i false=false:=by
    apply Classical.byContradiction
    intro hno
    apply hall
    intro i hi hc;cases hl:listed.getD i false with
    | true=>rfl
    | false=>exact absurd ⟨i,hi,hc,hl⟩ hno
   obtain⟨u,hu,huc,hul⟩:=hex;have hne:=QD hlow h1 0 (Nat.zero_le _) (fun i hi=>by omega) ⟨u,hu,hul⟩;refine⟨fun h0=>?_,fun i hi=>?_⟩
   ·obtain⟨i,hi⟩:=hne; rw [h0] at hi; cases hi
   ·have hun:=jF hi;obtain⟨hun2,o,ho,-⟩:=mem_ready.1 hi;have hio:i < ops.size:=(Array.getElem?_eq_some_iff.1 ho).1
    have hic:late.contains i=false:=by
     cases hc:late.contains i with
     | false=>rfl
     | true =>
      have hw:=List.all_eq_true.1 hlate u (by simpa using hu);rw [huc,Bool.false_or] at hw;have:=kU hw h2 hi hc;rw [hul] at this; cases this
    have ho':ops.toList[i]?=some o:=by rw [Array.getElem?_toList]; exact ho
    have hdi:ds[i]?=some o.dst:=by rw [<-hd,List.getElem?_map,ho']; rfl
    have hbi:listed.toList[i]?=some false:=by
     rw [Array.getElem?_toList];have:i < listed.size:=by omega
     simp [this] at hun ⊢; exact hun
    refine wpOp_step ho (fun K' hK=>?_);refine hstep i hio hic o ho' _ w h5 (fun t ht=>xB (by rw [<-hd]; simp) h3 vals a0 ht) (fun j hj t ht=>?_) K' (fun v w' e hJ=>hK _ _ ⟨fun _ _=>trivial,?_⟩)
    ·have hjl:=zZ hi j (by simpa using hj);refine⟨vals j,?_,h6 j hjl⟩
     have hjs:j < listed.size:=by
      rcases Nat.lt_or_ge j listed.size with h | h
      ·exact h
      ·simp [Array.getElem?_eq_none h] at hjl
     have:=jZ ds listed.toList vals 0 j a0 hnd (by rw [Array.getElem?_toList]; simp [hjs] at hjl ⊢; exact hjl) ht (by
      have:=List.all_eq_true.1 hsz (some t) (List.mem_of_getElem? ht)
      simpa using this)
     rw [Nat.zero_add] at this;exact this
    ·have hc:=KO (by omega:i < listed.size) hun ops.size;rw [if_pos hio] at hc;have hps:=jY (v:=v) ds listed.toList vals 0 i a0 hnd hbi hdi;rw [Nat.zero_add] at hps;rw [<-hps,<-Array.toList_setIfInBounds];refine ih (listed.setIfInBounds i true) (jT vals i v) w' (by simpa using h1) (h2.set hi) (fun t htl htn=>?_) (by omega) (h5.trans e) (fun j hj=>?_)
     ·rw [Go.getD_set_ne false (fun e=>by subst e; rw [hic] at htl; cases htl)];exact h3 t htl htn
     ·by_cases hji:i=j
      ·subst hji;have:jT vals i v i=v:=by simp [jT]
       rw [this]; exact hJ
      ·rw [Go.getD_set_ne false hji] at hj;have:jT vals i v j=vals j:=by unfold jT; rw [if_neg (fun e=>hji e.symm)]
       rw [this];exact (Js[j]?.getD Mn.any).mono e (h6 j hj)
theorem V9 (Js:List Mn) (ds:List (Option Tmp)) (late:List Nat) (bs:List Bool) (k:Nat) {id:Nat} {a0:Act} {W:World} (hm:P.follows .mixedOrders=true) (hd:ops.toList.map (·.dst)=ds) (hnd:nodupB ds=true) (hsz:KD ds a0.tmps.size=true) (hlow:q0F ops=true) (hlate:q3f ops late=true)
  (hb:lastB ops late=bs) (hk:cnt bs.toArray ops.size=k) (hstep:∀ i,i < ops.size->late.contains i=false->Stp P ops Q late Js ds a0 W i)
  (hdone:∀ vals w,Ext W w->(∀ j,j < ops.size->late.contains j=false->(Js[j]?.getD Mn.any).p (vals j) w)->xg P ops Q (fun _=>True) late k bs.toArray (qA ds bs vals 0 a0) w) :
  (Code.region id ops true).wp P Q a0 W:=by
 subst hb
 have h0:∀ n,qA ds (Array.replicate n false).toList (fun _=>undef) 0 a0=a0:=by
  intro n;simp only [Array.toList_replicate]
  have:∀ (ds:List (Option Tmp)) (n k:Nat),qA ds (List.replicate n false) (fun _=>undef) k a0=a0:=by
   intro ds
   induction ds with
   | nil=>intro n k; unfold qA; rfl
   | cons d ds ih =>
    intro n k;cases n with
    | zero=>rfl
    | succ n=>exact ih n (k+1)
  exact this ds n 0
 have hc0:∀ (n:Nat) (l:Array Bool),cnt l n<=n:=by
  intro n l
  induction n with
  | zero=>exact q_r
  | succ n ih=>unfold cnt; split <;> omega
 have hf0:∀ j,(Array.replicate ops.size false).getD j false=false:=fun j=>by
  rw [Array.getD_eq_getD_getElem?,Array.getElem?_replicate]; split <;> rfl
 have:=q4t (P:=P) (Q:=Q) (late:=late) hd hnd hsz hlow hlate hstep hk hdone ops.size (Array.replicate ops.size false) (fun _=>undef) W.drew (by simp) (Closed.start _) (fun t _ _=>hf0 t) (hc0 _ _) (Ext.refl W).drew (fun j hj=>by rw [hf0 j] at hj; cases hj);rw [h0] at this;exact wp_region_any hm (xE _ _ _ _ this)
def invB (P:Program) (ops:Array Oper) (ds:List (Option Tmp)) (late:List Nat) (bs:List Bool) (k n:Nat):Bool :=
 P.follows .mixedOrders && (decide (ops.toList.map (·.dst)=ds) && (nodupB ds && (KD ds n && (q0F ops && (q3f ops late && (decide (lastB ops late=bs) && decide (cnt bs.toArray ops.size=k)))))))
theorem jE (Js:List Mn) (ds:List (Option Tmp)) (late:List Nat) (bs:List Bool) (k:Nat) {id:Nat} {a0:Act} {W:World} (h:invB P ops ds late bs k a0.tmps.size=true) (hstep:∀ i,i < ops.size->late.contains i=false->Stp P ops Q late Js ds a0 W i)
  (hdone:∀ vals w,Ext W w->(∀ j,j < ops.size->late.contains j=false->(Js[j]?.getD Mn.any).p (vals j) w)->xg P ops Q (fun _=>True) late k bs.toArray (qA ds bs vals 0 a0) w) :
  (Code.region id ops true).wp P Q a0 W:=by
 unfold invB at h;simp only [Bool.and_eq_true,decide_eq_true_eq] at h;obtain⟨h1,h2,h3,h4,h5,h6,h7,h8⟩:=h;exact V9 Js ds late bs k h1 h2 h3 h4 h5 h6 h7 h8 hstep hdone
end
end Go.Proofs.YtphpkhoeplcedaaGreat
namespace Go.Proofs.YtphpkhoeplcedaaGreat
open Go.RowKit
variable {w w':World} {N n lo hi k g m base c b:Nat} {v s:Value} {G:Grd} {x:Rat} {z:Int} {A:Option Addr}
def Mn.rat (N:Nat) (q:Rat):Mn:=⟨fun v w=>qp N w v q,fun e h=>h.ext e⟩
def Mn.ls (N n:Nat) (x:Nat->Rat):Mn:=⟨fun v w=>LsV N 0 w.heap.size w v n x,fun e h=>LsR.wide (h.ext e) (q_r) e.size (q_r)⟩
def Mn.blk (lo:Nat) (o:Obj):Mn:=⟨fun v w=>∃ g,v=.pointer (some ⟨g,0,none⟩)/\lo<=g/\w.heap[g]?=some o,fun e h=>by
  obtain⟨g,h0,h1,h2⟩:=h
  exact⟨g,h0,h1,e.block h2⟩⟩
theorem XG {x:Nat->Rat} (h:Grow N base w v n x) (c:Chg g (g+1) w w') (hN:N<=g) (hd:v.ownBlock≠some g):Grow N base w' v n x:=by
 obtain⟨h1,h2,h3⟩:=h;refine⟨h1,q_l h2 c.size,?_⟩
 rcases h3 with h3 | ⟨g0,cap,rfl,hg,hm,hr⟩
 ·exact .inl h3
 ·have hne:g0≠g:=fun e=>hd (by rw [<-e]; rfl)
  exact .inr ⟨g0,cap,rfl,hg,hm,hr.chg c hN (by omega)⟩
theorem WY {x:Nat->Rat} (h:Grow N base w v n x) (hk:v.ownBlock=some k):base<=k/\k < w.heap.size:=by
 obtain⟨h1,h2,⟨rfl,-⟩ | ⟨g0,cap,rfl,hg,hm,hr⟩⟩:=h
 ·simp [Value.ownBlock] at hk
 ·have:g0=k:=by simpa [Value.ownBlock] using hk
  subst this;exact⟨hg,hr.lt⟩
theorem q1A {x:Nat->Rat} (h:Grow N base w v n x):∃ g',base<=g'/\NoU w g'/\(∀ k,v.ownBlock=some k->k=g')/\(v.ownBlock=some g'\/g'=w.heap.size):=by
 obtain⟨h1,h2,⟨rfl,-⟩ | ⟨g0,cap,rfl,hg,hm,hr⟩⟩:=h
 ·exact⟨w.heap.size,h2,fun cs fr h=>by (rw [Array.getElem?_eq_none (q_r)] at h; cases h),fun k hk=>by simp [Value.ownBlock] at hk,.inr rfl⟩
 ·exact⟨g0,hg,hr.noU,fun k hk=>by simpa [Value.ownBlock] using hk.symm,.inl rfl⟩
theorem wE (t ty:TypeId) (ht:Tryz.prog.underlying t=some (.slice 29)) {x:Nat->Rat} (h:Grow N base w v n x)
 {neg:Bool} {u:Value} {q:Rat} {fr:Nat×Nat} (hb:w.heap[b]?=some (.cells #[.bool neg,s,.bool false,u] 29 fr)) (hneg:Hid (neg=decide (q.num < 0))) (hs:Gs N w s (dg q.num.natAbs)) (hu:Gs N w u (dg q.den)) (hn:n < 1000000000) :
  ∃ g cap w' g',(Builtin.append_ #[t,t] ty #[v,.slice (some ⟨b,0,none⟩) 1 1]).run Tryz.prog w=.ok (.slice (some ⟨g,0,none⟩) (n+1) cap) w'/\Grow N base w' (.slice (some ⟨g,0,none⟩) (n+1) cap) (n+1) (upd x n q)/\base<=g'/\Chg g' (g'+1) w w'/\(v.ownBlock=some g'\/g'=w.heap.size)/\(v.ownBlock=some g\/g=w.heap.size):=by
 obtain⟨i0,hi0,hz0,hz1,hz2⟩:=info_parts YG;obtain⟨g1,cap1,w1,hrun1,hG1,-,-⟩:=yw t ty ht h hb hneg hs hu hn;obtain⟨g',hg',hT,hk,hw9⟩:=q1A h;obtain⟨h1,h2,h3⟩:=h
 have hown:∃ xs,w.ownsRow base 29 4 v n xs:=by
  rcases h3 with ⟨rfl,rfl⟩ | ⟨g,cap,rfl,hg,hm,hr⟩
  ·exact⟨[],⟨by simp,.inl ⟨rfl,rfl⟩⟩⟩
  ·obtain⟨xs,hx,hc⟩:=Xf hr hm hg;exact⟨xs,hx⟩
 obtain⟨xs,hown⟩:=hown;obtain⟨As,ns,cs0,rfl,-,-,-⟩:=hs.form;obtain⟨Au,nu,cu,rfl,-,-,-⟩:=hu.form
 obtain⟨g,cap,w',hrun,ho,hgr,hat,hlt⟩:=run_append_lies (P:=Tryz.prog) w t ty base 29 i0 _ 4 64 ht hi0 hz0 hz1 hz2 rfl (by omega) v n xs hown ⟨b,0,none⟩ 1 1 [.bool neg,.slice As ns cs0,.bool false,.slice Au nu cu] rfl
  (fun j u hj=>by
   have e:(⟨b,0,none⟩:Addr).add j=⟨b,j,none⟩:=by
    unfold Addr.add; split
    ·rename_i e; subst e; rfl
    ·simp
   rw [e,qg hb]
   simpa using hj)
  (fun u hu=>by simp at hu; rcases hu with rfl | rfl | rfl | rfl <;> rfl) (by omega) (by unfold maxLen; omega) (by omega) h2 w.heap.size rfl
 rw [hrun1] at hrun;injection hrun with e1 e2
 injection e1 with e1 _ e3
 injection e1 with e1
 injection e1 with e1 _
 subst e1 e2 e3;exact⟨g1,cap1,w1,g',hrun1,hG1,hg',zJ hgr hk hT,hw9,hat⟩
def flo (x:Rat):Int:=vK x.num x.den
def q2w (x:Rat) (n:Int):List (Int×Rat):=if 0<=flo x/\flo x < n - 1 then [(flo x,x - (flo x:Rat))] else []
def XU (x:Rat) (n:Int):List (Int×Rat):=if (x - (flo x:Rat)).num.sign=0/\1<=flo x/\flo x<=n - 1 then [(flo x - 1,((1:Int):Rat))] else []
def vW (x:Rat) (n:Int):List (Int×Rat):=q2w x n ++ XU x n
def cI (l:List (Int×Rat)) (i:Nat):Int:=(l[i]?.getD (0,0)).1
def cQ (l:List (Int×Rat)) (i:Nat):Rat:=(l[i]?.getD (0,0)).2
def Cel (N:Nat) (w:World) (v1 v2:Value) (l:List (Int×Rat)):Prop :=
 IzV N 0 w.heap.size w v1 l.length (cI l)/\LsV N 0 w.heap.size w v2 l.length (cQ l)
def q5a (N:Nat) (w:World) (l:List (Int×Rat)) (e:Ending) (w':World):Prop:=∃ v1 v2,e=.returned (.tuple #[v1,v2])/\Cel N w' v1 v2 l/\Ext w w'
theorem xn {k:Int} (h:k.natAbs < 1000000000):Sz (k:Rat):=by
 constructor
 ·rw [Rat.num_intCast];exact q_l (qG (k:=1) (by unfold bs; simpa using h)) (by omega)
 ·rw [Rat.den_intCast];exact q_l (qG (k:=1) (by unfold bs; omega)) (by omega)
theorem q0o {l:List (Int×Rat)} {q:Rat} (hn:n=l.length) (i:Nat):upd (cQ l) n q i=cQ (l ++ [(z,q)]) i:=by
 unfold upd cQ;subst hn
 rcases Nat.lt_trichotomy i l.length with h | rfl | h
 ·rw [if_neg (by omega),List.getElem?_append_left h]
 ·rw [if_pos rfl]; simp
 ·rw [if_neg (by omega),List.getElem?_eq_none (by omega),List.getElem?_eq_none (by simp; omega)]
def Mn.bks (lo n:Nat) (o:Obj):Mn:=⟨fun v w=>∃ g,v=.slice (some ⟨g,0,none⟩) n n/\lo<=g/\w.heap[g]?=some o,fun e h=>by
  obtain⟨g,h0,h1,h2⟩:=h
  exact⟨g,h0,h1,e.block h2⟩⟩
def Mn.gro (base:Nat) (xs:List Value):Mn:=⟨fun v w=>zh 3 base w v xs,fun e h=>h.ext e⟩
def Mn.gr (N base n:Nat) (x:Nat->Rat):Mn:=⟨fun v w=>Grow N base w v n x,fun e h=>h.ext e⟩
theorem q1B {base':Nat} {x:Nat->Rat} (h:Grow N base w v n x) (h1:N<=base') (h2:base'<=base):Grow N base' w v n x:=by
 obtain⟨a1,a2,a3⟩:=h;refine⟨h1,by omega,?_⟩
 rcases a3 with a3 | ⟨g,cap,hv,hg,hm,hr⟩
 ·exact .inl a3
 ·exact .inr ⟨g,cap,hv,by omega,hm,hr⟩
def q0C (N base:Nat) (w:World) (v1 v2:Value) (l:List (Int×Rat)):Prop :=
 zh 3 base w v1 (l.map fun p=>.int .i64 p.1)/\Grow N base w v2 l.length (cQ l)
theorem q4C {l:List (Int×Rat)} (h:zh 3 base w v (l.map fun p=>.int .i64 p.1)):IzV N 0 w.heap.size w v l.length (cI l):=by
 by_cases h0:0 < (l.map fun p=>Value.int .i64 p.1).length
 ·obtain⟨g,cap,rfl,h1,h2,h3,h4,h5,h6⟩:=h.at_ h0;refine⟨rfl,some ⟨g,0,none⟩,cap,by simp,by simpa using h4,h3,fun _=>⟨g,0,rfl,fun i hi=>?_⟩⟩;have:=h6 i (by simpa using hi);rw [Nat.zero_add,this];unfold cI;simp [hi]
 ·have hl:l=[]:=by
   cases l with
   | nil=>rfl
   | cons a b=>simp at h0
  subst hl
  rcases h.2.2 with ⟨rfl,h1⟩ | ⟨g,cap,cur,rfl,hb,hg,hnc,hcm,-⟩
  ·exact⟨rfl,none,0,rfl,by simp,by unfold maxLen; omega,fun h=>by simp at h⟩
  ·exact⟨rfl,some ⟨g,0,none⟩,cap,by simp,by simp,hcm,fun h=>by simp at h⟩
theorem q0C.cel {v1 v2:Value} {l:List (Int×Rat)} (h:q0C N base w v1 v2 l):Cel N w v1 v2 l:=⟨q4C h.1,h.2.lsv (Nat.zero_le _) rfl⟩
theorem zU {ops:Array Oper} {rest:List Oper} {o:Oper} {a:Act} {Q:Exit->Act->World->Prop} (hgd:o.guard=none) (s x:Operand) (t:TypeId) (ht:Tryz.prog.underlying t=some (.slice 29))
  (ho:o.op=.call { callee:=.builtin .append,args:=#[s,x],argTypes:=#[t,t] }) {f:Nat->Rat} (hs:a.eval s=v) (h:Grow N base w v n f)
 (hx:a.eval x=.slice (some ⟨b,0,none⟩) 1 1) {neg:Bool} {s1 s2:Value} {q:Rat} {fr:Nat×Nat} (hb:w.heap[b]?=some (.cells #[.bool neg,s1,.bool false,s2] 29 fr)) (hneg:Hid (neg=decide (q.num < 0))) (g1:Gs N w s1 (dg q.num.natAbs)) (g2:Gs N w s2 (dg q.den)) (hn:n < 1000000000)
  (hK:∀ g cap w' g',Grow N base w' (.slice (some ⟨g,0,none⟩) (n+1) cap) (n+1) (upd f n q)->base<=g'->Chg g' (g'+1) w w'->(v.ownBlock=some g'\/g'=w.heap.size)->(v.ownBlock=some g\/g=w.heap.size)->wpList Tryz.prog ops Q rest (a.put o.dst (.slice (some ⟨g,0,none⟩) (n+1) cap)) w'):wpList Tryz.prog ops Q (o :: rest) a w:=by
 obtain⟨g,cap,w',g',hrun,h2,h3,h4,h5,h6⟩:=wE t o.type ht h hb hneg g1 g2 hn;refine wpList_plain hgd fun _ hK'=>?_
 unfold Oper.wp;simp only [execOp,ho,resolve,invoke,builtin,Sem.run_bind,Sem.run_pure,Result.andThen_ok,List.map_toArray,List.map_cons,List.map_nil,hs,hx,hrun];exact hK' _ _ (hK g cap w' g' h2 h3 h4 h5 h6)
theorem YJ {gp:Nat} {v1 v2:Value} {xs:List Value} {x:Nat->Rat} (hG:Grow N base w v2 n x) (h1:zh 3 base w v1 xs) (c:Chg gp (gp+1) w w') (hg:v1.ownBlock=some gp\/gp=w.heap.size) (hb:base<=gp):Grow N base w' v2 n x:=by
 refine XG hG c (q_l hG.1 hb) fun hk=>?_
 rcases hg with hg | rfl
 ·obtain⟨-,-,⟨rfl,-⟩ | ⟨g,cap,rfl,-,-,hr⟩⟩:=hG
  ·simp [Value.ownBlock] at hk
  ·obtain rfl:g=gp:=by simpa [Value.ownBlock] using hk
   obtain⟨-,-,⟨rfl,-⟩ | ⟨g1,cap1,cur,rfl,-,hh,-⟩⟩:=h1
   ·simp [Value.ownBlock] at hg
   ·obtain rfl:g1=g:=by simpa [Value.ownBlock] using hg
    obtain⟨-,-,⟨cs,hc,-⟩,-⟩:=hr;rw [hh] at hc;injection hc with hc
    injection hc with _ hc _
    exact absurd hc (by decide)
 ·exact absurd (WY hG hk).2 (Nat.lt_irrefl _)
theorem YF {gp:Nat} {v1 v2:Value} {xs:List Value} {x:Nat->Rat} (hG:Grow N base w v2 n x) (h1:zh 3 base w v1 xs) (c:Chg gp (gp+1) w w') (hg:v2.ownBlock=some gp\/gp=w.heap.size):zh 3 base w' v1 xs:=by
 refine h1.far c fun k hk=>?_
 have hlt:=(h1.own_lt k hk).2
 rcases hg with hg | rfl
 ·have hne:k≠gp:=by
   rintro rfl;obtain⟨-,-,⟨rfl,-⟩ | ⟨g,cap,rfl,-,-,hr⟩⟩:=hG
   ·simp [Value.ownBlock] at hg
   ·obtain rfl:g=k:=by simpa [Value.ownBlock] using hg
    obtain⟨-,-,⟨rfl,-⟩ | ⟨g1,cap1,cur,rfl,-,hh,-⟩⟩:=h1
    ·simp [Value.ownBlock] at hk
    ·obtain rfl:g1=g:=by simpa [Value.ownBlock] using hk
     obtain⟨-,-,⟨cs,hc,-⟩,-⟩:=hr;rw [hh] at hc;injection hc with hc
     injection hc with _ hc _
     exact absurd hc (by decide)
  omega
 ·omega
set_option maxRecDepth 100000 in
theorem WC {n:Int} (h:qp N w v x) (hz:Sz x) (hz':Sz (x - (flo x:Rat))) (hk:(flo x).natAbs < 1000000000) (hn0:2<=n) (hn:n<=64) :
  Calls Tryz.prog 99 #[v,.int .i64 n] w (q5a N w (vW x n)):=by
 obtain⟨lst,hlst⟩:=qf (vW x n);rw [<-hlst.out];have hN:=h.le;have hI:=h;have HZ:=q_h hz;have HZ':=q_h hz';have HKB:=q_h hk;obtain⟨m1,X1,i1,d1,X2,i2,d2,rfl,hm1,gx1,gx2⟩:=h.parts;obtain⟨k,hkd⟩:=qf (flo x);rw [<-hkd.out] at HZ' HKB;clear h gx1 gx2 hz hz' hk;go_enter Tryz.func99,Tryz.ntmps99;go_wp2_with (go_at_call 151; refine q_o ?_);refine qF ?_;intro W hE hsz B0;refine (q3B (hI.ext hE) HZ.out).mono ?_;rintro e w1 ⟨v1,rfl,iv,e1⟩;replace iv:qU N w1 v1 k:=by rw [hkd.out]; exact iv
 obtain⟨b5,A5,k5,c5,rfl,hb5,h5,-⟩:=iv.parts;replace hE:=hE.trans e1;replace B0:=e1.block B0;replace hsz:=q_l hsz e1.size;clear e1 h5;go_wp2_with (go_at_call 150; refine q_o ?_);refine (q3n iv HKB.out).mono ?_;rintro e w2 ⟨rfl,e2⟩;replace hE:=hE.trans e2;replace B0:=e2.block B0;replace hsz:=q_l hsz e2.size;have hx2:=hI.ext hE;have hk1 : -1000000000 < k:=by have:=HKB.out; omega
 have hk2:k < 1000000000:=by have:=HKB.out; omega
 clear e2 iv hb5;obtain⟨a0,a1,a2,a3,a4,a5,a6,a7⟩:=cells4 B0;obtain⟨w3,hw3⟩:∃ w3,w3=w2:=⟨_,rfl⟩
 subst hw3;go_upto_region 4 with (fail);refine jE [Mn.rat N (x),Mn.i k,Mn.rat N (k:Rat),Mn.rat N (x - (k:Rat)),Mn.blk w3.heap.size (.cells #[.bool false,.slice none 0 0,.bool false,.slice none 0 0] 29 (0,0)),Mn.any] [some 17,some 18,some 19,some 20,some 8,none] [5] (rQ 5 1) 1 (by kernel_rfl) ?_ ?_
 ·show ∀ i,i < 6->_
  iterate 6 refine fs ?_ ?_
  ·exact fz
  all_goals intro hl; first | exact absurd hl (by decide) | (clear hl; refine stp rfl ?_; intro ac wi eI hB hA K hK)
  have o2:=oOf (hB 2) rfl;clear hB hA;have cc0:=eI.cell a0;have cc1:=eI.cell a1;have cc2:=eI.cell a2;have cc3:=eI.cell a3
  ·go_simp;exact q_k hK (hx2.ext eI)
  have o6:=oOf (hB 6) rfl
  rotate_left
  obtain⟨_,s18,rfl⟩:=hA 1 18;clear hB hA
  ·go_simp;refine (qW (q_l (by omega:N<=w3.heap.size) eI.size) k (by omega) (by omega)).mono ?_;rintro e wj ⟨vj,rfl,hj,ej⟩;go_wp2_with fail;exact hK.out _ _ ej hj
  obtain⟨x17,s17,j17⟩:=hA 0 17;replace j17:Mn.p (Mn.rat N (x)) x17 wi:=j17;obtain⟨x19,s19,j19⟩:=hA 2 19;replace j19:Mn.p (Mn.rat N (k:Rat)) x19 wi:=j19;clear hB hA
  ·go_simp;refine (yY j17 j19 HZ.out (xn HKB.out)).mono ?_;rintro e wj ⟨vj,rfl,hj,ej⟩;go_wp2_with fail;exact hK.out _ _ ej hj
  clear hB hA
  ·go_simp;refine ql ?_;intro wj ej hszj BJ;exact hK.out _ _ ej ⟨_,rfl,eI.size,BJ⟩
  all_goals clear hB hA; go_simp; exact q_k hK rfl
 intro vals wz eZ hJ;have J20:Mn.p (Mn.rat N (x - (k:Rat))) (vals 3) wz:=hJ 3 (by decide) (by decide);have J8:Mn.p (Mn.blk w3.heap.size (.cells #[.bool false,.slice none 0 0,.bool false,.slice none 0 0] 29 (0,0))) (vals 4) wz:=hJ 4 (by decide) (by decide);clear hJ;simp only [pr,Nat.reduceAdd]
 generalize vals 3=z20 at J20 ⊢
 generalize vals 4=z8 at J8 ⊢
 obtain⟨gR,rfl,hgR,BG⟩:=J8;obtain⟨bz,Az,kz,cz,Az',kz',cz',rfl,hbz,gz1,gz2⟩:=qp.parts J20;obtain⟨r0,r1,r2,r3,r4,r5,r6,r7⟩:=cells4 BG;refine qh (i:=5) rfl (by kernel_rfl) (by kernel_rfl) (fun K hK=>?_);go_simp;refine hK.out _ _ ?_;clear hK K;try simp only [nr]
 refine qi (by kernel_rfl) ?_ _;obtain⟨w4,E4,hBR,K4,hs4⟩:=kN (q:=x - (k:Rat)) BG (by omega) hbz gz1 gz2;rw [E4];have hgR4:gR < w4.heap.size:=by have:=qI BG; omega
 have e4:Ext w3 w4:=K4.ext eZ hgR;replace hE:=hE.trans e4;replace hsz:=q_l hsz e4.size;clear a0 a1 a2 a3 a4 a5 a6 a7 r0 r1 r2 r3 r4 r5 r6 r7 BG E4 K4 eZ hs4 hbz gz1 gz2 e4 B0 hx2;have hG0:q0C N w4.heap.size w4 (.slice none 0 0) (.slice none 0 0) []:=⟨zh.nil (q_r),Grow.nil (by omega) (q_r) _⟩
 have hw1:IntKind.i64.wrap (n - 1)=n - 1:=IntWalk.i64_in _ (by omega);have hw2:IntKind.i64.wrap (k - 1)=k - 1:=IntWalk.i64_in _ (by omega);have hBR0:=hBR;obtain⟨na,Aa,ka,ca,A'a,k'a,c'a,Ba,hba,ya,za⟩:=hBR;obtain⟨a0,a1,a2,a3,-⟩:=cells4 Ba;have hRa:qp N w4 (.agg #[.bool na,.slice Aa ka ca,.bool false,.slice A'a k'a c'a]) (x - (k:Rat)):=qp.mk hba ya za;have hBR:=hBR0;clear Ba;have HC1:Hid (q2w x n=if 0<=k/\k < n - 1 then [(k,x - (k:Rat))] else []):=by rw [hkd.out]; rfl
 by_cases c1:0<=k
 case neg =>
  have t1:decide (0<=k)=false:=decide_eq_false c1;have HL1:Hid (q2w x n=[]):=by rw [Hid,HC1.out,if_neg (fun h=>c1 h.1)]
  go_upto_region 7 with (fail);obtain⟨base,hbase⟩:=qf w4.heap.size;obtain⟨l1,hl1⟩:=qf ([]:List (Int×Rat));have HLB:Hid (l1.length<=1):=by rw [Hid,hl1.out]; simp
  have hG:q0C N base w4 (.slice none 0 0) (.slice none 0 0) l1:=by rw [hbase.out,hl1.out]; exact hG0
  rw [<-hl1.out] at HL1;have hbN:w.heap.size<=base:=by rw [hbase.out]; omega
  clear hG0 hl1 hbase a0 a1 a2 a3 HC1;obtain⟨wv,hwv⟩:∃ wv,wv=w4:=⟨_,rfl⟩
  subst hwv;obtain⟨s,hs⟩:=qf (x - (k:Rat)).num.sign;obtain⟨nb,Ab,kb,cb,A'b,k'b,c'b,Bb,hbb,yb,zb⟩:=hBR;obtain⟨b0,b1,b2,b3,-⟩:=cells4 Bb;have hRb:qp N wv (.agg #[.bool nb,.slice Ab kb cb,.bool false,.slice A'b k'b c'b]) (x - (k:Rat)):=qp.mk hbb yb zb;go_wp2_with (go_at_call 59; refine q_o ?_);refine (kY hRb HZ'.out).mono ?_;rintro e w7 ⟨rfl,e7⟩;rw [<-hs.out];replace hE:=hE.trans e7;replace hG:q0C N base w7 _ _ l1:=⟨hG.1.ext e7,hG.2.ext e7⟩
  have hN7:N<=w7.heap.size:=by have:=hE.size; omega
  have HC2:Hid (XU x n=if s=0/\1<=k/\k<=n - 1 then [(k - 1,((1:Int):Rat))] else []):=by rw [hs.out,hkd.out]; rfl
  clear hba hRa hBR0 Bb hRb b0 b1 b2 b3 yb zb hbb;obtain⟨L1,hL1⟩:=qf (l1.map fun p=>Value.int .i64 p.1).length;obtain⟨L2,hL2⟩:=qf l1.length
  by_cases c3:s=0
  case neg =>
   have t3:(s == 0)=false:=beq_eq_false_iff_ne.2 c3;have HL2:Hid (XU x n=[]):=by rw [Hid,HC2.out,if_neg (fun h=>c3 h.1)]
   have HE:Hid (l1=lst):=by rw [hlst.out,vW,HL1.out,HL2.out,List.append_nil]; rfl
   have hG9:=hG.cel;rw [HE.out] at hG9;clear HC2;go_wp2;go_ret2;exact⟨_,_,rfl,hG9,hE⟩
  subst c3;have t4:decide (1<=k)=false:=q_f (by omega);have HL2:Hid (XU x n=[]):=by rw [Hid,HC2.out,if_neg (fun h=>absurd h.2.1 (by omega))]
  have HE:Hid (l1=lst):=by rw [hlst.out,vW,HL1.out,HL2.out,List.append_nil]; rfl
  have hG9:=hG.cel;rw [HE.out] at hG9;clear HC2;go_wp2;go_ret2;exact⟨_,_,rfl,hG9,hE⟩
 have t1:decide (0<=k)=true:=decide_eq_true c1
 by_cases c2:k < n - 1
 case neg =>
  have t2:decide (k < n - 1)=false:=decide_eq_false c2;have HL1:Hid (q2w x n=[]):=by rw [Hid,HC1.out,if_neg (fun h=>c2 h.2)]
  go_upto_region 7 with (fail);obtain⟨base,hbase⟩:=qf w4.heap.size;obtain⟨l1,hl1⟩:=qf ([]:List (Int×Rat));have HLB:Hid (l1.length<=1):=by rw [Hid,hl1.out]; simp
  have hG:q0C N base w4 (.slice none 0 0) (.slice none 0 0) l1:=by rw [hbase.out,hl1.out]; exact hG0
  rw [<-hl1.out] at HL1;have hbN:w.heap.size<=base:=by rw [hbase.out]; omega
  clear hG0 hl1 hbase a0 a1 a2 a3 HC1;obtain⟨wv,hwv⟩:∃ wv,wv=w4:=⟨_,rfl⟩
  subst hwv;obtain⟨s,hs⟩:=qf (x - (k:Rat)).num.sign;obtain⟨nb,Ab,kb,cb,A'b,k'b,c'b,Bb,hbb,yb,zb⟩:=hBR;obtain⟨b0,b1,b2,b3,-⟩:=cells4 Bb;have hRb:qp N wv (.agg #[.bool nb,.slice Ab kb cb,.bool false,.slice A'b k'b c'b]) (x - (k:Rat)):=qp.mk hbb yb zb;go_wp2_with (go_at_call 59; refine q_o ?_);refine (kY hRb HZ'.out).mono ?_;rintro e w7 ⟨rfl,e7⟩;rw [<-hs.out];replace hE:=hE.trans e7;replace hG:q0C N base w7 _ _ l1:=⟨hG.1.ext e7,hG.2.ext e7⟩
  have hN7:N<=w7.heap.size:=by have:=hE.size; omega
  have HC2:Hid (XU x n=if s=0/\1<=k/\k<=n - 1 then [(k - 1,((1:Int):Rat))] else []):=by rw [hs.out,hkd.out]; rfl
  clear hba hRa hBR0 Bb hRb b0 b1 b2 b3 yb zb hbb;obtain⟨L1,hL1⟩:=qf (l1.map fun p=>Value.int .i64 p.1).length;obtain⟨L2,hL2⟩:=qf l1.length
  by_cases c3:s=0
  case neg =>
   have t3:(s == 0)=false:=beq_eq_false_iff_ne.2 c3;have HL2:Hid (XU x n=[]):=by rw [Hid,HC2.out,if_neg (fun h=>c3 h.1)]
   have HE:Hid (l1=lst):=by rw [hlst.out,vW,HL1.out,HL2.out,List.append_nil]; rfl
   have hG9:=hG.cel;rw [HE.out] at hG9;clear HC2;go_wp2;go_ret2;exact⟨_,_,rfl,hG9,hE⟩
  subst c3
  by_cases c4':1<=k
  case neg =>
   have t4:decide (1<=k)=false:=decide_eq_false c4';have HL2:Hid (XU x n=[]):=by rw [Hid,HC2.out,if_neg (fun h=>c4' h.2.1)]
   have HE:Hid (l1=lst):=by rw [hlst.out,vW,HL1.out,HL2.out,List.append_nil]; rfl
   have hG9:=hG.cel;rw [HE.out] at hG9;clear HC2;go_wp2;go_ret2;exact⟨_,_,rfl,hG9,hE⟩
  have t4:decide (1<=k)=true:=decide_eq_true c4'
  by_cases c5':k<=n - 1
  case neg =>
   have t5:decide (k<=n - 1)=false:=decide_eq_false c5';have HL2:Hid (XU x n=[]):=by rw [Hid,HC2.out,if_neg (fun h=>c5' h.2.2)]
   have HE:Hid (l1=lst):=by rw [hlst.out,vW,HL1.out,HL2.out,List.append_nil]; rfl
   have hG9:=hG.cel;rw [HE.out] at hG9;clear HC2;go_wp2;go_ret2;exact⟨_,_,rfl,hG9,hE⟩
  have t5:decide (k<=n - 1)=true:=decide_eq_true c5';have HL2:Hid (XU x n=[(k - 1,((1:Int):Rat))]):=by rw [Hid,HC2.out,if_pos ⟨rfl,c4',c5'⟩]
  have HE:Hid (l1 ++ [(k - 1,((1:Int):Rat))]=lst):=by rw [hlst.out,vW,HL1.out,HL2.out]; rfl
  clear HC2;have hg1:=hG.1;have hg2:=hG.2;clear hG;go_wp2_with (at_builtin; refine q_o ?_);refine ql ?_;intro w8 e8 hsz8 BX;replace hg1:=hg1.ext e8;replace hg2:=hg2.ext e8;refine kG ZV rfl _ _ 22 Tryz.underlying22 rfl rfl hg1 (m:=1) (c:=1) (by rfl) rfl (QH BX) (by intro u hu; simp at hu; subst hu; rfl) (by omega) (by rw [List.length_map]; have:=HLB.out; omega) ?_;rintro gq cq w9 hg1' hoq ⟨gp,hgp,hop,cj,-⟩;replace hg2:=YJ hg2 hg1 cj hop hgp;have e9:Ext w w9:=cj.ext (hE.trans e8) (by omega);clear hg1 BX cj e8 hop hoq hsz8 hE;rw [<-hL1.out] at hg1' ⊢;have hN9:N<=w9.heap.size:=by have:=e9.size; omega
  go_wp2_with (go_at_call 61; refine q_o ?_);refine (qW hN9 1 (by omega) (by omega)).mono ?_;rintro e w10 hh;obtain⟨b3,A11,k11,c11,A12,k12,c12,rfl,hb3,g5,g6,e10⟩:=hh.form;replace hg1':=hg1'.ext e10;replace hg2:=hg2.ext e10;replace e9:=e9.trans e10;clear e10;go_wp2_with (at_builtin; refine q_o ?_);refine ql ?_;intro w11 e11 hsz11 BX;replace hg1':=hg1'.ext e11;replace hg2:=hg2.ext e11;refine zU rfl _ _ 45 Tryz.underlying45 rfl rfl hg2 rfl BX hb3 (g5.ext e11) (g6.ext e11) (by have:=HLB.out; omega) ?_;rintro gr cr w12 gs hg2' hgs cj hos -;replace hg1':=YF hg2 hg1' cj hos;have e12:Ext w w12:=cj.ext (e9.trans e11) (by omega);have hG9:q0C N base w12 _ _ (l1 ++ [(k - 1,((1:Int):Rat))]):=⟨by rw [List.map_append]; exact hg1',by rw [List.length_append]; exact hg2'.congr (fun i hi=>q0o (z:=k - 1) rfl i)⟩
  replace hG9:=hG9.cel;rw [HE.out] at hG9;clear hg1' hg2 hg2' BX cj;go_wp2;go_ret2;exact⟨_,_,rfl,hG9,e12⟩
 have t2:decide (k < n - 1)=true:=decide_eq_true c2;have HL1:Hid (q2w x n=[(k,x - (k:Rat))]):=by rw [Hid,HC1.out,if_pos ⟨c1,c2⟩]
 go_upto_region 6 with (fail);refine jE [Mn.eq (.slice none 0 0),Mn.i k,Mn.bks w4.heap.size 1 (.cells #[.int .i64 k] 3 (0,0)),Mn.gro w4.heap.size [.int .i64 k],Mn.eq (.slice none 0 0),Mn.eq (.agg #[.bool na,.slice Aa ka ca,.bool false,.slice A'a k'a c'a]),Mn.bks w4.heap.size 1 (.cells #[.bool na,.slice Aa ka ca,.bool false,.slice A'a k'a c'a] 29 (0,0)),Mn.gr N w4.heap.size 1 (fun _=>x - (k:Rat)),Mn.any,Mn.any] (sM [29,30,31,32,33,34,35,36,4,5]) [8,9] (rQ 8 2) 2 (by kernel_rfl) ?_ ?_
 ·show ∀ i,i < 10->_
  iterate 10 refine fs ?_ ?_
  ·exact fz
  all_goals intro hl; first | exact absurd hl (by decide) | (clear hl; refine stp rfl ?_; intro ac wi eI hB hA K hK)
  have o4:=oOf (hB 4) rfl
  rotate_left
  have o6:=oOf (hB 6) rfl
  rotate_left
  obtain⟨_,s30,rfl⟩:=hA 1 30;clear hB hA
  ·go_simp;refine ql ?_;intro wj ej hszj BJ;exact hK.out _ _ ej ⟨_,rfl,eI.size,BJ⟩
  obtain⟨_,s29,rfl⟩:=hA 0 29;obtain⟨x31,s31,j31⟩:=hA 2 31;replace j31:Mn.p (Mn.bks w4.heap.size 1 (.cells #[.int .i64 k] 3 (0,0))) x31 wi:=j31;clear hB hA
  ·obtain⟨gj,rfl,hgj,BJ⟩:=j31;refine Qz ZV _ _ 22 Tryz.underlying22 rfl (by simp [Act.eval,s29]) (zh.nil (base:=wi.heap.size) (q_r)) (m:=1) (c:=1) (by simp [Act.eval,s31]) rfl (QH BJ) (by intro u hu; simp at hu; subst hu; rfl) (by omega) (by simp) ?_;rintro gq cq wj hj hoj ⟨gp,hgp,-,cj,-⟩;exact hK.out _ _ (cj.ext (Ext.refl _) hgp) (hj.low eI.size)
  have o5:=oOf (hB 5) rfl
  rotate_left
  have o8:=oOf (hB 8) rfl;have cc0:=eI.cell a0;have cc1:=eI.cell a1;have cc2:=eI.cell a2;have cc3:=eI.cell a3
  rotate_left
  obtain⟨_,s34,rfl⟩:=hA 5 34;clear hB hA
  ·go_simp;refine ql ?_;intro wj ej hszj BJ;exact hK.out _ _ ej ⟨_,rfl,eI.size,BJ⟩
  obtain⟨_,s33,rfl⟩:=hA 4 33;obtain⟨x35,s35,j35⟩:=hA 6 35;replace j35:Mn.p (Mn.bks w4.heap.size 1 (.cells #[.bool na,.slice Aa ka ca,.bool false,.slice A'a k'a c'a] 29 (0,0))) x35 wi:=j35;clear hB hA
  ·obtain⟨gj,rfl,hgj,BJ⟩:=j35;refine yO _ _ 45 Tryz.underlying45 rfl (by simp [Act.eval,s33]) (Grow.nil (base:=wi.heap.size) (q_l (by omega:N<=w4.heap.size) eI.size) (q_r) (fun _=>x - (k:Rat))) (by simp [Act.eval,s35]) BJ hba (ya.ext eI) (za.ext eI) (by omega) ?_;rintro gq cq wj hj ⟨gp,hgp,cj,-⟩ -;exact hK.out _ _ (cj.ext (Ext.refl _) hgp) (q1B (hj.congr (fun i _=>by unfold upd; split <;> rfl)) (by omega) eI.size)
  all_goals clear hB hA; go_simp; exact q_k hK rfl
 intro vals wz eZ hJ;have J32:Mn.p (Mn.gro w4.heap.size [.int .i64 k]) (vals 3) wz:=hJ 3 (by decide) (by decide);have J36:Mn.p (Mn.gr N w4.heap.size 1 (fun _=>x - (k:Rat))) (vals 7) wz:=hJ 7 (by decide) (by decide);clear hJ;simp only [pr,Nat.reduceAdd]
 generalize vals 3=z32 at J32 ⊢
 generalize vals 7=z36 at J36 ⊢
 refine qh (i:=8) rfl (by kernel_rfl) (by kernel_rfl) (fun K hK=>?_);go_simp;refine hK.out _ _ ?_;clear hK K;try simp only [nr]
 refine qh (i:=9) rfl (by kernel_rfl) (by kernel_rfl) (fun K hK=>?_);go_simp;refine hK.out _ _ ?_;clear hK K;try simp only [nr]
 refine qi (by kernel_rfl) ?_ _;have hG:q0C N w4.heap.size wz _ _ [(k,x - (k:Rat))]:=⟨J32,Grow.congr J36 (fun i hi=>by have h0:i=0:=Nat.lt_one_iff.1 hi; subst h0; rfl)⟩
 go_upto_region 7 with (fail);obtain⟨base,hbase⟩:=qf w4.heap.size;obtain⟨l1,hl1⟩:=qf [(k,x - (k:Rat))];have HLB:Hid (l1.length<=1):=by rw [Hid,hl1.out]; simp
 rw [<-hbase.out,<-hl1.out] at hG;rw [<-hl1.out] at HL1;have hbN:w.heap.size<=base:=by rw [hbase.out]; omega
 replace hE:=hE.trans eZ;replace hBR:=hBR.ext eZ;clear hG0 hl1 hbase a0 a1 a2 a3 HC1 ya za J32 J36;obtain⟨wv,hwv⟩:∃ wv,wv=wz:=⟨_,rfl⟩
 subst hwv;obtain⟨v4,hv4⟩:∃ v4,v4=z32:=⟨_,rfl⟩
 obtain⟨v5,hv5⟩:∃ v5,v5=z36:=⟨_,rfl⟩
 rw [<-hv4,<-hv5] at hG ⊢;clear hv4 hv5;obtain⟨s,hs⟩:=qf (x - (k:Rat)).num.sign;obtain⟨nb,Ab,kb,cb,A'b,k'b,c'b,Bb,hbb,yb,zb⟩:=hBR;obtain⟨b0,b1,b2,b3,-⟩:=cells4 Bb;have hRb:qp N wv (.agg #[.bool nb,.slice Ab kb cb,.bool false,.slice A'b k'b c'b]) (x - (k:Rat)):=qp.mk hbb yb zb;go_wp2_with (go_at_call 59; refine q_o ?_);refine (kY hRb HZ'.out).mono ?_;rintro e w7 ⟨rfl,e7⟩;rw [<-hs.out];replace hE:=hE.trans e7;replace hG:q0C N base w7 _ _ l1:=⟨hG.1.ext e7,hG.2.ext e7⟩
 have hN7:N<=w7.heap.size:=by have:=hE.size; omega
 have HC2:Hid (XU x n=if s=0/\1<=k/\k<=n - 1 then [(k - 1,((1:Int):Rat))] else []):=by rw [hs.out,hkd.out]; rfl
 clear hba hRa hBR0 Bb hRb b0 b1 b2 b3 yb zb hbb;obtain⟨L1,hL1⟩:=qf (l1.map fun p=>Value.int .i64 p.1).length;obtain⟨L2,hL2⟩:=qf l1.length;obtain⟨A4,c4,hv4,-⟩:=hG.1.form;obtain⟨A5,c5,hv5,-⟩:=hG.2.form;rw [<-hL1.out] at hv4;rw [<-hL2.out] at hv5;subst hv4;subst hv5
 by_cases c3:s=0
 case neg =>
  have t3:(s == 0)=false:=beq_eq_false_iff_ne.2 c3;have HL2:Hid (XU x n=[]):=by rw [Hid,HC2.out,if_neg (fun h=>c3 h.1)]
  have HE:Hid (l1=lst):=by rw [hlst.out,vW,HL1.out,HL2.out,List.append_nil]; rfl
  have hG9:=hG.cel;rw [HE.out] at hG9;clear HC2;go_wp2;go_ret2;exact⟨_,_,rfl,hG9,hE⟩
 subst c3
 by_cases c4':1<=k
 case neg =>
  have t4:decide (1<=k)=false:=decide_eq_false c4';have HL2:Hid (XU x n=[]):=by rw [Hid,HC2.out,if_neg (fun h=>c4' h.2.1)]
  have HE:Hid (l1=lst):=by rw [hlst.out,vW,HL1.out,HL2.out,List.append_nil]; rfl
  have hG9:=hG.cel;rw [HE.out] at hG9;clear HC2;go_wp2;go_ret2;exact⟨_,_,rfl,hG9,hE⟩
 have t4:decide (1<=k)=true:=decide_eq_true c4'
 by_cases c5':k<=n - 1
 case neg =>
  have t5:decide (k<=n - 1)=false:=decide_eq_false c5';have HL2:Hid (XU x n=[]):=by rw [Hid,HC2.out,if_neg (fun h=>c5' h.2.2)]
  have HE:Hid (l1=lst):=by rw [hlst.out,vW,HL1.out,HL2.out,List.append_nil]; rfl
  have hG9:=hG.cel;rw [HE.out] at hG9;clear HC2;go_wp2;go_ret2;exact⟨_,_,rfl,hG9,hE⟩
 have t5:decide (k<=n - 1)=true:=decide_eq_true c5';have HL2:Hid (XU x n=[(k - 1,((1:Int):Rat))]):=by rw [Hid,HC2.out,if_pos ⟨rfl,c4',c5'⟩]
 have HE:Hid (l1 ++ [(k - 1,((1:Int):Rat))]=lst):=by rw [hlst.out,vW,HL1.out,HL2.out]; rfl
 clear HC2;have hg1:=hG.1;have hg2:=hG.2;clear hG;go_wp2_with (at_builtin; refine q_o ?_);refine ql ?_;intro w8 e8 hsz8 BX;replace hg1:=hg1.ext e8;replace hg2:=hg2.ext e8;refine kG ZV rfl _ _ 22 Tryz.underlying22 rfl rfl hg1 (m:=1) (c:=1) (by rfl) rfl (QH BX) (by intro u hu; simp at hu; subst hu; rfl) (by omega) (by rw [List.length_map]; have:=HLB.out; omega) ?_;rintro gq cq w9 hg1' hoq ⟨gp,hgp,hop,cj,-⟩;replace hg2:=YJ hg2 hg1 cj hop hgp;have e9:Ext w w9:=cj.ext (hE.trans e8) (by omega);clear hg1 BX cj e8 hop hoq hsz8 hE;rw [<-hL1.out] at hg1' ⊢;have hN9:N<=w9.heap.size:=by have:=e9.size; omega
 go_wp2_with (go_at_call 61; refine q_o ?_);refine (qW hN9 1 (by omega) (by omega)).mono ?_;rintro e w10 hh;obtain⟨b3,A11,k11,c11,A12,k12,c12,rfl,hb3,g5,g6,e10⟩:=hh.form;replace hg1':=hg1'.ext e10;replace hg2:=hg2.ext e10;replace e9:=e9.trans e10;clear e10;go_wp2_with (at_builtin; refine q_o ?_);refine ql ?_;intro w11 e11 hsz11 BX;replace hg1':=hg1'.ext e11;replace hg2:=hg2.ext e11;refine zU rfl _ _ 45 Tryz.underlying45 rfl rfl hg2 rfl BX hb3 (g5.ext e11) (g6.ext e11) (by have:=HLB.out; omega) ?_;rintro gr cr w12 gs hg2' hgs cj hos -;replace hg1':=YF hg2 hg1' cj hos;have e12:Ext w w12:=cj.ext (e9.trans e11) (by omega);have hG9:q0C N base w12 _ _ (l1 ++ [(k - 1,((1:Int):Rat))]):=⟨by rw [List.map_append]; exact hg1',by rw [List.length_append]; exact hg2'.congr (fun i hi=>q0o (z:=k - 1) rfl i)⟩
 replace hG9:=hG9.cel;rw [HE.out] at hG9;clear hg1' hg2 hg2' BX cj;go_wp2;go_ret2;exact⟨_,_,rfl,hG9,e12⟩
theorem jL {v':Value} {y:Rat} (h:qp N w v x) (h':qp N w v' y) (hz:Sz x) (hz':Sz y) :
  Calls Tryz.prog 60 #[v,v'] w (zG w (.int .i64 (x.num*y.den - y.num*x.den).sign)):=by
 obtain⟨s,hs⟩:=qf (x.num*y.den - y.num*x.den).sign;rw [<-hs.out];have hI:=h;have hI':=h';have hN:=h.le;obtain⟨m1,X1,i1,d1,X2,i2,d2,rfl,hm1,gx1,gx2⟩:=h.parts;obtain⟨m2,Y1,i3,d3,Y2,i4,d4,rfl,hm2,gy1,gy2⟩:=h'.parts;have HZ:=q_h hz;have HZ':=q_h hz';clear hz hz' h h' gx1 gx2 gy1 gy2;go_enter Tryz.func60,Tryz.ntmps60;go_wp2;refine zT ?_;intro W hE hsz B0 B1;obtain⟨a0,a1,a2,a3,-⟩:=cells4 B0;obtain⟨b0,b1,b2,b3,-⟩:=cells4 B1
 go_cut [] (fun wx=>∃ n1 A1 k1 c1 A2 k2 c2 n2 A3 k3 c3 A4 k4 c4,Ext w wx/\w.heap.size+2<=wx.heap.size/\wx.heap[w.heap.size]?=some (.cells #[.bool n1,.slice A1 k1 c1,.bool false,.slice A2 k2 c2] 29 (0,0))/\wx.heap[w.heap.size+1]?=some (.cells #[.bool n2,.slice A3 k3 c3,.bool false,.slice A4 k4 c4] 29 (0,0))/\Hid (n1=decide (x.num < 0))/\Hid (n2=decide (y.num < 0))/\Gs N wx (.slice A1 k1 c1) (dg x.num.natAbs)/\Gs N wx (.slice A2 k2 c2) (dg x.den)/\Gs N wx (.slice A3 k3 c3) (dg y.num.natAbs)/\Gs N wx (.slice A4 k4 c4) (dg y.den)/\w.heap.size+2<=wx.heap.size)
 case first =>
  have eC:=(Ext.refl W).drew
  go_region_with (first
   | (go_at_call_of 111 X1; refine (xh (by exact hI.ext (hE.trans eC)) HZ.out).mono ?_; intro e w1 hh; obtain⟨n1,A1,k1,c1,A2,k2,c2,rfl,hb1,g1,g2,e1⟩:=hh.form; replace eC:=eC.trans e1; have C0:=eC.block B0; have C1:=eC.block B1; obtain⟨p0,p1,p2,p3,p4,p5,p6,p7⟩:=cells4 C0; obtain⟨q0,q1,q2,q3,q4,q5,q6,q7⟩:=cells4 C1)
   | (go_at_call_of 111 Y1; refine (xh (by exact hI'.ext (hE.trans eC)) HZ'.out).mono ?_; intro e w2 hh; obtain⟨n2,A3,k3,c3,A4,k4,c4,rfl,hb2,g3,g4,e2⟩:=hh.form; replace eC:=eC.trans e2; have C0:=eC.block B0; have C1:=eC.block B1; obtain⟨p0,p1,p2,p3,p4,p5,p6,p7⟩:=cells4 C0; obtain⟨q0,q1,q2,q3,q4,q5,q6,q7⟩:=cells4 C1))
  all_goals
   go_wp2_with fail
   go_meet
   obtain⟨w3,E3,D0,U⟩:=ex4 C0 (.bool n1) (.slice A1 k1 c1) (.bool false) (.slice A2 k2 c2);rw [E3];obtain⟨w4,E4,D1,U'⟩:=ex4 (U.blk C1 (by omega)) (.bool n2) (.slice A3 k3 c3) (.bool false) (.slice A4 k4 c4);rw [E4];have hT0:=NoU.mk C0 (by decide);have hT1:=NoU.mk (U.blk C1 (by omega)) (by decide);refine⟨n1,A1,k1,c1,A2,k2,c2,n2,A3,k3,c3,A4,k4,c4,U'.ext (U.ext (hE.trans eC) (q_r)) (by omega),?_,U'.blk D0 (by omega),D1,hb1,hb2,((g1.ext e2).upd U (by omega) hT0).upd U' (by omega) hT1,((g2.ext e2).upd U (by omega) hT0).upd U' (by omega) hT1,(g3.upd U (by omega) hT0).upd U' (by omega) hT1,(g4.upd U (by omega) hT0).upd U' (by omega) hT1,(by rw [U'.size,U.size]; have:=eC.size; omega)⟩;rw [U'.size,U.size]; have:=eC.size; omega
 case rest =>
  clear a0 a1 a2 a3 b0 b1 b2 b3 B0 B1 hE hsz hI hI';obtain⟨n1,A1,k1,c1,A2,k2,c2,n2,A3,k3,c3,A4,k4,c4,hE,-,B0,B1,hb1,hb2,g1,g2,g3,g4,hsz⟩:=hcut;obtain⟨a0,a1,a2,a3,-⟩:=cells4 B0;obtain⟨b0,b1,b2,b3,-⟩:=cells4 B1;have eC:=(Ext.refl wc).drew;go_wp2
  go_region_held3 (fun w'=>(w'.cell? ⟨w.heap.size,0,none⟩=some (.bool n1)/\w'.cell? ⟨w.heap.size,1,none⟩=some (.slice A1 k1 c1)/\w'.cell? ⟨w.heap.size,2,none⟩=some (.bool false)/\w'.cell? ⟨w.heap.size,3,none⟩=some (.slice A2 k2 c2))/\(w'.cell? ⟨w.heap.size+1,0,none⟩=some (.bool n2)/\w'.cell? ⟨w.heap.size+1,1,none⟩=some (.slice A3 k3 c3)/\w'.cell? ⟨w.heap.size+1,2,none⟩=some (.bool false)/\w'.cell? ⟨w.heap.size+1,3,none⟩=some (.slice A4 k4 c4)))
   ((repeat' apply And.intro) <;> repeat with_reducible first | assumption | exact eC.cell (by assumption) | refine cell_far _ ?_ (by omega))
   (first
    | (go_at_call_of 113 A1; refine (Qe (by exact qK hb1 (g1.ext eC)) (by exact qJ (g4.ext eC)) (by have:=HZ.out.1; omega) (by rw [Int.natAbs_natCast]; have:=HZ'.out.2; omega)).mono ?_; rintro e w5 ⟨v5,rfl,h5,e5⟩; replace eC:=eC.trans e5)
    | (go_at_call_of 113 A3; refine (Qe (by exact qK hb2 (g3.ext eC)) (by exact qJ (g2.ext eC)) (by have:=HZ'.out.1; omega) (by rw [Int.natAbs_natCast]; have:=HZ.out.2; omega)).mono ?_; rintro e w6 ⟨v6,rfl,h6,e6⟩; replace eC:=eC.trans e6)
    | (go_at_call 112; refine (q4x (by exact h5.ext e6) (by exact h6)).mono ?_; rintro e w7 ⟨rfl,e7⟩; rw [<-hs.out]; replace eC:=eC.trans e7))
  go_wp2;go_ret;exact⟨rfl,hE.trans eC⟩
theorem MtV.all {X:Nat->Nat->Rat} (h:MtV N lo hi w v m n X):MtV N 0 w.heap.size w v m n X:=MtR.wide h (Nat.zero_le _) h.2.1 (q_r)
def Mn.rc (N:Nat) (q:Rat):Mn:=⟨fun v w=>∃ u,v=.tuple #[u,.int .i64 0]/\qp N w u q,fun e h=>by
  obtain⟨u,h0,h1⟩:=h
  exact⟨u,h0,h1.ext e⟩⟩
def zAt (G:Grd) (i j:Int):Int:=G.z (j*G.wd+i).toNat
def GBlk (w:World) (g:Nat) (G:Grd) (A:Option Addr) (c:Nat):Prop:=w.heap[g]?=some (.cells #[.int .i64 G.x0,.int .i64 G.y0,.int .i64 G.st,.int .i64 G.wd,.int .i64 G.ht,.slice A G.n c] 24 (0,0))
theorem zidx {i j:Int} (hi0:0<=i) (hi1:i < G.wd) (hj0:0<=j) (hj1:j < G.ht) (hn:(G.n:Int)=G.wd*G.ht):0<=j*G.wd/\(j*G.wd+i).toNat < G.n/\j*G.wd+i < G.wd*G.ht:=by
 have h0:0<=j*G.wd:=Int.mul_nonneg hj0 (by omega);have h1:(j+1)*G.wd<=G.ht*G.wd:=Int.mul_le_mul_of_nonneg_right (by omega) (by omega);rw [Int.add_mul,Int.one_mul,Int.mul_comm G.ht] at h1;exact⟨h0,by omega,by omega⟩
theorem o_z {gG:Nat} (hb:GBlk w gG G A c) (hz:IzV N lo hi w (.slice A G.n c) G.n G.z) {i j:Int} (hi0:0<=i) (hi1:i < G.wd) (hj0:0<=j) (hj1:j < G.ht) (hW:G.wd<=64) (hH:G.ht<=64) (hn:(G.n:Int)=G.wd*G.ht) :
  Calls Tryz.prog 102 #[.int .i64 i,.int .i64 j,.pointer (some ⟨gG,0,none⟩)] w (q3M w (.int .i64 (zAt G i j))):=by
 obtain⟨h0,h1,h2⟩:=zidx hi0 hi1 hj0 hj1 hn;have h3:G.wd*G.ht<=64*64:=Int.mul_le_mul hW hH (by omega) (by omega);obtain⟨b,off,rfl,hx⟩:=hz.addr (by omega);obtain⟨m,hm⟩:=qf (j*G.wd+i).toNat;have p0:=hx m (by rw [hm.out]; exact h1);have HV:Hid (zAt G i j=G.z m):=by rw [Hid,hm.out]; rfl
 have hmi:(m:Int)=j*G.wd+i:=by rw [hm.out]; omega
 have hmn:m < G.n:=by rw [hm.out]; exact h1
 obtain⟨pr,hpr⟩:=qf (j*G.wd);have hw1:IntKind.i64.wrap (j*G.wd)=pr:=by rw [hpr.out]; exact IntWalk.i64_in _ (by omega)
 have hw2:IntKind.i64.wrap (pr+i)=(m:Int):=by rw [hpr.out,hmi]; exact IntWalk.i64_in _ (by omega)
 have hcm:G.n<=4096:=by omega
 obtain⟨a0,a1,a2,a3,a4,a5⟩:=xk hb;rw [HV.out];obtain⟨zz,hzz⟩:=qf (G.z m);rw [<-hzz.out] at p0 ⊢;clear hx h0 h1 h2 h3 hm hmi hpr;go_enter Tryz.func102,Tryz.ntmps102;go_wp2;go_ret;exact⟨rfl,rfl⟩
def YP (x y:Rat):Int:=(x.num*y.den - y.num*x.den).sign
def thR (G:Grd) (i j:Int) (r:Nat):Int:=if r=0 then zAt G (i+1) j else zAt G i (j+1)
def orR (a b:Rat) (r:Nat):Int:=if r=1 then -(YP a b) else YP a b
def fiR (a b:Rat) (r:Nat):Rat:=if r=0 then a else b
def seR (a b:Rat) (r:Nat):Rat:=if r=0 then b else a
def QZ (G:Grd) (i j:Int) (a b:Rat) (r:Nat):Option Rat :=
 if 0<=orR a b r/\zAt G i j≠jm/\thR G i j r≠jm/\zAt G (i+1) (j+1)≠jm then
  some (((zAt G i j:Int):Rat)+fiR a b r*((thR G i j r - zAt G i j:Int):Rat)+seR a b r*((zAt G (i+1) (j+1) - thR G i j r:Int):Rat)) else none
def sqF (G:Grd) (p q:Int×Rat):Option Rat:=(QZ G p.1 q.1 p.2 q.2 0).or (QZ G p.1 q.1 p.2 q.2 1)
def q48 (G:Grd) (p:Int×Rat) (l:List (Int×Rat)):Option Rat:=l.findSome? (sqF G p)
def q1C (G:Grd) (l l':List (Int×Rat)):Option Rat:=l.findSome? (fun p=>q48 G p l')
def zX (x:Rat) (x0 st:Int):Rat:=(x - (x0:Rat)) / (st:Rat)
def Jd (G:Grd) (x y:Rat):Option Rat:=q1C G (vW (zX x G.x0 G.st) G.wd) (vW (zX y G.y0 G.st) G.ht)
structure GOk (G:Grd):Prop where
 w0:2<=G.wd
 w1:G.wd<=64
 h0:2<=G.ht
 h1:G.ht<=64
 s0:2<=G.st
 s1:G.st<=65536
 x0 : -1048576<=G.x0
 x1:G.x0<=1048576
 y0 : -1048576<=G.y0
 y1:G.y0<=1048576
 n:(G.n:Int)=G.wd*G.ht
 z:∀ k,k < G.n->G.z k=jm\/(-1048576<=G.z k/\G.z k<=1048576)
theorem q08 (h:zo z=false) : -1048576<=z/\z<=1048576:=by
 unfold zo at h;simp only [Bool.or_eq_false_iff,decide_eq_false_iff_not] at h;omega
theorem q2p (h:zC G=0):GOk G:=by
 unfold zC at h
 split at h
 ·cases h
 ·rename_i hf
  split at h
  ·cases h
  ·rename_i hn
   split at h
   ·cases h
   ·rename_i hz
    have hf':KC G=true:=by simpa using hf
    unfold KC at hf';simp only [Bool.and_eq_true,decide_eq_true_eq,Bool.not_eq_true'] at hf';obtain⟨⟨⟨⟨⟨⟨a1,a2⟩,a3⟩,a4⟩,a5⟩,a6⟩,a7⟩:=hf';have b1:=ZK a1;have b2:=ZK a2;have b6:=q08 a6;have b7:=q08 a7;refine⟨b1.1,b1.2,b2.1,b2.2,a3,a4,b6.1,b6.2,b7.1,b7.2,by simpa using hn,fun k hk=>?_⟩;have hz':jf G.n (fun i=>q0J (G.z i))=false:=by simpa using hz
    have:=kD.1 hz' k hk;unfold q0J at this
    by_cases e:G.z k=jm
    ·exact .inl e
    ·rw [decide_eq_true e,Bool.true_and] at this;exact .inr (q08 this)
section
variable {P:Program} {ops:Array Oper} {Q:Exit->Act->World->Prop} {late:List Nat}
def Vj (ops:Array Oper) (late soft:List Nat):Bool:=(List.range ops.size).all fun i=>late.contains i || soft.contains i || jw ops late i
def apartB (ops:Array Oper) (i:Nat):Bool :=
 match ops[i]? with
 | some oi=>(List.range ops.size).all fun j=>j == i || (kE ops j).contains i || (sweep ops i (kE ops i)).contains j || (match ops[j]? with | some oj=>oi.apart ops oj | none=>true)
 | none=>false
def q2N (ops:Array Oper) (late soft:List Nat):Bool:=soft.all fun i=>decide (i < ops.size) && !late.contains i && apartB ops i && (kE ops i).all fun j=>jw ops late j
def Sft (P:Program) (ops:Array Oper) (Q:Exit->Act->World->Prop) (Js:List Mn) (ds:List (Option Tmp)) (a0:Act) (W:World) (i:Nat):Prop :=
 ∀ o,ops.toList[i]?=some o->(∀ c a v w,Q (.panic c) (Act.put a o.dst v) w->Q (.panic c) a w)/\∀ a w,Ext W w->(∀ t,ds.contains (some t)=false->a.tmps[t]?=a0.tmps[t]?) ->
  (∀ j,(kE ops i).contains j=true->∀ t,ds[j]?=some (some t)->∃ v,a.tmps[t]?=some v/\(Js[j]?.getD Mn.any).p v w) ->
  ∃ v,YieldsIf P ops (fun _=>True) o v a/\(Js[i]?.getD Mn.any).p v w
theorem sft {Js:List Mn} {ds:List (Option Tmp)} {a0:Act} {W:World} {i:Nat} {o:Oper} (hi:ops.toList[i]?=some o) (hQ:∀ c a v w,Q (.panic c) (Act.put a o.dst v) w->Q (.panic c) a w)
  (h:∀ a w,Ext W w->(∀ (t:Nat) (_:ds.contains (some t)=false:=by kernel_rfl),a.tmps[t]?=a0.tmps[t]?) ->
   (∀ (j t:Nat) (_:(kE ops i).contains j=true:=by kernel_rfl) (_:ds[j]?=some (some t):=by rfl),∃ v,a.tmps[t]?=some v/\(Js[j]?.getD Mn.any).p v w) ->
   ∃ v,YieldsIf P ops (fun _=>True) o v a/\(Js[i]?.getD Mn.any).p v w):Sft P ops Q Js ds a0 W i:=by
 intro o' ho';rw [hi] at ho';cases ho'
 exact⟨hQ,fun a w e hB hA=>h a w e hB (fun j t h1 h2=>hA j h1 t h2)⟩
theorem q3j {soft:List Nat} {Js:List Mn} {ds:List (Option Tmp)} {a0:Act} {W:World} (hd:ops.toList.map (·.dst)=ds) (hnd:nodupB ds=true) (hsz:KD ds a0.tmps.size=true) (hlow:q0F ops=true) (hlate:Vj ops late soft=true) (hsoft:q2N ops late soft=true) (hns:Region.noSelect ops=true)
  (hstep:∀ i,i < ops.size->late.contains i=false->soft.contains i=false->Stp P ops Q late Js ds a0 W i) (hsft:∀ i,soft.contains i=true->Sft P ops Q Js ds a0 W i) (hk:cnt (lastB ops late).toArray ops.size=k)
  (hdone:∀ vals w,Ext W w->(∀ j,j < ops.size->late.contains j=false->(Js[j]?.getD Mn.any).p (vals j) w)->xg P ops Q (fun _=>True) late k (lastB ops late).toArray (qA ds (lastB ops late) vals 0 a0) w) :
  ∀ (fuel:Nat) (listed:Array Bool) (vals:Nat->Value) (w:World),listed.size=ops.size->Closed ops listed->(∀ t,late.contains t=true->t < ops.size->listed.getD t false=false)->cnt listed ops.size<=fuel->Ext W w ->
   (∀ j,listed.getD j false=true->(Js[j]?.getD Mn.any).p (vals j) w)->Je P ops Q (fun _=>True) late fuel listed (qA ds listed.toList vals 0 a0) w:=by
 intro fuel
 induction fuel with
 | zero =>
  intro listed vals w h1 h2 h3 h4 h5 h6
  by_cases hall:∀ i,i < ops.size->late.contains i=false->listed.getD i false=true
  ·have hL:listed=(lastB ops late).toArray:=by
    apply Array.ext
    ·simp [lastB,h1]
    ·intro i hi _;have hio:i < ops.size:=by omega
     have e1:listed[i]=listed.getD i false:=by simp [hi]
     rw [e1];simp only [lastB,List.getElem_toArray,List.getElem_map,List.getElem_range];cases hc:late.contains i with
     | false=>exact hall i hio hc
     | true=>exact h3 i hc hio
   subst hL;have:=hdone vals w h5 (fun j hj hc=>h6 j (hall j hj hc)) h2;rw [hk] at h4;exact wZ h4 this
  ·exfalso
   apply hall
   intro i hi _
   have hz:∀ n,n<=ops.size->cnt listed n=0->∀ i,i < n->listed.getD i false=true:=by
    intro n
    induction n with
    | zero=>intro _ _ i hi; omega
    | succ n ih =>
     intro hn hc i hi;unfold cnt at hc
     by_cases e:i=n
     ·subst e
      by_cases hg:listed.getD i false=true
      ·exact hg
      ·rw [if_neg hg] at hc; omega
     ·exact ih (by omega) (by omega) i (by omega)
   exact hz ops.size (q_r) (by omega) i hi
 | succ fuel ih =>
  intro listed vals w h1 h2 h3 h4 h5 h6
  by_cases hall:∀ i,i < ops.size->late.contains i=false->listed.getD i false=true
  ·have hL:listed=(lastB ops late).toArray:=by
    apply Array.ext
    ·simp [lastB,h1]
    ·intro i hi _;have hio:i < ops.size:=by omega
     have e1:listed[i]=listed.getD i false:=by simp [hi]
     rw [e1];simp only [lastB,List.getElem_toArray,List.getElem_map,List.getElem_range];cases hc:late.contains i with
     | false=>exact hall i hio hc
     | true=>exact h3 i hc hio
   subst hL;have:=hdone vals w h5 (fun j hj hc=>h6 j (hall j hj hc)) h2;rw [hk] at h4;exact wZ h4 this
  ·have hfacts:∀ i,i∈Region.ready .any ops listed->∀ j,(kE ops i).contains j=true->∀ t,ds[j]?=some (some t)->∃ v,(qA ds listed.toList vals 0 a0).tmps[t]?=some v/\(Js[j]?.getD Mn.any).p v w:=by
    intro i hi j hj t ht;have hjl:=zZ hi j (by simpa using hj);refine⟨vals j,?_,h6 j hjl⟩
    have hjs:j < listed.size:=by
     rcases Nat.lt_or_ge j listed.size with h | h
     ·exact h
     ·simp [Array.getElem?_eq_none h] at hjl
    have:=jZ ds listed.toList vals 0 j a0 hnd (by rw [Array.getElem?_toList]; simp [hjs] at hjl ⊢; exact hjl) ht (by
     have:=List.all_eq_true.1 hsz (some t) (List.mem_of_getElem? ht)
     simpa using this)
    rw [Nat.zero_add] at this;exact this
   have hnext:∀ i,i∈Region.ready .any ops listed->late.contains i=false->∀ (o:Oper),ops.toList[i]?=some o->∀ v w',Ext w w'->(Js[i]?.getD Mn.any).p v w'->Je P ops Q (fun _=>True) late fuel (listed.setIfInBounds i true) ((qA ds listed.toList vals 0 a0).put o.dst v) w':=by
    intro i hi hic o ho' v w' e hJ;have hun:=jF hi
    have hio:i < ops.size:=by
     rw [Array.getElem?_toList] at ho';exact (Array.getElem?_eq_some_iff.1 ho').1
    have hdi:ds[i]?=some o.dst:=by rw [<-hd,List.getElem?_map,ho']; rfl
    have hbi:listed.toList[i]?=some false:=by
     rw [Array.getElem?_toList];have:i < listed.size:=by omega
     simp [this] at hun ⊢; exact hun
    have hc:=KO (by omega:i < listed.size) hun ops.size;rw [if_pos hio] at hc;have hps:=jY (v:=v) ds listed.toList vals 0 i a0 hnd hbi hdi;rw [Nat.zero_add] at hps;rw [<-hps,<-Array.toList_setIfInBounds];refine ih (listed.setIfInBounds i true) (jT vals i v) w' (by simpa using h1) (h2.set hi) (fun t htl htn=>?_) (by omega) (h5.trans e) (fun j hj=>?_)
    ·rw [Go.getD_set_ne false (fun e=>by subst e; rw [hic] at htl; cases htl)];exact h3 t htl htn
    ·by_cases hji:i=j
     ·subst hji;have:jT vals i v i=v:=by simp [jT]
      rw [this]; exact hJ
     ·rw [Go.getD_set_ne false hji] at hj;have:jT vals i v j=vals j:=by unfold jT; rw [if_neg (fun e=>hji e.symm)]
      rw [this];exact (Js[j]?.getD Mn.any).mono e (h6 j hj)
   by_cases hsr:∃ i,soft.contains i=true/\i∈Region.ready .any ops listed
   ·obtain⟨i,his,hi⟩:=hsr;have hsb:=List.all_eq_true.1 hsoft i (by simpa using his);simp only [Bool.and_eq_true,decide_eq_true_eq,Bool.not_eq_true'] at hsb;obtain⟨⟨⟨hio,hic⟩,hap⟩,-⟩:=hsb;obtain⟨-,o,ho,-⟩:=mem_ready.1 hi;have ho':ops.toList[i]?=some o:=by rw [Array.getElem?_toList]; exact ho
    obtain⟨hQ,hsf⟩:=hsft i his o ho';obtain⟨v,hy,hJ⟩:=hsf _ w h5 (fun t ht=>wK ds _ vals 0 a0 ht) (hfacts i hi);refine XW ho (Region.noSelect_spec hns) (fun c a w=>hQ c a v w) fuel listed _ w (fun j oj hoj hji hjl hno=>?_) hi hy (hnext i hi hic o ho' v w (Ext.refl _) hJ);unfold apartB at hap;rw [ho] at hap;have hjo:j < ops.size:=(Array.getElem?_eq_some_iff.1 hoj).1;have h9:=List.all_eq_true.1 hap j (by simpa using hjo);rw [hoj] at h9;simp only [Bool.or_eq_true,beq_iff_eq] at h9
    rcases h9 with ((h9 | h9) | h9) | h9
    ·exact absurd h9 hji
    ·exfalso
     have h8:i∈kE ops j:=by simpa using h9
     unfold kE at h8;rw [hoj] at h8;simp only [List.mem_map,List.mem_filter] at h8;obtain⟨e,⟨he,hb⟩,hon⟩:=h8;exact hno e (by simpa using he) hb hon
    ·exfalso
     have h7:=xI h2 i (kE ops i) (fun x hx=>zZ hi x hx) j (by simpa using h9);have h6':j < listed.size:=by omega
     simp [h6'] at h7 hjl
     rw [h7] at hjl; cases hjl
    ·exact h9
   ·have hex:∃ i,i < ops.size/\late.contains i=false/\listed.getD i false=false:=by
     apply Classical.byContradiction
     intro hno
     apply hall
     intro i hi hc;cases hl:listed.getD i false with
     | true=>rfl
     | false=>exact absurd ⟨i,hi,hc,hl⟩ hno
    obtain⟨u,hu,huc,hul⟩:=hex;have hne:=QD hlow h1 0 (Nat.zero_le _) (fun i hi=>by omega) ⟨u,hu,hul⟩;refine⟨fun h0=>?_,fun i hi=>?_⟩
    ·obtain⟨i,hi⟩:=hne; rw [h0] at hi; cases hi
    ·obtain⟨-,o,ho,-⟩:=mem_ready.1 hi;have hio:i < ops.size:=(Array.getElem?_eq_some_iff.1 ho).1
     have hsi:soft.contains i=false:=by
      cases hc:soft.contains i with
      | false=>rfl
      | true=>exact absurd ⟨i,hc,hi⟩ hsr
     have hic:late.contains i=false:=by
      cases hc:late.contains i with
      | false=>rfl
      | true =>
       exfalso
       have hw:=List.all_eq_true.1 hlate u (by simpa using hu);rw [huc,Bool.false_or] at hw
       rcases (by simpa using hw:soft.contains u=true\/jw ops late u=true) with hs | hs
       ·have hsb:=List.all_eq_true.1 hsoft u (by simpa using hs);rw [Bool.and_eq_true] at hsb;have hpr:=List.all_eq_true.1 hsb.2;refine hsr ⟨u,hs,mem_ready.2 ⟨?_,ops[u],by simp [hu],fun e he hb=>?_⟩⟩
        ·have:u < listed.size:=by omega
         simp [this] at hul ⊢; exact hul
        ·have h8:=hpr e.on (by
          unfold kE;rw [Array.getElem?_eq_getElem hu];simp only [List.mem_map,List.mem_filter]
          exact⟨e,⟨by simpa using he,hb⟩,rfl⟩)
         exact kU h8 h2 hi hc
       ·have:=kU hs h2 hi hc;rw [hul] at this; cases this
     have ho':ops.toList[i]?=some o:=by rw [Array.getElem?_toList]; exact ho
     refine wpOp_step ho (fun K' hK=>?_);exact hstep i hio hic hsi o ho' _ w h5 (fun t ht=>xB (by rw [<-hd]; simp) h3 vals a0 ht) (hfacts i hi) K' (fun v w' e hJ=>hK _ _ ⟨fun _ _=>trivial,hnext i hi hic o ho' v w' e hJ⟩)
theorem Jv (Js:List Mn) (ds:List (Option Tmp)) (late soft:List Nat) (bs:List Bool) (k:Nat) {id:Nat} {a0:Act} {W:World} (hm:P.follows .mixedOrders=true) (hd:ops.toList.map (·.dst)=ds) (hnd:nodupB ds=true) (hsz:KD ds a0.tmps.size=true) (hlow:q0F ops=true) (hlate:Vj ops late soft=true) (hsoft:q2N ops late soft=true) (hns:Region.noSelect ops=true)
  (hb:lastB ops late=bs) (hk:cnt bs.toArray ops.size=k) (hstep:∀ i,i < ops.size->late.contains i=false->soft.contains i=false->Stp P ops Q late Js ds a0 W i) (hsft:∀ i,soft.contains i=true->Sft P ops Q Js ds a0 W i)
  (hdone:∀ vals w,Ext W w->(∀ j,j < ops.size->late.contains j=false->(Js[j]?.getD Mn.any).p (vals j) w)->xg P ops Q (fun _=>True) late k bs.toArray (qA ds bs vals 0 a0) w) :
  (Code.region id ops true).wp P Q a0 W:=by
 subst hb
 have h0:∀ n,qA ds (Array.replicate n false).toList (fun _=>undef) 0 a0=a0:=by
  intro n;simp only [Array.toList_replicate]
  have:∀ (ds:List (Option Tmp)) (n k:Nat),qA ds (List.replicate n false) (fun _=>undef) k a0=a0:=by
   intro ds
   induction ds with
   | nil=>intro n k; unfold qA; rfl
   | cons d ds ih =>
    intro n k;cases n with
    | zero=>rfl
    | succ n=>exact ih n (k+1)
  exact this ds n 0
 have hc0:∀ (n:Nat) (l:Array Bool),cnt l n<=n:=by
  intro n l
  induction n with
  | zero=>exact q_r
  | succ n ih=>unfold cnt; split <;> omega
 have hf0:∀ j,(Array.replicate ops.size false).getD j false=false:=fun j=>by
  rw [Array.getD_eq_getD_getElem?,Array.getElem?_replicate]; split <;> rfl
 have:=q3j (P:=P) (Q:=Q) (late:=late) hd hnd hsz hlow hlate hsoft hns hstep hsft hk hdone ops.size (Array.replicate ops.size false) (fun _=>undef) W.drew (by simp) (Closed.start _) (fun t _ _=>hf0 t) (hc0 _ _) (Ext.refl W).drew (fun j hj=>by rw [hf0 j] at hj; cases hj);rw [h0] at this;exact wp_region_any hm (xE _ _ _ _ this)
theorem Wh (Js:List Mn) (ds:List (Option Tmp)) (late soft:List Nat) (bs:List Bool) (k:Nat) {id:Nat} {a0:Act} {W:World} (h:(P.follows .mixedOrders && (decide (ops.toList.map (·.dst)=ds) && (nodupB ds && (KD ds a0.tmps.size && (q0F ops && (Vj ops late soft && (q2N ops late soft && (Region.noSelect ops && (decide (lastB ops late=bs) && decide (cnt bs.toArray ops.size=k))))))))))=true) (hstep:∀ i,i < ops.size->late.contains i=false->soft.contains i=false->Stp P ops Q late Js ds a0 W i) (hsft:∀ i,soft.contains i=true->Sft P ops Q Js ds a0 W i)
  (hdone:∀ vals w,Ext W w->(∀ j,j < ops.size->late.contains j=false->(Js[j]?.getD Mn.any).p (vals j) w)->xg P ops Q (fun _=>True) late k bs.toArray (qA ds bs vals 0 a0) w) :
  (Code.region id ops true).wp P Q a0 W:=by
 simp only [Bool.and_eq_true,decide_eq_true_eq] at h;obtain⟨h1,h2,h3,h4,h5,h6,h7,h8,h9,h10⟩:=h;exact Jv Js ds late soft bs k h1 h2 h3 h4 h5 h6 h7 h8 h9 h10 hstep hsft hdone
end
end Go.Proofs.YtphpkhoeplcedaaGreat
