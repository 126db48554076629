import Derived.Test.YtphpkhoeplcedaaGreatWb07
import Derived.Test.YtphpkhoeplcedaaGreatWb27
import Derived.Test.YtphpkhoeplcedaaGreatWb23
import Derived.Test.YtphpkhoeplcedaaGreatWb25
import Derived.Test.YtphpkhoeplcedaaGreatWb24
import Derived.Test.YtphpkhoeplcedaaGreatWb17
import Derived.Test.YtphpkhoeplcedaaGreatWb26
import Derived.Deep.CutBlock
set_option linter.all false
set_option maxHeartbeats 8000000
namespace Go.Proofs.YtphpkhoeplcedaaGreat
open Go.RowKit
def nilRat:Value:=.agg #[.bool false,.slice none 0 0,.bool false,.slice none 0 0]
def GrowS (base:Nat) (w:World) (v:Value) (xs:List Value):Prop:=base≤w.heap.size∧w.ownsRow base 45 1 v xs.length xs
theorem GrowS.ext {base:Nat} {w w':World} {v:Value} {xs:List Value} (h:GrowS base w v xs) (e:Ext w w'):GrowS base w' v xs:=by
 obtain⟨h0,h1,h2⟩:=h;refine⟨Nat.le_trans h0 e.size,h1,?_⟩
 rcases h2 with h2 | ⟨g,cap,cur,hv,hb,hg,h3⟩
 ·exact .inl h2
 ·exact .inr ⟨g,cap,cur,hv,hb,e.block hg,h3⟩
theorem GrowS.noU {base:Nat} {w:World} {v:Value} {xs:List Value} (h:GrowS base w v xs):∃ g',base≤g'∧NoU w g'∧(∀ k,v.ownBlock=some k→k=g')∧(v.ownBlock=some g'∨g'=w.heap.size):=by
 obtain⟨h0,-,h2⟩:=h
 rcases h2 with ⟨rfl,-⟩ | ⟨g,cap,cur,rfl,hb,hg,-⟩
 ·exact⟨w.heap.size,h0,fun cs fr h=>by (rw [Array.getElem?_eq_none (Nat.le_refl _)] at h; cases h),fun k hk=>by simp [Value.ownBlock] at hk,.inr rfl⟩
 ·exact⟨g,hb,NoU.mk hg (by decide),fun k hk=>by simpa [Value.ownBlock] using hk.symm,.inl rfl⟩
theorem GrowS.at_ {base:Nat} {w:World} {v:Value} {xs:List Value} (h:GrowS base w v xs) (hn:0 < xs.length):∃ g cap,v=.slice (some ⟨g,0,none⟩) xs.length cap∧cap≤maxLen∧xs.length≤cap∧∀ j (hj:j < xs.length),w.cell? ⟨g,j,none⟩=some xs[j]:=by
 obtain⟨-,-,h2⟩:=h
 rcases h2 with ⟨-,h⟩ | ⟨g,cap,cur,hv,hb,hg,hnc,hcm,hcs,htk⟩
 ·omega
 ·refine⟨g,cap,hv,hcm,hnc,fun j hj=>?_⟩;rw [cell_blk hg];have h9:(cur.toList.take (xs.length*1))[j]?=some xs[j]:=by rw [htk]; exact List.getElem?_eq_getElem hj
  rw [List.getElem?_take] at h9;rw [if_pos (by omega)] at h9;simpa using h9
structure One (ET:TypeId) (z0:Value) (bz:Nat):Prop where
 inf:(Tryz.prog.info? ET).map (fun i=>(i.zero,i.size,i.bytes))=some (some z0,1,bz)
 cells:z0.cells.size=1
 le:bz≤24
 ne:ET≠152
def GrowO (ET:TypeId) (base:Nat) (w:World) (v:Value) (xs:List Value):Prop:=base≤w.heap.size∧w.ownsRow base ET 1 v xs.length xs
section
variable {ET:TypeId} {base:Nat} {w w':World} {v:Value} {xs:List Value}
theorem GrowO.nil (h:base≤w.heap.size):GrowO ET base w (.slice none 0 0) []:=⟨h,by simp,.inl ⟨rfl,rfl⟩⟩
theorem GrowO.form (h:GrowO ET base w v xs):∃ A c,v=.slice A xs.length c∧xs.length≤c:=by
 rcases h.2.2 with ⟨rfl,h0⟩ | ⟨g,cap,cur,rfl,_,_,hc,_⟩
 ·exact⟨_,_,by rw [h0],by omega⟩
 ·exact⟨_,_,rfl,hc⟩
theorem GrowO.ext (h:GrowO ET base w v xs) (e:Ext w w'):GrowO ET base w' v xs:=by
 refine⟨Nat.le_trans h.1 e.size,h.2.1,?_⟩
 rcases h.2.2 with h0 | ⟨g,cap,cur,hv,hb,hh,h1,h2,h3,h4⟩
 ·exact .inl h0
 ·exact .inr ⟨g,cap,cur,hv,hb,e.block hh,h1,h2,h3,h4⟩
theorem GrowO.chg {l u:Nat} (h:GrowO ET base w v xs) (c:Chg l u w w') (hd:u≤base):GrowO ET base w' v xs:=by
 refine⟨Nat.le_trans h.1 c.size,h.2.1,?_⟩
 rcases h.2.2 with h0 | ⟨g,cap,cur,hv,hb,hh,h1,h2,h3,h4⟩
 ·exact .inl h0
 ·exact .inr ⟨g,cap,cur,hv,hb,c.blk hh (by omega),h1,h2,h3,h4⟩
theorem GrowO.far {l u:Nat} (h:GrowO ET base w v xs) (c:Chg l u w w') (hd:∀ k,v.ownBlock=some k→k < l∨u≤k):GrowO ET base w' v xs:=by
 refine⟨Nat.le_trans h.1 c.size,h.2.1,?_⟩
 rcases h.2.2 with h0 | ⟨g,cap,cur,rfl,hb,hh,h1,h2,h3,h4⟩
 ·exact .inl h0
 ·exact .inr ⟨g,cap,cur,rfl,hb,c.blk hh (hd g rfl),h1,h2,h3,h4⟩
theorem GrowO.low {b':Nat} (h:GrowO ET base w v xs) (hb:b'≤base):GrowO ET b' w v xs:=by
 refine⟨Nat.le_trans hb h.1,h.2.1,?_⟩
 rcases h.2.2 with h0 | ⟨g,cap,cur,hv,hb0,h3⟩
 ·exact .inl h0
 ·exact .inr ⟨g,cap,cur,hv,by omega,h3⟩
theorem GrowO.own_lt (h:GrowO ET base w v xs):∀ k,v.ownBlock=some k→base≤k∧k < w.heap.size:=by
 rcases h.2.2 with ⟨rfl,h0⟩ | ⟨g,cap,cur,rfl,hb,hh,-⟩
 ·intro k hk; simp [Value.ownBlock] at hk
 ·intro k hk;obtain rfl:g=k:=by simpa [Value.ownBlock] using hk
  exact⟨hb,blk_lt hh⟩
theorem GrowO.at_ (h:GrowO ET base w v xs) (hn:0 < xs.length):∃ g cap,v=.slice (some ⟨g,0,none⟩) xs.length cap∧base≤g∧g < w.heap.size∧cap≤maxLen∧xs.length≤cap∧(∃ cs,w.heap[g]?=some (.cells cs ET (0,0))∧cs.size=cap)∧∀ j (hj:j < xs.length),w.cell? ⟨g,j,none⟩=some xs[j]:=by
 rcases h.2.2 with ⟨-,h⟩ | ⟨g,cap,cur,hv,hb,hg,hnc,hcm,hcs,htk⟩
 ·omega
 ·refine⟨g,cap,hv,hb,blk_lt hg,hcm,hnc,⟨cur,hg,by omega⟩,fun j hj=>?_⟩;rw [cell_blk hg];have h9:(cur.toList.take (xs.length*1))[j]?=some xs[j]:=by rw [htk]; exact List.getElem?_eq_getElem hj
  rw [List.getElem?_take] at h9;rw [if_pos (by omega)] at h9;simpa using h9
theorem run_append_o {z0:Value} {bz:Nat} (ho:One ET z0 bz) (t ty:TypeId) (ht:Tryz.prog.underlying t=some (.slice ET)) (h:GrowO ET base w v xs) {b off m c:Nat} {news:List Value} (hl:news.length=m)
  (hnews:∀ j u,news[j]?=some u→w.cell? ⟨b,off+j,none⟩=some u) (h1:∀ u∈news,u.oneCell'=true) (hm:0 < m) (hn:xs.length+m≤1000000000) :
  ∃ g cap w',(Builtin.append_ #[t,t] ty #[v,.slice (some ⟨b,off,none⟩) m c]).run Tryz.prog w=.ok (.slice (some ⟨g,0,none⟩) (xs.length+m) cap) w'∧GrowO ET base w' (.slice (some ⟨g,0,none⟩) (xs.length+m) cap) (xs ++ news)∧(v.ownBlock=some g∨g=w.heap.size) ∧
   (∃ g',base≤g'∧(v.ownBlock=some g'∨g'=w.heap.size)∧Chg g' (g'+1) w w'∧NoU w g'):=by
 obtain⟨i0,hi0,hz0,hz1,hz2⟩:=info_parts ho.inf;obtain⟨hb0,hown⟩:=h;have hle:=ho.le
 obtain⟨g,cap,w',hrun,hO,hgr,hat,hlt⟩:=run_append_lies (P:=Tryz.prog) w t ty base ET i0 _ 1 bz ht hi0 hz0 hz1 hz2 ho.cells (by omega) v xs.length xs hown ⟨b,off,none⟩ m c news (by omega)
  (fun j u hj=>by rw [add_addr]; exact hnews j u hj) h1 hm (by unfold maxLen; omega)
  (Nat.le_trans (Nat.mul_le_mul hn ho.le) (by decide)) hb0 w.heap.size rfl
 refine⟨g,cap,w',hrun,⟨Nat.le_trans hb0 hgr.size,?_⟩,hat,?_⟩
 ·rw [List.length_append,hl]; exact hO
 ·have hT:NoU w w.heap.size:=fun cs fr h=>by rw [Array.getElem?_eq_none (Nat.le_refl _)] at h; cases h
  rcases hown.2 with ⟨rfl,h0⟩ | ⟨g0,cap0,cur,rfl,hbb,hh,_⟩
  ·exact⟨w.heap.size,hb0,.inr rfl,grown_chg hgr (fun k hk=>by simp [Value.ownBlock] at hk) hT,hT⟩
  ·have hT0:NoU w g0:=NoU.mk hh ho.ne;exact⟨g0,hbb,.inl rfl,grown_chg hgr (fun k hk=>by simpa [Value.ownBlock] using hk.symm) hT0,hT0⟩
end
theorem wp_append_o {ET:TypeId} {base:Nat} {w:World} {v:Value} {xs:List Value} {z0:Value} {bz:Nat} (h0:One ET z0 bz) {o:Oper} {a:Act} {K:Act→World→Prop} {Q:Exit→Act→World→Prop} (s x:Operand) (t:TypeId) (ht:Tryz.prog.underlying t=some (.slice ET))
  (ho:o.op=.call { callee:=.builtin .append,args:=#[s,x],argTypes:=#[t,t] }) (hs:a.eval s=v) (h:GrowO ET base w v xs) {b off m c:Nat} {news:List Value} (hx:a.eval x=.slice (some ⟨b,off,none⟩) m c) (hl:news.length=m)
  (hnews:∀ j u,news[j]?=some u→w.cell? ⟨b,off+j,none⟩=some u) (h1:∀ u∈news,u.oneCell'=true) (hm:0 < m) (hn:xs.length+m≤1000000000)
  (hK:∀ g cap w',GrowO ET base w' (.slice (some ⟨g,0,none⟩) (xs.length+m) cap) (xs ++ news)→(v.ownBlock=some g∨g=w.heap.size)→(∃ g',base≤g'∧(v.ownBlock=some g'∨g'=w.heap.size)∧Chg g' (g'+1) w w'∧NoU w g')→K (a.put o.dst (.slice (some ⟨g,0,none⟩) (xs.length+m) cap)) w'):o.wp Tryz.prog a w K Q:=by
 obtain⟨g,cap,w',hrun,h2,h3,h4⟩:=run_append_o h0 t o.type ht h hl hnews h1 hm hn (c:=c);unfold Oper.wp execOp;simp only [ho,resolve,invoke,builtin,Sem.run_bind,Sem.run_pure,Result.andThen_ok,List.map_toArray,List.map_cons,List.map_nil,hs,hx,hrun];exact hK g cap w' h2 h3 h4
theorem wpList_append_o {ET:TypeId} {base:Nat} {w:World} {v:Value} {xs:List Value} {z0:Value} {bz:Nat} (h0:One ET z0 bz) {ops:Array Oper} {rest:List Oper} {o:Oper} {a:Act} {Q:Exit→Act→World→Prop} (hgd:o.guard=none) (s x:Operand) (t:TypeId) (ht:Tryz.prog.underlying t=some (.slice ET))
  (ho:o.op=.call { callee:=.builtin .append,args:=#[s,x],argTypes:=#[t,t] }) (hs:a.eval s=v) (h:GrowO ET base w v xs) {b off m c:Nat} {news:List Value} (hx:a.eval x=.slice (some ⟨b,off,none⟩) m c) (hl:news.length=m)
  (hnews:∀ j u,news[j]?=some u→w.cell? ⟨b,off+j,none⟩=some u) (h1:∀ u∈news,u.oneCell'=true) (hm:0 < m) (hn:xs.length+m≤1000000000)
  (hK:∀ g cap w',GrowO ET base w' (.slice (some ⟨g,0,none⟩) (xs.length+m) cap) (xs ++ news)→(v.ownBlock=some g∨g=w.heap.size)→(∃ g',base≤g'∧(v.ownBlock=some g'∨g'=w.heap.size)∧Chg g' (g'+1) w w'∧NoU w g')→wpList Tryz.prog ops Q rest (a.put o.dst (.slice (some ⟨g,0,none⟩) (xs.length+m) cap)) w'):wpList Tryz.prog ops Q (o :: rest) a w :=
 wpList_plain hgd fun _ hK'=>wp_append_o h0 s x t ht ho hs h hx hl hnews h1 hm hn (fun g cap w' a1 a2 a3=>hK' _ _ (hK g cap w' a1 a2 a3))
theorem one_new {w:World} {g:Nat} {u:Value} {t:TypeId} {fr:Nat×Nat} (h:w.heap[g]?=some (.cells #[u] t fr)):∀ j x,[u][j]?=some x→w.cell? ⟨g,0+j,none⟩=some x:=by
 intro j x hj;rw [Nat.zero_add,cell_blk h];simpa using hj
theorem one_int:One 3 (.int .i64 0) 8:=⟨by kernel_rfl,rfl,by omega,by decide⟩
end Go.Proofs.YtphpkhoeplcedaaGreat
namespace Go.Proofs.YtphpkhoeplcedaaGreat
structure Mn where
 p:Value→World→Prop
 mono:∀ {v:Value} {w w':World},Ext w w'→p v w→p v w'
def Mn.any:Mn:=⟨fun _ _=>True,fun _ _=>trivial⟩
def Mn.eq (x:Value):Mn:=⟨fun v _=>v=x,fun _ h=>h⟩
def putAll:List (Option Tmp)→List Bool→(Nat→Value)→Nat→Act→Act
 | d :: ds,b :: bs,vals,i,a=>putAll ds bs vals (i+1) (if b=true then a.put d (vals i) else a)
 | _,_,_,_,a=>a
def nodupB:List (Option Tmp)→Bool
 | []=>true
 | none :: l=>nodupB l
 | some t :: l=>!l.contains (some t) && nodupB l
def updV (vals:Nat→Value) (i:Nat) (v:Value) (j:Nat):Value:=if j=i then v else vals j
theorem put_comm (a:Act) (d d':Option Tmp) (v v':Value) (h:∀ t,d=some t→d'≠some t):(a.put d v).put d' v'=(a.put d' v').put d v:=by
 cases d with
 | none=>rfl
 | some t =>
  cases d' with
  | none=>rfl
  | some t' =>
   have hne:t≠t':=fun e=>h t rfl (by rw [e])
   show ({ a with tmps:=_ }:Act)={ a with tmps:=_ }
   congr 1
   exact Array.setIfInBounds_comm _ _ hne
theorem put_size (a:Act) (d:Option Tmp) (v:Value):(a.put d v).tmps.size=a.tmps.size:=by
 cases d with
 | none=>rfl
 | some t=>simp [Act.put]
theorem put_other (a:Act) (d:Option Tmp) (v:Value) {t:Nat} (h:d≠some t):(a.put d v).tmps[t]?=a.tmps[t]?:=by
 cases d with
 | none=>rfl
 | some t' =>
  have hne:t'≠t:=fun e=>h (by rw [e])
  simp [Act.put,Array.getElem?_setIfInBounds,hne]
theorem putAll_put {d:Option Tmp} {v:Value}:∀ (ds:List (Option Tmp)) (bs:List Bool) (vals:Nat→Value) (k:Nat) (a:Act),(∀ t,d=some t→ds.contains (some t)=false)→putAll ds bs vals k (a.put d v)=(putAll ds bs vals k a).put d v
 | [],_,_,_,_,_=>by unfold putAll; rfl
 | _ :: _,[],_,_,_,_=>rfl
 | d0 :: ds,b :: bs,vals,k,a,h=>by
  have h1:∀ t,d=some t→d0≠some t∧ds.contains (some t)=false:=fun t ht=>by
   have:=h t ht;simp only [List.contains_cons,Bool.or_eq_false_iff,beq_eq_false_iff_ne] at this;exact⟨fun e=>this.1 e.symm,this.2⟩
  show putAll ds bs vals (k+1) (if b=true then (a.put d v).put d0 (vals k) else a.put d v)=_
  show _=(putAll ds bs vals (k+1) (if b=true then a.put d0 (vals k) else a)).put d v
  rw [←putAll_put ds bs vals (k+1) _ (fun t ht=>(h1 t ht).2)];cases b with
  | false=>rfl
  | true =>
   simp only [if_true];rw [put_comm a d d0 v (vals k) (fun t ht=>(h1 t ht).1)]
theorem putAll_congr {vals vals':Nat→Value}:∀ (ds:List (Option Tmp)) (bs:List Bool) (k:Nat) (a:Act),(∀ j,k≤j→vals j=vals' j)→putAll ds bs vals k a=putAll ds bs vals' k a
 | [],_,_,_,_=>by unfold putAll; rfl
 | _ :: _,[],_,_,_=>rfl
 | d0 :: ds,b :: bs,k,a,h=>by
  show putAll ds bs vals (k+1) (if b=true then a.put d0 (vals k) else a)=putAll ds bs vals' (k+1) (if b=true then a.put d0 (vals' k) else a)
  rw [h k (Nat.le_refl _)];exact putAll_congr ds bs (k+1) _ (fun j hj=>h j (by omega))
theorem nodup_tail {d:Option Tmp} {ds:List (Option Tmp)} (h:nodupB (d :: ds)=true):nodupB ds=true∧∀ t,d=some t→ds.contains (some t)=false:=by
 cases d with
 | none=>exact⟨h,fun t ht=>by cases ht⟩
 | some t0 =>
  unfold nodupB at h;rw [Bool.and_eq_true] at h;exact⟨h.2,fun t ht=>by injection ht with ht; subst ht; simpa using h.1⟩
theorem putAll_set {d:Option Tmp} {v:Value}:∀ (ds:List (Option Tmp)) (bs:List Bool) (vals:Nat→Value) (k i:Nat) (a:Act),nodupB ds=true→bs[i]?=some false→ds[i]?=some d→putAll ds (bs.set i true) (updV vals (k+i) v) k a=(putAll ds bs vals k a).put d v
 | [],_,_,_,_,_,_,_,hd=>by simp at hd
 | _ :: _,[],_,_,_,_,_,hb,_=>by simp at hb
 | d0 :: ds,b :: bs,vals,k,0,a,hn,hb,hd=>by
  simp only [List.getElem?_cons_zero,Option.some.injEq] at hb hd;subst hb hd;have hn':=nodup_tail hn
  show putAll ds bs (updV vals (k+0) v) (k+1) (a.put d0 (updV vals (k+0) v k))=(putAll ds bs vals (k+1) a).put d0 v
  rw [putAll_put _ _ _ _ _ hn'.2];have h1:updV vals (k+0) v k=v:=by simp [updV]
  rw [h1,putAll_congr (vals':=vals) ds bs (k+1) a (fun j hj=>by unfold updV; rw [if_neg (by omega)])]
 | d0 :: ds,b :: bs,vals,k,i+1,a,hn,hb,hd=>by
  have hn':=nodup_tail hn;simp only [List.getElem?_cons_succ] at hb hd
  show putAll ds (bs.set i true) (updV vals (k+(i+1)) v) (k+1) (if b=true then a.put d0 (updV vals (k+(i+1)) v k) else a)=(putAll ds bs vals (k+1) (if b=true then a.put d0 (vals k) else a)).put d v
  have h1:updV vals (k+(i+1)) v k=vals k:=by unfold updV; rw [if_neg (by omega)]
  have h2:k+(i+1)=k+1+i:=by omega
  rw [h1,h2];exact putAll_set ds bs vals (k+1) i _ hn'.1 hb hd
theorem putAll_old {t:Nat}:∀ (ds:List (Option Tmp)) (bs:List Bool) (vals:Nat→Value) (k:Nat) (a:Act),ds.contains (some t)=false→(putAll ds bs vals k a).tmps[t]?=a.tmps[t]?
 | [],_,_,_,_,_=>by unfold putAll; rfl
 | _ :: _,[],_,_,_,_=>rfl
 | d0 :: ds,b :: bs,vals,k,a,h=>by
  simp only [List.contains_cons,Bool.or_eq_false_iff,beq_eq_false_iff_ne] at h
  show (putAll ds bs vals (k+1) (if b=true then a.put d0 (vals k) else a)).tmps[t]?=_
  rw [putAll_old ds bs vals (k+1) _ h.2];cases b with
  | false=>rfl
  | true=>exact put_other a d0 _ (fun e=>h.1 e.symm)
theorem putAll_new {t:Nat}:∀ (ds:List (Option Tmp)) (bs:List Bool) (vals:Nat→Value) (k i:Nat) (a:Act),nodupB ds=true→bs[i]?=some true→ds[i]?=some (some t)→t < a.tmps.size→(putAll ds bs vals k a).tmps[t]?=some (vals (k+i))
 | [],_,_,_,_,_,_,_,hd,_=>by simp at hd
 | _ :: _,[],_,_,_,_,_,hb,_,_=>by simp at hb
 | d0 :: ds,b :: bs,vals,k,0,a,hn,hb,hd,ht=>by
  simp only [List.getElem?_cons_zero,Option.some.injEq] at hb hd;subst hb hd;have hn':=nodup_tail hn
  show (putAll ds bs vals (k+1) (a.put (some t) (vals k))).tmps[t]?=_
  rw [putAll_old ds bs vals (k+1) _ (hn'.2 t rfl)];simp [Act.put,ht]
 | d0 :: ds,b :: bs,vals,k,i+1,a,hn,hb,hd,ht=>by
  have hn':=nodup_tail hn;simp only [List.getElem?_cons_succ] at hb hd
  show (putAll ds bs vals (k+1) (if b=true then a.put d0 (vals k) else a)).tmps[t]?=_
  have h2:k+(i+1)=k+1+i:=by omega
  rw [h2];refine putAll_new ds bs vals (k+1) i _ hn'.1 hb hd ?_
  split
  ·rw [put_size]; exact ht
  ·exact ht
theorem fz {p:Nat→Prop}:∀ i,i < 0→p i:=fun i hi=>absurd hi (Nat.not_lt_zero i)
theorem fs {p:Nat→Prop} {n:Nat} (h:∀ i,i < n→p i) (hn:p n):∀ i,i < n+1→p i:=fun i hi=>by
 rcases Nat.lt_succ_iff_lt_or_eq.1 hi with h1 | h1
 ·exact h i h1
 ·rw [h1]; exact hn
theorem oOf {T:Array Value} {l:List Value} {t:Nat} {v:Value} (h:T[t]?=l.toArray[t]?) (hv:l[t]?=some v):T[t]?=some v:=by
 rw [h,List.getElem?_toArray]; exact hv
theorem pr:(∀ (d:Option Tmp) (ds:List (Option Tmp)) (bs:List Bool) (vals:Nat→Value) (i:Nat) (a:Act),putAll (d :: ds) (true :: bs) vals i a=putAll ds bs vals (i+1) (a.put d (vals i)))∧(∀ (d:Option Tmp) (ds:List (Option Tmp)) (bs:List Bool) (vals:Nat→Value) (i:Nat) (a:Act),putAll (d :: ds) (false :: bs) vals i a=putAll ds bs vals (i+1) a)∧(∀ (bs:List Bool) (vals:Nat→Value) (i:Nat) (a:Act),putAll [] bs vals i a=a) ∧
  (∀ (a:Act) (d:Tmp) (v:Value),a.put (some d) v={ a with tmps:=a.tmps.setIfInBounds d v })∧(∀ (a:Act) (v:Value),a.put none v=a)∧(∀ (l:List Value) (i:Nat) (v:Value),l.toArray.setIfInBounds i v=(l.set i v).toArray)∧(∀ (x:Value) (l:List Value) (v:Value),(x :: l).set 0 v=v :: l)∧(∀ (x:Value) (l:List Value) (i:Nat) (v:Value),(x :: l).set (i+1) v=x :: l.set i v) :=
 ⟨fun _ _ _ _ _ _=>rfl,fun _ _ _ _ _ _=>rfl,fun _ _ _ _=>by unfold putAll; rfl,nr⟩
section
variable {P:Program} {ops:Array Oper} {Q:Exit→Act→World→Prop} {late:List Nat}
theorem anyL_more {S:World→Prop}:∀ (f:Nat) (listed:Array Bool) (a:Act) (w:World),anyL P ops Q S late f listed a w→anyL P ops Q S late (f+1) listed a w
 | 0,_,_,_,h=>⟨fun _=>h.2,fun i hi=>by rw [h.1] at hi; cases hi⟩
 | f+1,_,_,_,h=>⟨h.1,fun i hi=>wpOp_mono (fun a' w' h'=>⟨h'.1,anyL_more f _ a' w' h'.2⟩) (h.2 i hi)⟩
theorem anyL_ge {S:World→Prop} {f g:Nat} (hfg:f≤g) {listed:Array Bool} {a:Act} {w:World} (h:anyL P ops Q S late f listed a w):anyL P ops Q S late g listed a w:=by
 induction hfg with
 | refl=>exact h
 | step _ ih=>exact anyL_more _ _ _ _ ih
def cnt (listed:Array Bool):Nat→Nat
 | 0=>0
 | n+1=>cnt listed n+if listed.getD n false=true then 0 else 1
theorem cnt_set {listed:Array Bool} {i:Nat} (hi:i < listed.size) (hf:listed.getD i false=false):∀ n,cnt (listed.setIfInBounds i true) n+(if i < n then 1 else 0)=cnt listed n
 | 0=>by simp [cnt]
 | n+1=>by
  have ih:=cnt_set hi hf n;unfold cnt
  by_cases h:i=n
  ·subst h;have h1:(listed.setIfInBounds i true).getD i false=true:=by simp [hi]
   rw [h1,hf,if_pos rfl,if_pos (Nat.lt_succ_self i),if_neg (by decide)];rw [if_neg (Nat.lt_irrefl i)] at ih;omega
  ·rw [Go.getD_set_ne false h]
   have h2:(if i < n+1 then 1 else 0)=if i < n then 1 else 0:=by
    by_cases h3:i < n
    ·rw [if_pos h3,if_pos (by omega)]
    ·rw [if_neg h3,if_neg (by omega)]
   rw [h2];omega
def lowB (ops:Array Oper):Bool:=(List.range ops.size).all fun i=>(preds ops i).all fun j=>decide (j < i)
def lateB (ops:Array Oper) (late:List Nat):Bool:=(List.range ops.size).all fun i=>late.contains i || waitsB ops late i
def fitsB (ds:List (Option Tmp)) (n:Nat):Bool:=ds.all fun d=>match d with | some t=>decide (t < n) | none=>true
def lastB (ops:Array Oper) (late:List Nat):List Bool:=(List.range ops.size).map fun i=>!late.contains i
def oldB (ds:List (Option Tmp)) (late:List Nat) (t:Nat):Bool:=(List.range ds.length).all fun j=>late.contains j || (ds[j]? != some (some t))
theorem putAll_late {t:Nat}:∀ (ds:List (Option Tmp)) (bs:List Bool) (vals:Nat→Value) (k:Nat) (a:Act),(∀ j:Nat,bs[j]?=some true→ds[j]?≠some (some t))→(putAll ds bs vals k a).tmps[t]?=a.tmps[t]?
 | [],_,_,_,_,_=>by unfold putAll; rfl
 | _ :: _,[],_,_,_,_=>rfl
 | d0 :: ds,b :: bs,vals,k,a,h=>by
  show (putAll ds bs vals (k+1) (if b=true then a.put d0 (vals k) else a)).tmps[t]?=_
  rw [putAll_late ds bs vals (k+1) _ (fun j hj=>h (j+1) hj)];cases b with
  | false=>rfl
  | true=>exact put_other a d0 _ (fun e=>h 0 rfl (by rw [e]; rfl))
theorem putAll_oldB {ds:List (Option Tmp)} {late:List Nat} {listed:Array Bool} {n t:Nat} (hl:ds.length=n) (h3:∀ j,late.contains j=true→j < n→listed.getD j false=false) (vals:Nat→Value) (a:Act) (h:oldB ds late t=true):(putAll ds listed.toList vals 0 a).tmps[t]?=a.tmps[t]?:=by
 refine putAll_late _ _ _ _ _ (fun j hj hd9=>?_);have hjl:j < ds.length:=(List.getElem?_eq_some_iff.1 hd9).1;have h1:=List.all_eq_true.1 h j (List.mem_range.2 hjl);rw [Bool.or_eq_true] at h1
 rcases h1 with h1 | h1
 ·have h2:=h3 j h1 (by omega);rw [Array.getElem?_toList] at hj;rw [Array.getD_eq_getD_getElem?,hj] at h2;cases h2
 ·rw [hd9] at h1;simp at h1
def Stp (P:Program) (ops:Array Oper) (Q:Exit→Act→World→Prop) (late:List Nat) (Js:List Mn) (ds:List (Option Tmp)) (a0:Act) (W:World) (i:Nat):Prop :=
 ∀ o,ops.toList[i]?=some o→∀ a w,Ext W w→(∀ t,oldB ds late t=true→a.tmps[t]?=a0.tmps[t]?) →
  (∀ j,(preds ops i).contains j=true→∀ t,ds[j]?=some (some t)→∃ v,a.tmps[t]?=some v∧(Js[j]?.getD Mn.any).p v w) →
  ∀ K:Act→World→Prop,Shut (∀ v w',Ext w w'→(Js[i]?.getD Mn.any).p v w'→K (a.put o.dst v) w')→if Region.wanted o (yielded ops a.tmps)=true then Oper.wp P o a w K Q else K (a.put o.dst undef) w
theorem stp {Js:List Mn} {ds:List (Option Tmp)} {a0:Act} {W:World} {i:Nat} {o:Oper} (hi:ops.toList[i]?=some o)
  (h:∀ a w,Ext W w→(∀ t,oldB ds late t=true→a.tmps[t]?=a0.tmps[t]?) →
   (∀ j,(preds ops i).contains j=true→∀ t,ds[j]?=some (some t)→∃ v,a.tmps[t]?=some v∧(Js[j]?.getD Mn.any).p v w) →
   ∀ K:Act→World→Prop,Shut (∀ v w',Ext w w'→(Js[i]?.getD Mn.any).p v w'→K (a.put o.dst v) w')→if Region.wanted o (yielded ops a.tmps)=true then Oper.wp P o a w K Q else K (a.put o.dst undef) w):Stp P ops Q late Js ds a0 W i:=by
 intro o' ho';rw [hi] at ho';cases ho'
 exact h
theorem ready_low (hlow:lowB ops=true) {listed:Array Bool} (hsz:listed.size=ops.size):∀ n,n≤ops.size→(∀ i,i < n→listed.getD i false=true)→(∃ i,i < ops.size∧listed.getD i false=false)→∃ i,i∈Region.ready .any ops listed:=by
 intro n hn hall hex
 induction h:ops.size - n generalizing n with
 | zero =>
  obtain⟨i,hi,hf⟩:=hex;rw [hall i (by omega)] at hf; cases hf
 | succ k ih =>
  cases hl:listed.getD n false with
  | true=>exact ih (n+1) (by omega) (fun i hi=>by
    by_cases e:i=n
    ·rw [e]; exact hl
    ·exact hall i (by omega)) (by omega)
  | false =>
   refine⟨n,mem_ready.2 ⟨?_,?_⟩⟩
   ·have:n < listed.size:=by omega
    simp [this] at hl ⊢; exact hl
   ·have hlt:n < ops.size:=by omega
    refine⟨ops[n],by simp [hlt],fun e he hb=>?_⟩
    have h1:=List.all_eq_true.1 (List.all_eq_true.1 hlow n (by simpa using hlt)) e.on (by
     unfold preds;rw [Array.getElem?_eq_getElem hlt];simp only [List.mem_map,List.mem_filter]
     exact⟨e,⟨by simpa using he,hb⟩,rfl⟩)
    exact hall e.on (by simpa using h1)
theorem inv_go {Js:List Mn} {ds:List (Option Tmp)} {a0:Act} {W:World} (hd:ops.toList.map (·.dst)=ds) (hnd:nodupB ds=true) (hsz:fitsB ds a0.tmps.size=true) (hlow:lowB ops=true) (hlate:lateB ops late=true)
  (hstep:∀ i,i < ops.size→late.contains i=false→Stp P ops Q late Js ds a0 W i) {k:Nat} (hk:cnt (lastB ops late).toArray ops.size=k)
  (hdone:∀ vals w,Ext W w→(∀ j,j < ops.size→late.contains j=false→(Js[j]?.getD Mn.any).p (vals j) w)→stepL P ops Q (fun _=>True) late k (lastB ops late).toArray (putAll ds (lastB ops late) vals 0 a0) w) :
  ∀ (fuel:Nat) (listed:Array Bool) (vals:Nat→Value) (w:World),listed.size=ops.size→Closed ops listed→(∀ t,late.contains t=true→t < ops.size→listed.getD t false=false)→cnt listed ops.size≤fuel→Ext W w →
   (∀ j,listed.getD j false=true→(Js[j]?.getD Mn.any).p (vals j) w)→anyL P ops Q (fun _=>True) late fuel listed (putAll ds listed.toList vals 0 a0) w:=by
 intro fuel
 induction fuel with
 | zero =>
  intro listed vals w h1 h2 h3 h4 h5 h6
  by_cases hall:∀ i,i < ops.size→late.contains i=false→listed.getD i false=true
  ·have hL:listed=(lastB ops late).toArray:=by
    apply Array.ext
    ·simp [lastB,h1]
    ·intro i hi _;have hio:i < ops.size:=by omega
     have e1:listed[i]=listed.getD i false:=by simp [hi]
     rw [e1];simp only [lastB,List.getElem_toArray,List.getElem_map,List.getElem_range];cases hc:late.contains i with
     | false=>exact hall i hio hc
     | true=>exact h3 i hc hio
   subst hL;have:=hdone vals w h5 (fun j hj hc=>h6 j (hall j hj hc)) h2;rw [hk] at h4;exact anyL_ge h4 this
  ·exfalso
   apply hall
   intro i hi _
   have hz:∀ n,n≤ops.size→cnt listed n=0→∀ i,i < n→listed.getD i false=true:=by
    intro n
    induction n with
    | zero=>intro _ _ i hi; omega
    | succ n ih =>
     intro hn hc i hi;unfold cnt at hc
     by_cases e:i=n
     ·subst e
      by_cases hg:listed.getD i false=true
      ·exact hg
      ·rw [if_neg hg] at hc; omega
     ·exact ih (by omega) (by omega) i (by omega)
   exact hz ops.size (Nat.le_refl _) (by omega) i hi
 | succ fuel ih =>
  intro listed vals w h1 h2 h3 h4 h5 h6
  by_cases hall:∀ i,i < ops.size→late.contains i=false→listed.getD i false=true
  ·have hL:listed=(lastB ops late).toArray:=by
    apply Array.ext
    ·simp [lastB,h1]
    ·intro i hi _;have hio:i < ops.size:=by omega
     have e1:listed[i]=listed.getD i false:=by simp [hi]
     rw [e1];simp only [lastB,List.getElem_toArray,List.getElem_map,List.getElem_range];cases hc:late.contains i with
     | false=>exact hall i hio hc
     | true=>exact h3 i hc hio
   subst hL;have:=hdone vals w h5 (fun j hj hc=>h6 j (hall j hj hc)) h2;rw [hk] at h4;exact anyL_ge h4 this
  ·have hex:∃ i,i < ops.size∧late.contains i=false∧listed.getD i false=false:=by
    apply Classical.byContradiction
    intro hno
    apply hall
    intro i hi hc;cases hl:listed.getD i false with
    | true=>rfl
    | false=>exact absurd ⟨i,hi,hc,hl⟩ hno
   obtain⟨u,hu,huc,hul⟩:=hex;have hne:=ready_low hlow h1 0 (Nat.zero_le _) (fun i hi=>by omega) ⟨u,hu,hul⟩;refine⟨fun h0=>?_,fun i hi=>?_⟩
   ·obtain⟨i,hi⟩:=hne; rw [h0] at hi; cases hi
   ·have hun:=ready_not hi;obtain⟨hun2,o,ho,-⟩:=mem_ready.1 hi;have hio:i < ops.size:=(Array.getElem?_eq_some_iff.1 ho).1
    have hic:late.contains i=false:=by
     cases hc:late.contains i with
     | false=>rfl
     | true =>
      have hw:=List.all_eq_true.1 hlate u (by simpa using hu);rw [huc,Bool.false_or] at hw;have:=late_listed hw h2 hi hc;rw [hul] at this; cases this
    have ho':ops.toList[i]?=some o:=by rw [Array.getElem?_toList]; exact ho
    have hdi:ds[i]?=some o.dst:=by rw [←hd,List.getElem?_map,ho']; rfl
    have hbi:listed.toList[i]?=some false:=by
     rw [Array.getElem?_toList];have:i < listed.size:=by omega
     simp [this] at hun ⊢; exact hun
    refine wpOp_step ho (fun K' hK=>?_);refine hstep i hio hic o ho' _ w h5 (fun t ht=>putAll_oldB (by rw [←hd]; simp) h3 vals a0 ht) (fun j hj t ht=>?_) K' (fun v w' e hJ=>hK _ _ ⟨fun _ _=>trivial,?_⟩)
    ·have hjl:=preds_ready hi j (by simpa using hj);refine⟨vals j,?_,h6 j hjl⟩
     have hjs:j < listed.size:=by
      rcases Nat.lt_or_ge j listed.size with h | h
      ·exact h
      ·simp [Array.getElem?_eq_none h] at hjl
     have:=putAll_new ds listed.toList vals 0 j a0 hnd (by rw [Array.getElem?_toList]; simp [hjs] at hjl ⊢; exact hjl) ht (by
      have:=List.all_eq_true.1 hsz (some t) (List.mem_of_getElem? ht)
      simpa using this)
     rw [Nat.zero_add] at this;exact this
    ·have hc:=cnt_set (by omega:i < listed.size) hun ops.size;rw [if_pos hio] at hc;have hps:=putAll_set (v:=v) ds listed.toList vals 0 i a0 hnd hbi hdi;rw [Nat.zero_add] at hps;rw [←hps,←Array.toList_setIfInBounds];refine ih (listed.setIfInBounds i true) (updV vals i v) w' (by simpa using h1) (h2.set hi) (fun t htl htn=>?_) (by omega) (h5.trans e) (fun j hj=>?_)
     ·rw [Go.getD_set_ne false (fun e=>by subst e; rw [hic] at htl; cases htl)];exact h3 t htl htn
     ·by_cases hji:i=j
      ·subst hji;have:updV vals i v i=v:=by simp [updV]
       rw [this]; exact hJ
      ·rw [Go.getD_set_ne false hji] at hj;have:updV vals i v j=vals j:=by unfold updV; rw [if_neg (fun e=>hji e.symm)]
       rw [this];exact (Js[j]?.getD Mn.any).mono e (h6 j hj)
theorem region_inv (Js:List Mn) (ds:List (Option Tmp)) (late:List Nat) (bs:List Bool) (k:Nat) {id:Nat} {a0:Act} {W:World} (hm:P.follows .mixedOrders=true) (hd:ops.toList.map (·.dst)=ds) (hnd:nodupB ds=true) (hsz:fitsB ds a0.tmps.size=true) (hlow:lowB ops=true) (hlate:lateB ops late=true)
  (hb:lastB ops late=bs) (hk:cnt bs.toArray ops.size=k) (hstep:∀ i,i < ops.size→late.contains i=false→Stp P ops Q late Js ds a0 W i)
  (hdone:∀ vals w,Ext W w→(∀ j,j < ops.size→late.contains j=false→(Js[j]?.getD Mn.any).p (vals j) w)→stepL P ops Q (fun _=>True) late k bs.toArray (putAll ds bs vals 0 a0) w) :
  (Code.region id ops true).wp P Q a0 W:=by
 subst hb
 have h0:∀ n,putAll ds (Array.replicate n false).toList (fun _=>undef) 0 a0=a0:=by
  intro n;simp only [Array.toList_replicate]
  have:∀ (ds:List (Option Tmp)) (n k:Nat),putAll ds (List.replicate n false) (fun _=>undef) k a0=a0:=by
   intro ds
   induction ds with
   | nil=>intro n k; unfold putAll; rfl
   | cons d ds ih =>
    intro n k;cases n with
    | zero=>rfl
    | succ n=>exact ih n (k+1)
  exact this ds n 0
 have hc0:∀ (n:Nat) (l:Array Bool),cnt l n≤n:=by
  intro n l
  induction n with
  | zero=>exact Nat.le_refl _
  | succ n ih=>unfold cnt; split <;> omega
 have hf0:∀ j,(Array.replicate ops.size false).getD j false=false:=fun j=>by
  rw [Array.getD_eq_getD_getElem?,Array.getElem?_replicate]; split <;> rfl
 have:=inv_go (P:=P) (Q:=Q) (late:=late) hd hnd hsz hlow hlate hstep hk hdone ops.size (Array.replicate ops.size false) (fun _=>undef) W.drew (by simp) (Closed.start _) (fun t _ _=>hf0 t) (hc0 _ _) (Ext.refl W).drew (fun j hj=>by rw [hf0 j] at hj; cases hj);rw [h0] at this;exact wp_region_any hm (any_of_anyL _ _ _ _ this)
def invB (P:Program) (ops:Array Oper) (ds:List (Option Tmp)) (late:List Nat) (bs:List Bool) (k n:Nat):Bool :=
 P.follows .mixedOrders && (decide (ops.toList.map (·.dst)=ds) && (nodupB ds && (fitsB ds n && (lowB ops && (lateB ops late && (decide (lastB ops late=bs) && decide (cnt bs.toArray ops.size=k)))))))
theorem regI (Js:List Mn) (ds:List (Option Tmp)) (late:List Nat) (bs:List Bool) (k:Nat) {id:Nat} {a0:Act} {W:World} (h:invB P ops ds late bs k a0.tmps.size=true) (hstep:∀ i,i < ops.size→late.contains i=false→Stp P ops Q late Js ds a0 W i)
  (hdone:∀ vals w,Ext W w→(∀ j,j < ops.size→late.contains j=false→(Js[j]?.getD Mn.any).p (vals j) w)→stepL P ops Q (fun _=>True) late k bs.toArray (putAll ds bs vals 0 a0) w) :
  (Code.region id ops true).wp P Q a0 W:=by
 unfold invB at h;simp only [Bool.and_eq_true,decide_eq_true_eq] at h;obtain⟨h1,h2,h3,h4,h5,h6,h7,h8⟩:=h;exact region_inv Js ds late bs k h1 h2 h3 h4 h5 h6 h7 h8 hstep hdone
end
end Go.Proofs.YtphpkhoeplcedaaGreat
namespace Go.Proofs.YtphpkhoeplcedaaGreat
open Go.RowKit
def Mn.rat (N:Nat) (q:Rat):Mn:=⟨fun v w=>RatV N w v q,fun e h=>h.ext e⟩
def Mn.ls (N n:Nat) (x:Nat→Rat):Mn:=⟨fun v w=>LsV N 0 w.heap.size w v n x,fun e h=>LsR.wide (h.ext e) (Nat.le_refl _) e.size (Nat.le_refl _)⟩
def Mn.lin (N m n:Nat) (X:Nat→Nat→Rat) (y p:Nat→Rat):Mn:=⟨fun v w=>∃ v1 v2 v3,v=.agg #[v1,v2,v3]∧MtV N 0 w.heap.size w v1 m n X∧LsV N 0 w.heap.size w v2 m y∧LsV N 0 w.heap.size w v3 m p,
 fun e h=>by
  obtain⟨v1,v2,v3,h0,h1,h2,h3⟩:=h
  exact⟨v1,v2,v3,h0,MtR.wide (h1.ext e) (Nat.le_refl _) e.size (Nat.le_refl _),LsR.wide (h2.ext e) (Nat.le_refl _) e.size (Nat.le_refl _),LsR.wide (h3.ext e) (Nat.le_refl _) e.size (Nat.le_refl _)⟩⟩
def Mn.blk (lo:Nat) (o:Obj):Mn:=⟨fun v w=>∃ g,v=.pointer (some ⟨g,0,none⟩)∧lo≤g∧w.heap[g]?=some o,fun e h=>by
  obtain⟨g,h0,h1,h2⟩:=h
  exact⟨g,h0,h1,e.block h2⟩⟩
def Mn.at4 (N:Nat) (q:Rat):Mn:=⟨fun v w=>∃ b o,v=.pointer (some ⟨b,o,none⟩)∧At4 N w b o (raw q),fun e h=>by
  obtain⟨b,o,h0,h1⟩:=h
  exact⟨b,o,h0,h1.ext e⟩⟩
theorem grow_chgB {N base g:Nat} {w w':World} {v:Value} {n:Nat} {x:Nat→Rat} (h:Grow N base w v n x) (c:Chg g (g+1) w w') (hN:N≤g) (hd:v.ownBlock≠some g):Grow N base w' v n x:=by
 obtain⟨h1,h2,h3⟩:=h;refine⟨h1,Nat.le_trans h2 c.size,?_⟩
 rcases h3 with h3 | ⟨g0,cap,rfl,hg,hm,hr⟩
 ·exact .inl h3
 ·have hne:g0≠g:=fun e=>hd (by rw [←e]; rfl)
  exact .inr ⟨g0,cap,rfl,hg,hm,hr.chg c hN (by omega)⟩
theorem grow_lt {N base:Nat} {w:World} {v:Value} {n:Nat} {x:Nat→Rat} (h:Grow N base w v n x) {k:Nat} (hk:v.ownBlock=some k):base≤k∧k < w.heap.size:=by
 obtain⟨h1,h2,⟨rfl,-⟩ | ⟨g0,cap,rfl,hg,hm,hr⟩⟩:=h
 ·simp [Value.ownBlock] at hk
 ·have:g0=k:=by simpa [Value.ownBlock] using hk
  subst this;exact⟨hg,hr.lt⟩
theorem GrowS.own_lt {base:Nat} {w:World} {v:Value} {xs:List Value} (h:GrowS base w v xs) {k:Nat} (hk:v.ownBlock=some k):base≤k∧k < w.heap.size:=by
 obtain⟨h0,h1,⟨rfl,-⟩ | ⟨g0,cap,cur,rfl,hb,hg,h3⟩⟩:=h
 ·simp [Value.ownBlock] at hk
 ·have:g0=k:=by simpa [Value.ownBlock] using hk
  subst this;exact⟨hb,blk_lt hg⟩
theorem grow_noU {N base:Nat} {w:World} {v:Value} {n:Nat} {x:Nat→Rat} (h:Grow N base w v n x):∃ g',base≤g'∧NoU w g'∧(∀ k,v.ownBlock=some k→k=g')∧(v.ownBlock=some g'∨g'=w.heap.size):=by
 obtain⟨h1,h2,⟨rfl,-⟩ | ⟨g0,cap,rfl,hg,hm,hr⟩⟩:=h
 ·exact⟨w.heap.size,h2,fun cs fr h=>by (rw [Array.getElem?_eq_none (Nat.le_refl _)] at h; cases h),fun k hk=>by simp [Value.ownBlock] at hk,.inr rfl⟩
 ·exact⟨g0,hg,hr.noU,fun k hk=>by simpa [Value.ownBlock] using hk.symm,.inl rfl⟩
theorem run_append_rat_at {N base:Nat} {w:World} (t ty:TypeId) (ht:Tryz.prog.underlying t=some (.slice 29)) {v:Value} {n:Nat} {x:Nat→Rat} (h:Grow N base w v n x)
  {b:Nat} {neg:Bool} {s u:Value} {q:Rat} {fr:Nat×Nat} (hb:w.heap[b]?=some (.cells #[.bool neg,s,.bool false,u] 29 fr)) (hneg:Hid (neg=decide (q.num < 0))) (hs:Gs N w s (dg q.num.natAbs)) (hu:Gs N w u (dg q.den)) (hn:n < 1000000000) :
  ∃ g cap w' g',(Builtin.append_ #[t,t] ty #[v,.slice (some ⟨b,0,none⟩) 1 1]).run Tryz.prog w=.ok (.slice (some ⟨g,0,none⟩) (n+1) cap) w'∧Grow N base w' (.slice (some ⟨g,0,none⟩) (n+1) cap) (n+1) (upd x n q)∧base≤g'∧Chg g' (g'+1) w w'∧(v.ownBlock=some g'∨g'=w.heap.size)∧(v.ownBlock=some g∨g=w.heap.size):=by
 obtain⟨i0,hi0,hz0,hz1,hz2⟩:=info_parts info_rat;obtain⟨g1,cap1,w1,hrun1,hG1,-,-⟩:=run_append_rat t ty ht h hb hneg hs hu hn;obtain⟨g',hg',hT,hk,hw9⟩:=grow_noU h;obtain⟨h1,h2,h3⟩:=h
 have hown:∃ xs,w.ownsRow base 29 4 v n xs:=by
  rcases h3 with ⟨rfl,rfl⟩ | ⟨g,cap,rfl,hg,hm,hr⟩
  ·exact⟨[],⟨by simp,.inl ⟨rfl,rfl⟩⟩⟩
  ·obtain⟨xs,hx,hc⟩:=row_cells hr hm hg;exact⟨xs,hx⟩
 obtain⟨xs,hown⟩:=hown;obtain⟨As,ns,cs0,rfl,-,-,-⟩:=hs.form;obtain⟨Au,nu,cu,rfl,-,-,-⟩:=hu.form
 obtain⟨g,cap,w',hrun,ho,hgr,hat,hlt⟩:=run_append_lies (P:=Tryz.prog) w t ty base 29 i0 _ 4 64 ht hi0 hz0 hz1 hz2 rfl (by omega) v n xs hown ⟨b,0,none⟩ 1 1 [.bool neg,.slice As ns cs0,.bool false,.slice Au nu cu] rfl
  (fun j u hj=>by
   have e:(⟨b,0,none⟩:Addr).add j=⟨b,j,none⟩:=by
    unfold Addr.add; split
    ·rename_i e; subst e; rfl
    ·simp
   rw [e,cell_blk hb]
   simpa using hj)
  (fun u hu=>by simp at hu; rcases hu with rfl | rfl | rfl | rfl <;> rfl) (by omega) (by unfold maxLen; omega) (by omega) h2 w.heap.size rfl
 rw [hrun1] at hrun;injection hrun with e1 e2
 injection e1 with e1 _ e3
 injection e1 with e1
 injection e1 with e1 _
 subst e1 e2 e3;exact⟨g1,cap1,w1,g',hrun1,hG1,hg',grown_chg hgr hk hT,hw9,hat⟩
def flo (x:Rat):Int:=divF x.num x.den
def cel1 (x:Rat) (n:Int):List (Int×Rat):=if 0≤flo x∧flo x < n - 1 then [(flo x,x - (flo x:Rat))] else []
def cel2 (x:Rat) (n:Int):List (Int×Rat):=if (x - (flo x:Rat)).num.sign=0∧1≤flo x∧flo x≤n - 1 then [(flo x - 1,((1:Int):Rat))] else []
def celL (x:Rat) (n:Int):List (Int×Rat):=cel1 x n ++ cel2 x n
def cI (l:List (Int×Rat)) (i:Nat):Int:=(l[i]?.getD (0,0)).1
def cQ (l:List (Int×Rat)) (i:Nat):Rat:=(l[i]?.getD (0,0)).2
def Cel (N:Nat) (w:World) (v1 v2:Value) (l:List (Int×Rat)):Prop :=
 IzV N 0 w.heap.size w v1 l.length (cI l)∧LsV N 0 w.heap.size w v2 l.length (cQ l)
def RetCel (N:Nat) (w:World) (l:List (Int×Rat)) (e:Ending) (w':World):Prop:=∃ v1 v2,e=.returned (.tuple #[v1,v2])∧Cel N w' v1 v2 l∧Ext w w'
theorem sz_int {k:Int} (h:k.natAbs < 1000000000):Sz (k:Rat):=by
 constructor
 ·rw [Rat.num_intCast];exact Nat.le_trans (ln_le_of_lt (k:=1) (by unfold bs; simpa using h)) (by omega)
 ·rw [Rat.den_intCast];exact Nat.le_trans (ln_le_of_lt (k:=1) (by unfold bs; omega)) (by omega)
theorem cQ_snoc {l:List (Int×Rat)} {z:Int} {q:Rat} {n:Nat} (hn:n=l.length) (i:Nat):upd (cQ l) n q i=cQ (l ++ [(z,q)]) i:=by
 unfold upd cQ;subst hn
 rcases Nat.lt_trichotomy i l.length with h | rfl | h
 ·rw [if_neg (by omega),List.getElem?_append_left h]
 ·rw [if_pos rfl]; simp
 ·rw [if_neg (by omega),List.getElem?_eq_none (by omega),List.getElem?_eq_none (by simp; omega)]
def Mn.bks (lo n:Nat) (o:Obj):Mn:=⟨fun v w=>∃ g,v=.slice (some ⟨g,0,none⟩) n n∧lo≤g∧w.heap[g]?=some o,fun e h=>by
  obtain⟨g,h0,h1,h2⟩:=h
  exact⟨g,h0,h1,e.block h2⟩⟩
def Mn.gro (base:Nat) (xs:List Value):Mn:=⟨fun v w=>GrowO 3 base w v xs,fun e h=>h.ext e⟩
def Mn.gr (N base n:Nat) (x:Nat→Rat):Mn:=⟨fun v w=>Grow N base w v n x,fun e h=>h.ext e⟩
theorem grow_low {N base base':Nat} {w:World} {v:Value} {n:Nat} {x:Nat→Rat} (h:Grow N base w v n x) (h1:N≤base') (h2:base'≤base):Grow N base' w v n x:=by
 obtain⟨a1,a2,a3⟩:=h;refine⟨h1,by omega,?_⟩
 rcases a3 with a3 | ⟨g,cap,hv,hg,hm,hr⟩
 ·exact .inl a3
 ·exact .inr ⟨g,cap,hv,by omega,hm,hr⟩
def CelG (N base:Nat) (w:World) (v1 v2:Value) (l:List (Int×Rat)):Prop :=
 GrowO 3 base w v1 (l.map fun p=>.int .i64 p.1)∧Grow N base w v2 l.length (cQ l)
theorem gro_iz {N base:Nat} {w:World} {v:Value} {l:List (Int×Rat)} (h:GrowO 3 base w v (l.map fun p=>.int .i64 p.1)):IzV N 0 w.heap.size w v l.length (cI l):=by
 by_cases h0:0 < (l.map fun p=>Value.int .i64 p.1).length
 ·obtain⟨g,cap,rfl,h1,h2,h3,h4,h5,h6⟩:=h.at_ h0;refine⟨rfl,some ⟨g,0,none⟩,cap,by simp,by simpa using h4,h3,fun _=>⟨g,0,rfl,fun i hi=>?_⟩⟩;have:=h6 i (by simpa using hi);rw [Nat.zero_add,this];unfold cI;simp [hi]
 ·have hl:l=[]:=by
   cases l with
   | nil=>rfl
   | cons a b=>simp at h0
  subst hl
  rcases h.2.2 with ⟨rfl,h1⟩ | ⟨g,cap,cur,rfl,hb,hg,hnc,hcm,-⟩
  ·exact⟨rfl,none,0,rfl,by simp,by unfold maxLen; omega,fun h=>by simp at h⟩
  ·exact⟨rfl,some ⟨g,0,none⟩,cap,by simp,by simp,hcm,fun h=>by simp at h⟩
theorem CelG.cel {N base:Nat} {w:World} {v1 v2:Value} {l:List (Int×Rat)} (h:CelG N base w v1 v2 l):Cel N w v1 v2 l:=⟨gro_iz h.1,h.2.lsv (Nat.zero_le _) rfl⟩
theorem wpList_append_rat_at {N base:Nat} {w:World} {ops:Array Oper} {rest:List Oper} {o:Oper} {a:Act} {Q:Exit→Act→World→Prop} (hgd:o.guard=none) (s x:Operand) (t:TypeId) (ht:Tryz.prog.underlying t=some (.slice 29))
  (ho:o.op=.call { callee:=.builtin .append,args:=#[s,x],argTypes:=#[t,t] }) {v:Value} {n:Nat} {f:Nat→Rat} (hs:a.eval s=v) (h:Grow N base w v n f)
  {b:Nat} (hx:a.eval x=.slice (some ⟨b,0,none⟩) 1 1) {neg:Bool} {s1 s2:Value} {q:Rat} {fr:Nat×Nat} (hb:w.heap[b]?=some (.cells #[.bool neg,s1,.bool false,s2] 29 fr)) (hneg:Hid (neg=decide (q.num < 0))) (g1:Gs N w s1 (dg q.num.natAbs)) (g2:Gs N w s2 (dg q.den)) (hn:n < 1000000000)
  (hK:∀ g cap w' g',Grow N base w' (.slice (some ⟨g,0,none⟩) (n+1) cap) (n+1) (upd f n q)→base≤g'→Chg g' (g'+1) w w'→(v.ownBlock=some g'∨g'=w.heap.size)→(v.ownBlock=some g∨g=w.heap.size)→wpList Tryz.prog ops Q rest (a.put o.dst (.slice (some ⟨g,0,none⟩) (n+1) cap)) w'):wpList Tryz.prog ops Q (o :: rest) a w:=by
 obtain⟨g,cap,w',g',hrun,h2,h3,h4,h5,h6⟩:=run_append_rat_at t o.type ht h hb hneg g1 g2 hn;refine wpList_plain hgd fun _ hK'=>?_
 unfold Oper.wp;simp only [execOp,ho,resolve,invoke,builtin,Sem.run_bind,Sem.run_pure,Result.andThen_ok,List.map_toArray,List.map_cons,List.map_nil,hs,hx,hrun];exact hK' _ _ (hK g cap w' g' h2 h3 h4 h5 h6)
theorem grow_int {N base gp n:Nat} {w w':World} {v1 v2:Value} {xs:List Value} {x:Nat→Rat} (hG:Grow N base w v2 n x) (h1:GrowO 3 base w v1 xs) (c:Chg gp (gp+1) w w') (hg:v1.ownBlock=some gp∨gp=w.heap.size) (hb:base≤gp):Grow N base w' v2 n x:=by
 refine grow_chgB hG c (Nat.le_trans hG.1 hb) fun hk=>?_
 rcases hg with hg | rfl
 ·obtain⟨-,-,⟨rfl,-⟩ | ⟨g,cap,rfl,-,-,hr⟩⟩:=hG
  ·simp [Value.ownBlock] at hk
  ·obtain rfl:g=gp:=by simpa [Value.ownBlock] using hk
   obtain⟨-,-,⟨rfl,-⟩ | ⟨g1,cap1,cur,rfl,-,hh,-⟩⟩:=h1
   ·simp [Value.ownBlock] at hg
   ·obtain rfl:g1=g:=by simpa [Value.ownBlock] using hg
    obtain⟨-,-,⟨cs,hc,-⟩,-⟩:=hr;rw [hh] at hc;injection hc with hc
    injection hc with _ hc _
    exact absurd hc (by decide)
 ·exact absurd (grow_lt hG hk).2 (Nat.lt_irrefl _)
theorem int_grow {N base gp n:Nat} {w w':World} {v1 v2:Value} {xs:List Value} {x:Nat→Rat} (hG:Grow N base w v2 n x) (h1:GrowO 3 base w v1 xs) (c:Chg gp (gp+1) w w') (hg:v2.ownBlock=some gp∨gp=w.heap.size):GrowO 3 base w' v1 xs:=by
 refine h1.far c fun k hk=>?_
 have hlt:=(h1.own_lt k hk).2
 rcases hg with hg | rfl
 ·have hne:k≠gp:=by
   rintro rfl;obtain⟨-,-,⟨rfl,-⟩ | ⟨g,cap,rfl,-,-,hr⟩⟩:=hG
   ·simp [Value.ownBlock] at hg
   ·obtain rfl:g=k:=by simpa [Value.ownBlock] using hg
    obtain⟨-,-,⟨rfl,-⟩ | ⟨g1,cap1,cur,rfl,-,hh,-⟩⟩:=h1
    ·simp [Value.ownBlock] at hk
    ·obtain rfl:g1=g:=by simpa [Value.ownBlock] using hk
     obtain⟨-,-,⟨cs,hc,-⟩,-⟩:=hr;rw [hh] at hc;injection hc with hc
     injection hc with _ hc _
     exact absurd hc (by decide)
  omega
 ·omega
set_option maxRecDepth 100000 in
theorem o_cells {N:Nat} {w:World} {v:Value} {x:Rat} {n:Int} (h:RatV N w v x) (hz:Sz x) (hz':Sz (x - (flo x:Rat))) (hk:(flo x).natAbs < 1000000000) (hn0:2≤n) (hn:n≤64) :
  Calls Tryz.prog 99 #[v,.int .i64 n] w (RetCel N w (celL x n)):=by
 obtain⟨lst,hlst⟩:=hid_eq (celL x n);rw [←hlst.out];have hN:=h.le;have hI:=h;have HZ:=Lib.hid hz;have HZ':=Lib.hid hz';have HKB:=Lib.hid hk;obtain⟨m1,X1,i1,d1,X2,i2,d2,rfl,hm1,gx1,gx2⟩:=h.parts;obtain⟨k,hkd⟩:=hid_eq (flo x);rw [←hkd.out] at HZ' HKB;clear h gx1 gx2 hz hz' hk;go_enter Tryz.func99,Tryz.ntmps99;go_wp2_with (go_at_call 151; refine Hid.out ?_);refine boxesC1 ?_;intro W hE hsz B0;refine (f_floor (hI.ext hE) HZ.out).mono ?_;rintro e w1 ⟨v1,rfl,iv,e1⟩;replace iv:IntV N w1 v1 k:=by rw [hkd.out]; exact iv
 obtain⟨b5,A5,k5,c5,rfl,hb5,h5,-⟩:=iv.parts;replace hE:=hE.trans e1;replace B0:=e1.block B0;replace hsz:=Nat.le_trans hsz e1.size;clear e1 h5;go_wp2_with (go_at_call 150; refine Hid.out ?_);refine (i_small iv HKB.out).mono ?_;rintro e w2 ⟨rfl,e2⟩;replace hE:=hE.trans e2;replace B0:=e2.block B0;replace hsz:=Nat.le_trans hsz e2.size;have hx2:=hI.ext hE;have hk1 : -1000000000 < k:=by have:=HKB.out; omega
 have hk2:k < 1000000000:=by have:=HKB.out; omega
 clear e2 iv hb5;obtain⟨a0,a1,a2,a3,a4,a5,a6,a7⟩:=cells4 B0;obtain⟨w3,hw3⟩:∃ w3,w3=w2:=⟨_,rfl⟩
 subst hw3;go_upto_region 4 with (fail);refine regI [Mn.rat N (x),Mn.eq (.int .i64 k),Mn.rat N (k:Rat),Mn.rat N (x - (k:Rat)),Mn.blk w3.heap.size (.cells #[.bool false,.slice none 0 0,.bool false,.slice none 0 0] 29 (0,0)),Mn.any] [some 17,some 18,some 19,some 20,some 8,none] [5] [true,true,true,true,true,false] 1 (by kernel_rfl) ?_ ?_
 ·show ∀ i,i < 6→_
  iterate 6 refine fs ?_ ?_
  ·exact fz
  all_goals intro hl
  all_goals first | exact absurd hl (by decide) | skip
  all_goals clear hl
  all_goals refine stp rfl ?_
  all_goals intro ac wi eI hB hA K hK
  have o2:=oOf (hB 2 (by kernel_rfl)) rfl;clear hB hA;have cc0:=eI.cell a0;have cc1:=eI.cell a1;have cc2:=eI.cell a2;have cc3:=eI.cell a3
  ·go_simp;exact hK.out _ _ (Ext.refl _) (hx2.ext eI)
  have o6:=oOf (hB 6 (by kernel_rfl)) rfl
  rotate_left
  obtain⟨_,s18,rfl⟩:=hA 1 (by kernel_rfl) 18 rfl;clear hB hA
  ·go_simp;refine (o_whole (Nat.le_trans (by omega:N≤w3.heap.size) eI.size) k (by omega) (by omega)).mono ?_;rintro e wj ⟨vj,rfl,hj,ej⟩;go_wp2_with fail;exact hK.out _ _ ej hj
  obtain⟨x17,s17,j17⟩:=hA 0 (by kernel_rfl) 17 rfl;replace j17:Mn.p (Mn.rat N (x)) x17 wi:=j17;obtain⟨x19,s19,j19⟩:=hA 2 (by kernel_rfl) 19 rfl;replace j19:Mn.p (Mn.rat N (k:Rat)) x19 wi:=j19;clear hB hA
  ·go_simp;refine (o_sub j17 j19 HZ.out (sz_int HKB.out)).mono ?_;rintro e wj ⟨vj,rfl,hj,ej⟩;go_wp2_with fail;exact hK.out _ _ ej hj
  clear hB hA
  ·go_simp;refine boxes1 ?_;intro wj ej hszj BJ;exact hK.out _ _ ej ⟨_,rfl,eI.size,BJ⟩
  all_goals clear hB hA
  all_goals go_simp
  all_goals exact hK.out _ _ (Ext.refl _) rfl
 intro vals wz eZ hJ;have J20:Mn.p (Mn.rat N (x - (k:Rat))) (vals 3) wz:=hJ 3 (by decide) (by decide);have J8:Mn.p (Mn.blk w3.heap.size (.cells #[.bool false,.slice none 0 0,.bool false,.slice none 0 0] 29 (0,0))) (vals 4) wz:=hJ 4 (by decide) (by decide);clear hJ;simp only [pr,Nat.reduceAdd]
 generalize vals 3=z20 at J20 ⊢
 generalize vals 4=z8 at J8 ⊢
 obtain⟨gR,rfl,hgR,BG⟩:=J8;obtain⟨bz,Az,kz,cz,Az',kz',cz',rfl,hbz,gz1,gz2⟩:=RatV.parts J20;obtain⟨r0,r1,r2,r3,r4,r5,r6,r7⟩:=cells4 BG;refine stepL_late (i:=5) rfl (by kernel_rfl) (by kernel_rfl) (fun K hK=>?_);go_simp;refine hK.out _ _ ?_;clear hK K;try simp only [nr]
 refine stepL_done (by kernel_rfl) ?_ _;obtain⟨w4,E4,hBR,K4,hs4⟩:=boxSet (q:=x - (k:Rat)) BG (by omega) hbz gz1 gz2;rw [E4];have hgR4:gR < w4.heap.size:=by have:=blk_lt BG; omega
 have e4:Ext w3 w4:=K4.ext eZ hgR;replace hE:=hE.trans e4;replace hsz:=Nat.le_trans hsz e4.size;clear a0 a1 a2 a3 a4 a5 a6 a7 r0 r1 r2 r3 r4 r5 r6 r7 BG E4 K4 eZ hs4 hbz gz1 gz2 e4 B0 hx2;have hG0:CelG N w4.heap.size w4 (.slice none 0 0) (.slice none 0 0) []:=⟨GrowO.nil (Nat.le_refl _),Grow.nil (by omega) (Nat.le_refl _) _⟩
 have hw1:IntKind.i64.wrap (n - 1)=n - 1:=IntWalk.i64_in _ (by omega);have hw2:IntKind.i64.wrap (k - 1)=k - 1:=IntWalk.i64_in _ (by omega);have hBR0:=hBR;obtain⟨na,Aa,ka,ca,A'a,k'a,c'a,Ba,hba,ya,za⟩:=hBR;obtain⟨a0,a1,a2,a3,-⟩:=cells4 Ba;have hRa:RatV N w4 (.agg #[.bool na,.slice Aa ka ca,.bool false,.slice A'a k'a c'a]) (x - (k:Rat)):=RatV.mk hba ya za;have hBR:=hBR0;clear Ba;have HC1:Hid (cel1 x n=if 0≤k∧k < n - 1 then [(k,x - (k:Rat))] else []):=by rw [hkd.out]; rfl
 by_cases c1:0≤k
 case neg =>
  have t1:decide (0≤k)=false:=decide_eq_false c1;have HL1:Hid (cel1 x n=[]):=by rw [Hid,HC1.out,if_neg (fun h=>c1 h.1)]
  go_upto_region 7 with (fail);obtain⟨base,hbase⟩:=hid_eq w4.heap.size;obtain⟨l1,hl1⟩:=hid_eq ([]:List (Int×Rat));have HLB:Hid (l1.length≤1):=by rw [Hid,hl1.out]; simp
  have hG:CelG N base w4 (.slice none 0 0) (.slice none 0 0) l1:=by rw [hbase.out,hl1.out]; exact hG0
  rw [←hl1.out] at HL1;have hbN:w.heap.size≤base:=by rw [hbase.out]; omega
  clear hG0 hl1 hbase a0 a1 a2 a3 HC1;obtain⟨wv,hwv⟩:∃ wv,wv=w4:=⟨_,rfl⟩
  subst hwv;obtain⟨s,hs⟩:=hid_eq (x - (k:Rat)).num.sign;obtain⟨nb,Ab,kb,cb,A'b,k'b,c'b,Bb,hbb,yb,zb⟩:=hBR;obtain⟨b0,b1,b2,b3,-⟩:=cells4 Bb;have hRb:RatV N wv (.agg #[.bool nb,.slice Ab kb cb,.bool false,.slice A'b k'b c'b]) (x - (k:Rat)):=RatV.mk hbb yb zb;go_wp2_with (go_at_call 59; refine Hid.out ?_);refine (f_sign hRb HZ'.out).mono ?_;rintro e w7 ⟨rfl,e7⟩;rw [←hs.out];replace hE:=hE.trans e7;replace hG:CelG N base w7 _ _ l1:=⟨hG.1.ext e7,hG.2.ext e7⟩
  have hN7:N≤w7.heap.size:=by have:=hE.size; omega
  have HC2:Hid (cel2 x n=if s=0∧1≤k∧k≤n - 1 then [(k - 1,((1:Int):Rat))] else []):=by rw [hs.out,hkd.out]; rfl
  clear hba hRa hBR0 Bb hRb b0 b1 b2 b3 yb zb hbb;obtain⟨L1,hL1⟩:=hid_eq (l1.map fun p=>Value.int .i64 p.1).length;obtain⟨L2,hL2⟩:=hid_eq l1.length
  by_cases c3:s=0
  case neg =>
   have t3:(s == 0)=false:=beq_eq_false_iff_ne.2 c3;have HL2:Hid (cel2 x n=[]):=by rw [Hid,HC2.out,if_neg (fun h=>c3 h.1)]
   have HE:Hid (l1=lst):=by rw [hlst.out,celL,HL1.out,HL2.out,List.append_nil]; rfl
   have hG9:=hG.cel;rw [HE.out] at hG9;clear HC2;go_wp2;go_ret2;exact⟨_,_,rfl,hG9,hE⟩
  subst c3;have t4:decide (1≤k)=false:=decide_eq_false (by omega);have HL2:Hid (cel2 x n=[]):=by rw [Hid,HC2.out,if_neg (fun h=>absurd h.2.1 (by omega))]
  have HE:Hid (l1=lst):=by rw [hlst.out,celL,HL1.out,HL2.out,List.append_nil]; rfl
  have hG9:=hG.cel;rw [HE.out] at hG9;clear HC2;go_wp2;go_ret2;exact⟨_,_,rfl,hG9,hE⟩
 have t1:decide (0≤k)=true:=decide_eq_true c1
 by_cases c2:k < n - 1
 case neg =>
  have t2:decide (k < n - 1)=false:=decide_eq_false c2;have HL1:Hid (cel1 x n=[]):=by rw [Hid,HC1.out,if_neg (fun h=>c2 h.2)]
  go_upto_region 7 with (fail);obtain⟨base,hbase⟩:=hid_eq w4.heap.size;obtain⟨l1,hl1⟩:=hid_eq ([]:List (Int×Rat));have HLB:Hid (l1.length≤1):=by rw [Hid,hl1.out]; simp
  have hG:CelG N base w4 (.slice none 0 0) (.slice none 0 0) l1:=by rw [hbase.out,hl1.out]; exact hG0
  rw [←hl1.out] at HL1;have hbN:w.heap.size≤base:=by rw [hbase.out]; omega
  clear hG0 hl1 hbase a0 a1 a2 a3 HC1;obtain⟨wv,hwv⟩:∃ wv,wv=w4:=⟨_,rfl⟩
  subst hwv;obtain⟨s,hs⟩:=hid_eq (x - (k:Rat)).num.sign;obtain⟨nb,Ab,kb,cb,A'b,k'b,c'b,Bb,hbb,yb,zb⟩:=hBR;obtain⟨b0,b1,b2,b3,-⟩:=cells4 Bb;have hRb:RatV N wv (.agg #[.bool nb,.slice Ab kb cb,.bool false,.slice A'b k'b c'b]) (x - (k:Rat)):=RatV.mk hbb yb zb;go_wp2_with (go_at_call 59; refine Hid.out ?_);refine (f_sign hRb HZ'.out).mono ?_;rintro e w7 ⟨rfl,e7⟩;rw [←hs.out];replace hE:=hE.trans e7;replace hG:CelG N base w7 _ _ l1:=⟨hG.1.ext e7,hG.2.ext e7⟩
  have hN7:N≤w7.heap.size:=by have:=hE.size; omega
  have HC2:Hid (cel2 x n=if s=0∧1≤k∧k≤n - 1 then [(k - 1,((1:Int):Rat))] else []):=by rw [hs.out,hkd.out]; rfl
  clear hba hRa hBR0 Bb hRb b0 b1 b2 b3 yb zb hbb;obtain⟨L1,hL1⟩:=hid_eq (l1.map fun p=>Value.int .i64 p.1).length;obtain⟨L2,hL2⟩:=hid_eq l1.length
  by_cases c3:s=0
  case neg =>
   have t3:(s == 0)=false:=beq_eq_false_iff_ne.2 c3;have HL2:Hid (cel2 x n=[]):=by rw [Hid,HC2.out,if_neg (fun h=>c3 h.1)]
   have HE:Hid (l1=lst):=by rw [hlst.out,celL,HL1.out,HL2.out,List.append_nil]; rfl
   have hG9:=hG.cel;rw [HE.out] at hG9;clear HC2;go_wp2;go_ret2;exact⟨_,_,rfl,hG9,hE⟩
  subst c3
  by_cases c4':1≤k
  case neg =>
   have t4:decide (1≤k)=false:=decide_eq_false c4';have HL2:Hid (cel2 x n=[]):=by rw [Hid,HC2.out,if_neg (fun h=>c4' h.2.1)]
   have HE:Hid (l1=lst):=by rw [hlst.out,celL,HL1.out,HL2.out,List.append_nil]; rfl
   have hG9:=hG.cel;rw [HE.out] at hG9;clear HC2;go_wp2;go_ret2;exact⟨_,_,rfl,hG9,hE⟩
  have t4:decide (1≤k)=true:=decide_eq_true c4'
  by_cases c5':k≤n - 1
  case neg =>
   have t5:decide (k≤n - 1)=false:=decide_eq_false c5';have HL2:Hid (cel2 x n=[]):=by rw [Hid,HC2.out,if_neg (fun h=>c5' h.2.2)]
   have HE:Hid (l1=lst):=by rw [hlst.out,celL,HL1.out,HL2.out,List.append_nil]; rfl
   have hG9:=hG.cel;rw [HE.out] at hG9;clear HC2;go_wp2;go_ret2;exact⟨_,_,rfl,hG9,hE⟩
  have t5:decide (k≤n - 1)=true:=decide_eq_true c5';have HL2:Hid (cel2 x n=[(k - 1,((1:Int):Rat))]):=by rw [Hid,HC2.out,if_pos ⟨rfl,c4',c5'⟩]
  have HE:Hid (l1 ++ [(k - 1,((1:Int):Rat))]=lst):=by rw [hlst.out,celL,HL1.out,HL2.out]; rfl
  clear HC2;have hg1:=hG.1;have hg2:=hG.2;clear hG;go_wp2_with (at_builtin; refine Hid.out ?_);refine boxes1 ?_;intro w8 e8 hsz8 BX;replace hg1:=hg1.ext e8;replace hg2:=hg2.ext e8;refine wpList_append_o one_int rfl _ _ 22 Tryz.underlying22 rfl rfl hg1 (m:=1) (c:=1) (by rfl) rfl (one_new BX) (by intro u hu; simp at hu; subst hu; rfl) (by omega) (by rw [List.length_map]; have:=HLB.out; omega) ?_;rintro gq cq w9 hg1' hoq ⟨gp,hgp,hop,cj,-⟩;replace hg2:=grow_int hg2 hg1 cj hop hgp;have e9:Ext w w9:=cj.ext (hE.trans e8) (by omega);clear hg1 BX cj e8 hop hoq hsz8 hE;rw [←hL1.out] at hg1' ⊢;have hN9:N≤w9.heap.size:=by have:=e9.size; omega
  go_wp2_with (go_at_call 61; refine Hid.out ?_);refine (o_whole hN9 1 (by omega) (by omega)).mono ?_;rintro e w10 hh;obtain⟨b3,A11,k11,c11,A12,k12,c12,rfl,hb3,g5,g6,e10⟩:=hh.form;replace hg1':=hg1'.ext e10;replace hg2:=hg2.ext e10;replace e9:=e9.trans e10;clear e10;go_wp2_with (at_builtin; refine Hid.out ?_);refine boxes1 ?_;intro w11 e11 hsz11 BX;replace hg1':=hg1'.ext e11;replace hg2:=hg2.ext e11;refine wpList_append_rat_at rfl _ _ 45 Tryz.underlying45 rfl rfl hg2 rfl BX hb3 (g5.ext e11) (g6.ext e11) (by have:=HLB.out; omega) ?_;rintro gr cr w12 gs hg2' hgs cj hos -;replace hg1':=int_grow hg2 hg1' cj hos;have e12:Ext w w12:=cj.ext (e9.trans e11) (by omega);have hG9:CelG N base w12 _ _ (l1 ++ [(k - 1,((1:Int):Rat))]):=⟨by rw [List.map_append]; exact hg1',by rw [List.length_append]; exact hg2'.congr (fun i hi=>cQ_snoc (z:=k - 1) rfl i)⟩
  replace hG9:=hG9.cel;rw [HE.out] at hG9;clear hg1' hg2 hg2' BX cj;go_wp2;go_ret2;exact⟨_,_,rfl,hG9,e12⟩
 have t2:decide (k < n - 1)=true:=decide_eq_true c2;have HL1:Hid (cel1 x n=[(k,x - (k:Rat))]):=by rw [Hid,HC1.out,if_pos ⟨c1,c2⟩]
 go_upto_region 6 with (fail);refine regI [Mn.eq (.slice none 0 0),Mn.eq (.int .i64 k),Mn.bks w4.heap.size 1 (.cells #[.int .i64 k] 3 (0,0)),Mn.gro w4.heap.size [.int .i64 k],Mn.eq (.slice none 0 0),Mn.eq (.agg #[.bool na,.slice Aa ka ca,.bool false,.slice A'a k'a c'a]),Mn.bks w4.heap.size 1 (.cells #[.bool na,.slice Aa ka ca,.bool false,.slice A'a k'a c'a] 29 (0,0)),Mn.gr N w4.heap.size 1 (fun _=>x - (k:Rat)),Mn.any,Mn.any] [some 29,some 30,some 31,some 32,some 33,some 34,some 35,some 36,some 4,some 5] [8,9] [true,true,true,true,true,true,true,true,false,false] 2 (by kernel_rfl) ?_ ?_
 ·show ∀ i,i < 10→_
  iterate 10 refine fs ?_ ?_
  ·exact fz
  all_goals intro hl
  all_goals first | exact absurd hl (by decide) | skip
  all_goals clear hl
  all_goals refine stp rfl ?_
  all_goals intro ac wi eI hB hA K hK
  have o4:=oOf (hB 4 (by kernel_rfl)) rfl
  rotate_left
  have o6:=oOf (hB 6 (by kernel_rfl)) rfl
  rotate_left
  obtain⟨_,s30,rfl⟩:=hA 1 (by kernel_rfl) 30 rfl;clear hB hA
  ·go_simp;refine boxes1 ?_;intro wj ej hszj BJ;exact hK.out _ _ ej ⟨_,rfl,eI.size,BJ⟩
  obtain⟨_,s29,rfl⟩:=hA 0 (by kernel_rfl) 29 rfl;obtain⟨x31,s31,j31⟩:=hA 2 (by kernel_rfl) 31 rfl;replace j31:Mn.p (Mn.bks w4.heap.size 1 (.cells #[.int .i64 k] 3 (0,0))) x31 wi:=j31;clear hB hA
  ·obtain⟨gj,rfl,hgj,BJ⟩:=j31;refine wp_append_o one_int _ _ 22 Tryz.underlying22 rfl (by simp [Act.eval,s29]) (GrowO.nil (base:=wi.heap.size) (Nat.le_refl _)) (m:=1) (c:=1) (by simp [Act.eval,s31]) rfl (one_new BJ) (by intro u hu; simp at hu; subst hu; rfl) (by omega) (by simp) ?_;rintro gq cq wj hj hoj ⟨gp,hgp,-,cj,-⟩;exact hK.out _ _ (cj.ext (Ext.refl _) hgp) (hj.low eI.size)
  have o5:=oOf (hB 5 (by kernel_rfl)) rfl
  rotate_left
  have o8:=oOf (hB 8 (by kernel_rfl)) rfl;have cc0:=eI.cell a0;have cc1:=eI.cell a1;have cc2:=eI.cell a2;have cc3:=eI.cell a3
  rotate_left
  obtain⟨_,s34,rfl⟩:=hA 5 (by kernel_rfl) 34 rfl;clear hB hA
  ·go_simp;refine boxes1 ?_;intro wj ej hszj BJ;exact hK.out _ _ ej ⟨_,rfl,eI.size,BJ⟩
  obtain⟨_,s33,rfl⟩:=hA 4 (by kernel_rfl) 33 rfl;obtain⟨x35,s35,j35⟩:=hA 6 (by kernel_rfl) 35 rfl;replace j35:Mn.p (Mn.bks w4.heap.size 1 (.cells #[.bool na,.slice Aa ka ca,.bool false,.slice A'a k'a c'a] 29 (0,0))) x35 wi:=j35;clear hB hA
  ·obtain⟨gj,rfl,hgj,BJ⟩:=j35;refine wp_append_rat _ _ 45 Tryz.underlying45 rfl (by simp [Act.eval,s33]) (Grow.nil (base:=wi.heap.size) (Nat.le_trans (by omega:N≤w4.heap.size) eI.size) (Nat.le_refl _) (fun _=>x - (k:Rat))) (by simp [Act.eval,s35]) BJ hba (ya.ext eI) (za.ext eI) (by omega) ?_;rintro gq cq wj hj ⟨gp,hgp,cj,-⟩ -;exact hK.out _ _ (cj.ext (Ext.refl _) hgp) (grow_low (hj.congr (fun i _=>by unfold upd; split <;> rfl)) (by omega) eI.size)
  all_goals clear hB hA
  all_goals go_simp
  all_goals exact hK.out _ _ (Ext.refl _) rfl
 intro vals wz eZ hJ;have J32:Mn.p (Mn.gro w4.heap.size [.int .i64 k]) (vals 3) wz:=hJ 3 (by decide) (by decide);have J36:Mn.p (Mn.gr N w4.heap.size 1 (fun _=>x - (k:Rat))) (vals 7) wz:=hJ 7 (by decide) (by decide);clear hJ;simp only [pr,Nat.reduceAdd]
 generalize vals 3=z32 at J32 ⊢
 generalize vals 7=z36 at J36 ⊢
 refine stepL_late (i:=8) rfl (by kernel_rfl) (by kernel_rfl) (fun K hK=>?_);go_simp;refine hK.out _ _ ?_;clear hK K;try simp only [nr]
 refine stepL_late (i:=9) rfl (by kernel_rfl) (by kernel_rfl) (fun K hK=>?_);go_simp;refine hK.out _ _ ?_;clear hK K;try simp only [nr]
 refine stepL_done (by kernel_rfl) ?_ _;have hG:CelG N w4.heap.size wz _ _ [(k,x - (k:Rat))]:=⟨J32,Grow.congr J36 (fun i hi=>by have h0:i=0:=Nat.lt_one_iff.1 hi; subst h0; rfl)⟩
 go_upto_region 7 with (fail);obtain⟨base,hbase⟩:=hid_eq w4.heap.size;obtain⟨l1,hl1⟩:=hid_eq [(k,x - (k:Rat))];have HLB:Hid (l1.length≤1):=by rw [Hid,hl1.out]; simp
 rw [←hbase.out,←hl1.out] at hG;rw [←hl1.out] at HL1;have hbN:w.heap.size≤base:=by rw [hbase.out]; omega
 replace hE:=hE.trans eZ;replace hBR:=hBR.ext eZ;clear hG0 hl1 hbase a0 a1 a2 a3 HC1 ya za J32 J36;obtain⟨wv,hwv⟩:∃ wv,wv=wz:=⟨_,rfl⟩
 subst hwv;obtain⟨v4,hv4⟩:∃ v4,v4=z32:=⟨_,rfl⟩
 obtain⟨v5,hv5⟩:∃ v5,v5=z36:=⟨_,rfl⟩
 rw [←hv4,←hv5] at hG ⊢;clear hv4 hv5;obtain⟨s,hs⟩:=hid_eq (x - (k:Rat)).num.sign;obtain⟨nb,Ab,kb,cb,A'b,k'b,c'b,Bb,hbb,yb,zb⟩:=hBR;obtain⟨b0,b1,b2,b3,-⟩:=cells4 Bb;have hRb:RatV N wv (.agg #[.bool nb,.slice Ab kb cb,.bool false,.slice A'b k'b c'b]) (x - (k:Rat)):=RatV.mk hbb yb zb;go_wp2_with (go_at_call 59; refine Hid.out ?_);refine (f_sign hRb HZ'.out).mono ?_;rintro e w7 ⟨rfl,e7⟩;rw [←hs.out];replace hE:=hE.trans e7;replace hG:CelG N base w7 _ _ l1:=⟨hG.1.ext e7,hG.2.ext e7⟩
 have hN7:N≤w7.heap.size:=by have:=hE.size; omega
 have HC2:Hid (cel2 x n=if s=0∧1≤k∧k≤n - 1 then [(k - 1,((1:Int):Rat))] else []):=by rw [hs.out,hkd.out]; rfl
 clear hba hRa hBR0 Bb hRb b0 b1 b2 b3 yb zb hbb;obtain⟨L1,hL1⟩:=hid_eq (l1.map fun p=>Value.int .i64 p.1).length;obtain⟨L2,hL2⟩:=hid_eq l1.length;obtain⟨A4,c4,hv4,-⟩:=hG.1.form;obtain⟨A5,c5,hv5,-⟩:=hG.2.form;rw [←hL1.out] at hv4;rw [←hL2.out] at hv5;subst hv4;subst hv5
 by_cases c3:s=0
 case neg =>
  have t3:(s == 0)=false:=beq_eq_false_iff_ne.2 c3;have HL2:Hid (cel2 x n=[]):=by rw [Hid,HC2.out,if_neg (fun h=>c3 h.1)]
  have HE:Hid (l1=lst):=by rw [hlst.out,celL,HL1.out,HL2.out,List.append_nil]; rfl
  have hG9:=hG.cel;rw [HE.out] at hG9;clear HC2;go_wp2;go_ret2;exact⟨_,_,rfl,hG9,hE⟩
 subst c3
 by_cases c4':1≤k
 case neg =>
  have t4:decide (1≤k)=false:=decide_eq_false c4';have HL2:Hid (cel2 x n=[]):=by rw [Hid,HC2.out,if_neg (fun h=>c4' h.2.1)]
  have HE:Hid (l1=lst):=by rw [hlst.out,celL,HL1.out,HL2.out,List.append_nil]; rfl
  have hG9:=hG.cel;rw [HE.out] at hG9;clear HC2;go_wp2;go_ret2;exact⟨_,_,rfl,hG9,hE⟩
 have t4:decide (1≤k)=true:=decide_eq_true c4'
 by_cases c5':k≤n - 1
 case neg =>
  have t5:decide (k≤n - 1)=false:=decide_eq_false c5';have HL2:Hid (cel2 x n=[]):=by rw [Hid,HC2.out,if_neg (fun h=>c5' h.2.2)]
  have HE:Hid (l1=lst):=by rw [hlst.out,celL,HL1.out,HL2.out,List.append_nil]; rfl
  have hG9:=hG.cel;rw [HE.out] at hG9;clear HC2;go_wp2;go_ret2;exact⟨_,_,rfl,hG9,hE⟩
 have t5:decide (k≤n - 1)=true:=decide_eq_true c5';have HL2:Hid (cel2 x n=[(k - 1,((1:Int):Rat))]):=by rw [Hid,HC2.out,if_pos ⟨rfl,c4',c5'⟩]
 have HE:Hid (l1 ++ [(k - 1,((1:Int):Rat))]=lst):=by rw [hlst.out,celL,HL1.out,HL2.out]; rfl
 clear HC2;have hg1:=hG.1;have hg2:=hG.2;clear hG;go_wp2_with (at_builtin; refine Hid.out ?_);refine boxes1 ?_;intro w8 e8 hsz8 BX;replace hg1:=hg1.ext e8;replace hg2:=hg2.ext e8;refine wpList_append_o one_int rfl _ _ 22 Tryz.underlying22 rfl rfl hg1 (m:=1) (c:=1) (by rfl) rfl (one_new BX) (by intro u hu; simp at hu; subst hu; rfl) (by omega) (by rw [List.length_map]; have:=HLB.out; omega) ?_;rintro gq cq w9 hg1' hoq ⟨gp,hgp,hop,cj,-⟩;replace hg2:=grow_int hg2 hg1 cj hop hgp;have e9:Ext w w9:=cj.ext (hE.trans e8) (by omega);clear hg1 BX cj e8 hop hoq hsz8 hE;rw [←hL1.out] at hg1' ⊢;have hN9:N≤w9.heap.size:=by have:=e9.size; omega
 go_wp2_with (go_at_call 61; refine Hid.out ?_);refine (o_whole hN9 1 (by omega) (by omega)).mono ?_;rintro e w10 hh;obtain⟨b3,A11,k11,c11,A12,k12,c12,rfl,hb3,g5,g6,e10⟩:=hh.form;replace hg1':=hg1'.ext e10;replace hg2:=hg2.ext e10;replace e9:=e9.trans e10;clear e10;go_wp2_with (at_builtin; refine Hid.out ?_);refine boxes1 ?_;intro w11 e11 hsz11 BX;replace hg1':=hg1'.ext e11;replace hg2:=hg2.ext e11;refine wpList_append_rat_at rfl _ _ 45 Tryz.underlying45 rfl rfl hg2 rfl BX hb3 (g5.ext e11) (g6.ext e11) (by have:=HLB.out; omega) ?_;rintro gr cr w12 gs hg2' hgs cj hos -;replace hg1':=int_grow hg2 hg1' cj hos;have e12:Ext w w12:=cj.ext (e9.trans e11) (by omega);have hG9:CelG N base w12 _ _ (l1 ++ [(k - 1,((1:Int):Rat))]):=⟨by rw [List.map_append]; exact hg1',by rw [List.length_append]; exact hg2'.congr (fun i hi=>cQ_snoc (z:=k - 1) rfl i)⟩
 replace hG9:=hG9.cel;rw [HE.out] at hG9;clear hg1' hg2 hg2' BX cj;go_wp2;go_ret2;exact⟨_,_,rfl,hG9,e12⟩
theorem f_compare {N:Nat} {w:World} {v v':Value} {x y:Rat} (h:RatV N w v x) (h':RatV N w v' y) (hz:Sz x) (hz':Sz y) :
  Calls Tryz.prog 60 #[v,v'] w (RetV w (.int .i64 (x.num*y.den - y.num*x.den).sign)):=by
 obtain⟨s,hs⟩:=hid_eq (x.num*y.den - y.num*x.den).sign;rw [←hs.out];have hI:=h;have hI':=h';have hN:=h.le;obtain⟨m1,X1,i1,d1,X2,i2,d2,rfl,hm1,gx1,gx2⟩:=h.parts;obtain⟨m2,Y1,i3,d3,Y2,i4,d4,rfl,hm2,gy1,gy2⟩:=h'.parts;have HZ:=Lib.hid hz;have HZ':=Lib.hid hz';clear hz hz' h h' gx1 gx2 gy1 gy2;go_enter Tryz.func60,Tryz.ntmps60;go_wp2;refine boxes2 ?_;intro W hE hsz B0 B1;obtain⟨a0,a1,a2,a3,-⟩:=cells4 B0;obtain⟨b0,b1,b2,b3,-⟩:=cells4 B1
 go_cut [] (fun wx=>∃ n1 A1 k1 c1 A2 k2 c2 n2 A3 k3 c3 A4 k4 c4,Ext w wx∧w.heap.size+2≤wx.heap.size∧wx.heap[w.heap.size]?=some (.cells #[.bool n1,.slice A1 k1 c1,.bool false,.slice A2 k2 c2] 29 (0,0))∧wx.heap[w.heap.size+1]?=some (.cells #[.bool n2,.slice A3 k3 c3,.bool false,.slice A4 k4 c4] 29 (0,0))∧Hid (n1=decide (x.num < 0))∧Hid (n2=decide (y.num < 0))∧Gs N wx (.slice A1 k1 c1) (dg x.num.natAbs)∧Gs N wx (.slice A2 k2 c2) (dg x.den)∧Gs N wx (.slice A3 k3 c3) (dg y.num.natAbs)∧Gs N wx (.slice A4 k4 c4) (dg y.den)∧w.heap.size+2≤wx.heap.size)
 case first =>
  have eC:=(Ext.refl W).drew
  go_region_with (first
   | (go_at_call_of 111 X1; refine (f_value (by exact hI.ext (hE.trans eC)) HZ.out).mono ?_; intro e w1 hh; obtain⟨n1,A1,k1,c1,A2,k2,c2,rfl,hb1,g1,g2,e1⟩:=hh.form; replace eC:=eC.trans e1; have C0:=eC.block B0; have C1:=eC.block B1; obtain⟨p0,p1,p2,p3,p4,p5,p6,p7⟩:=cells4 C0; obtain⟨q0,q1,q2,q3,q4,q5,q6,q7⟩:=cells4 C1)
   | (go_at_call_of 111 Y1; refine (f_value (by exact hI'.ext (hE.trans eC)) HZ'.out).mono ?_; intro e w2 hh; obtain⟨n2,A3,k3,c3,A4,k4,c4,rfl,hb2,g3,g4,e2⟩:=hh.form; replace eC:=eC.trans e2; have C0:=eC.block B0; have C1:=eC.block B1; obtain⟨p0,p1,p2,p3,p4,p5,p6,p7⟩:=cells4 C0; obtain⟨q0,q1,q2,q3,q4,q5,q6,q7⟩:=cells4 C1))
  all_goals
   go_wp2_with fail
   go_meet
   obtain⟨w3,E3,D0,U⟩:=ex4 C0 (.bool n1) (.slice A1 k1 c1) (.bool false) (.slice A2 k2 c2);rw [E3];obtain⟨w4,E4,D1,U'⟩:=ex4 (U.blk C1 (by omega)) (.bool n2) (.slice A3 k3 c3) (.bool false) (.slice A4 k4 c4);rw [E4];have hT0:=NoU.mk C0 (by decide);have hT1:=NoU.mk (U.blk C1 (by omega)) (by decide);refine⟨n1,A1,k1,c1,A2,k2,c2,n2,A3,k3,c3,A4,k4,c4,U'.ext (U.ext (hE.trans eC) (Nat.le_refl _)) (by omega),?_,U'.blk D0 (by omega),D1,hb1,hb2,((g1.ext e2).upd U (by omega) hT0).upd U' (by omega) hT1,((g2.ext e2).upd U (by omega) hT0).upd U' (by omega) hT1,(g3.upd U (by omega) hT0).upd U' (by omega) hT1,(g4.upd U (by omega) hT0).upd U' (by omega) hT1,(by rw [U'.size,U.size]; have:=eC.size; omega)⟩;rw [U'.size,U.size]; have:=eC.size; omega
 case rest =>
  clear a0 a1 a2 a3 b0 b1 b2 b3 B0 B1 hE hsz hI hI';obtain⟨n1,A1,k1,c1,A2,k2,c2,n2,A3,k3,c3,A4,k4,c4,hE,-,B0,B1,hb1,hb2,g1,g2,g3,g4,hsz⟩:=hcut;obtain⟨a0,a1,a2,a3,-⟩:=cells4 B0;obtain⟨b0,b1,b2,b3,-⟩:=cells4 B1;have eC:=(Ext.refl wc).drew;go_wp2
  go_region_held3 (fun w'=>(w'.cell? ⟨w.heap.size,0,none⟩=some (.bool n1)∧w'.cell? ⟨w.heap.size,1,none⟩=some (.slice A1 k1 c1)∧w'.cell? ⟨w.heap.size,2,none⟩=some (.bool false)∧w'.cell? ⟨w.heap.size,3,none⟩=some (.slice A2 k2 c2))∧(w'.cell? ⟨w.heap.size+1,0,none⟩=some (.bool n2)∧w'.cell? ⟨w.heap.size+1,1,none⟩=some (.slice A3 k3 c3)∧w'.cell? ⟨w.heap.size+1,2,none⟩=some (.bool false)∧w'.cell? ⟨w.heap.size+1,3,none⟩=some (.slice A4 k4 c4)))
   (first | exact⟨⟨a0,a1,a2,a3⟩,⟨b0,b1,b2,b3⟩⟩ | exact⟨⟨eC.cell a0,eC.cell a1,eC.cell a2,eC.cell a3⟩,⟨eC.cell b0,eC.cell b1,eC.cell b2,eC.cell b3⟩⟩ | exact⟨⟨cell_far _ (cell_far _ (cell_far _ (cell_far _ (eC.cell a0) (by omega)) (by omega)) (by omega)) (by omega),cell_far _ (cell_far _ (cell_far _ (cell_far _ (eC.cell a1) (by omega)) (by omega)) (by omega)) (by omega),cell_far _ (cell_far _ (cell_far _ (cell_far _ (eC.cell a2) (by omega)) (by omega)) (by omega)) (by omega),cell_far _ (cell_far _ (cell_far _ (cell_far _ (eC.cell a3) (by omega)) (by omega)) (by omega)) (by omega)⟩,⟨cell_far _ (cell_far _ (cell_far _ (cell_far _ (eC.cell b0) (by omega)) (by omega)) (by omega)) (by omega),cell_far _ (cell_far _ (cell_far _ (cell_far _ (eC.cell b1) (by omega)) (by omega)) (by omega)) (by omega),cell_far _ (cell_far _ (cell_far _ (cell_far _ (eC.cell b2) (by omega)) (by omega)) (by omega)) (by omega),cell_far _ (cell_far _ (cell_far _ (cell_far _ (eC.cell b3) (by omega)) (by omega)) (by omega)) (by omega)⟩⟩)
   (first
    | (go_at_call_of 113 A1; refine (i_mul (by exact num_intV hb1 (g1.ext eC)) (by exact den_intV (g4.ext eC)) (by have:=HZ.out.1; omega) (by rw [Int.natAbs_natCast]; have:=HZ'.out.2; omega)).mono ?_; rintro e w5 ⟨v5,rfl,h5,e5⟩; replace eC:=eC.trans e5)
    | (go_at_call_of 113 A3; refine (i_mul (by exact num_intV hb2 (g3.ext eC)) (by exact den_intV (g2.ext eC)) (by have:=HZ'.out.1; omega) (by rw [Int.natAbs_natCast]; have:=HZ.out.2; omega)).mono ?_; rintro e w6 ⟨v6,rfl,h6,e6⟩; replace eC:=eC.trans e6)
    | (go_at_call 112; refine (i_cmp (by exact h5.ext e6) (by exact h6)).mono ?_; rintro e w7 ⟨rfl,e7⟩; rw [←hs.out]; replace eC:=eC.trans e7))
  go_wp2;go_ret;exact⟨rfl,hE.trans eC⟩
end Go.Proofs.YtphpkhoeplcedaaGreat
namespace Go.Proofs.YtphpkhoeplcedaaGreat
def skip (i j:Nat):Nat:=if j < i then j else j+1
theorem skip_ne (i j:Nat):skip i j≠i:=by unfold skip; split <;> omega
theorem skip_lt {m i j:Nat} (h:j < m):skip i j < m+1:=by unfold skip; split <;> omega
theorem skip_onto {m i k:Nat} (hi:i < m+1) (hk:k < m+1) (hne:k≠i):∃ j,j < m∧skip i j=k:=by
 rcases Nat.lt_or_ge k i with h | h
 ·exact⟨k,by omega,by unfold skip; rw [if_pos h]⟩
 ·exact⟨k - 1,by omega,by unfold skip; rw [if_neg (by omega)]; omega⟩
theorem sum_skip {m i:Nat} (hi:i < m+1) (f:Nat→Rat):sum m (fun j=>f (skip i j))+f i=sum (m+1) f:=by
 induction m with
 | zero =>
  obtain rfl:i=0:=by omega
  simp only [sum]
 | succ m ih =>
  rcases Nat.lt_or_ge i (m+1) with h | h
  ·have h1:=ih h;rw [sum_succ (m+1) f,←h1,sum_succ];have e:skip i m=m+1:=by unfold skip; rw [if_neg (by omega)]
   rw [e]; grind
  ·obtain rfl:i=m+1:=by omega
   rw [sum_succ (m+1) f,sum_congr (g:=f) (fun j hj=>by unfold skip; rw [if_pos hj])]
variable {m n:Nat} {A M X M':Nat→Nat→Rat} {P:Nat→Rat} {p p':List Nat}
theorem falls_one (h:Model (m+1) n A M X P p) {i:Nat} (hi:i < m+1) (h':Rref m n (fun j c=>A (skip i j) c) M' p') (hlt:p'.length < p.length):hd A X P p i=1:=by
 obtain⟨y,⟨s0,hs0,hy0⟩,hy⟩:=steinitz (m:=m) (k:=p.length) (r:=p'.length) (V:=fun j s=>A (skip i j) (p[s]?.getD 0)) (U:=fun j t=>A (skip i j) (p'[t]?.getD 0)) (C:=fun t s=>M' t (p[s]?.getD 0))
  (fun s hs j hj=>cols_span h' hj (h.rr.low s hs)) hlt
 have hu:∀ k,av n A (spread p y) k=sum p.length (fun s=>A k (p[s]?.getD 0)*y s):=fun k=>av_spread h.rr y k
 have hz:∀ k,k < m+1→k≠i→av n A (spread p y) k=0:=by
  intro k hk hne;obtain⟨j,hj,rfl⟩:=skip_onto hi hk hne;rw [hu]; exact hy j hj
 have hnz:av n A (spread p y) i≠0:=by
  intro h0;refine hy0 (cols_free h.rr (y:=y) (fun k hk=>?_) s0 hs0);rw [←hu]
  by_cases hne:k=i
  ·rw [hne]; exact h0
  ·exact hz k hk hne
 have h1:=h.fix (spread p y) i hi;rw [sum_single hi (fun k hk hne=>by rw [hz k hk hne]; grind)] at h1;unfold hd
 generalize av n A (spread p y) i=u at *
 have h2:(gf A X p i i*P i - 1)*u=0:=by grind
 rcases Rat.mul_eq_zero.1 h2 with h3 | h3
 ·grind
 ·exact absurd h3 hnz
theorem one_falls (h:Model (m+1) n A M X P p) {i:Nat} (hi:i < m+1) (h':Rref m n (fun j c=>A (skip i j) c) M' p') (h1:hd A X P p i=1):p'.length < p.length:=by
 rcases Nat.lt_or_ge p'.length p.length with hlt | hge
 ·exact hlt
 ·exfalso
  have hgi:gf A X p i i≠0:=by
   intro h0; unfold hd at h1; rw [h0] at h1; exact absurd h1 (by simp)
  have hz:∀ k,k < m+1→k≠i→gf A X p i k=0:=by
   have h2:=h.sq i hi;rw [←sum_skip hi] at h2
   have h3:sum m (fun j=>P (skip i j)*(gf A X p i (skip i j)*gf A X p i (skip i j)))=0:=by
    have:P i*(gf A X p i i*gf A X p i i)=gf A X p i i:=by unfold hd at h1; grind
    grind
   have h4:=sum_pos_zero (fun j hj=>Rat.mul_nonneg (Rat.le_of_lt (h.pos _ (skip_lt hj))) (sq_nonneg _)) h3;intro k hk hne;obtain⟨j,hj,rfl⟩:=skip_onto hi hk hne;have h5:=h4 j hj;have h6:=h.pos _ (skip_lt (i:=i) hj)
   rcases Rat.mul_eq_zero.1 h5 with h7 | h7
   ·rw [h7] at h6; exact absurd h6 (by decide)
   ·exact sq_zero h7
  obtain⟨x,hx⟩:=h.col i
  obtain⟨y,⟨s0,hs0,hy0⟩,hy⟩:=steinitz (m:=m+1) (k:=p'.length+1) (r:=p.length) (V:=fun k s=>if s < p'.length then A k (p'[s]?.getD 0) else av n A x k) (U:=bas A p)
   (C:=fun t s=>if s < p'.length then M t (p'[s]?.getD 0) else sum n (fun c=>M t c*x c)) (by
    intro s hs k hk
    by_cases hsl:s < p'.length
    ·simp only [hsl,if_true]; exact cols_span h.rr hk (h'.low s hsl)
    ·simp only [hsl,if_false];unfold av
     have e:∀ c,c < n→A k c*x c=sum p.length (fun t=>bas A p k t*(M t c*x c)):=by
      intro c hc;rw [cols_span h.rr hk hc,←sum_mul_right];exact sum_congr fun t _=>by unfold bas; grind
     rw [sum_congr e,sum_comm]
     exact sum_congr fun t _=>sum_mul _ _ _) (by omega)
  have hsplit:∀ k,sum (p'.length+1) (fun s=>(if s < p'.length then A k (p'[s]?.getD 0) else av n A x k)*y s)=sum p'.length (fun s=>A k (p'[s]?.getD 0)*y s)+av n A x k*y p'.length:=by
   intro k;rw [sum_succ,sum_congr (g:=fun s=>A k (p'[s]?.getD 0)*y s) (fun s hs=>by rw [if_pos hs]),if_neg (Nat.lt_irrefl _)]
  have hys:∀ s,s < p'.length→y s=0:=by
   refine cols_free h' (fun j hj=>?_);have h2:=hy _ (skip_lt (i:=i) hj);rw [hsplit,←hx,h.symm,hz _ (skip_lt hj) (skip_ne i j)] at h2
   grind
  have hyl:y p'.length=0:=by
   have h2:=hy i hi;rw [hsplit,←hx,sum_eq_zero (fun s hs=>by rw [hys s hs]; grind)] at h2
   rcases Rat.mul_eq_zero.1 (show gf A X p i i*y p'.length=0 by grind) with h3 | h3
   ·exact absurd h3 hgi
   ·exact h3
  refine hy0 ?_
  rcases Nat.lt_or_ge s0 p'.length with h2 | h2
  ·exact hys s0 h2
  ·obtain rfl:s0=p'.length:=by omega
   exact hyl
theorem without_nsol {P L x:Nat→Rat} {i:Nat} (hi:i < m+1) (h:Nsol m n (fun j c=>A (skip i j) c) (fun j=>P (skip i j)) (fun j=>L (skip i j)) x) :
  Nsol (m+1) n A P (fun k=>if k=i then av n A x i else L k) x:=by
 rw [nsol_orth] at h ⊢;intro a ha;rw [←sum_skip hi];have h1:=h a ha
 have e:∀ j,A (skip i j) a*(P (skip i j)*(av n A x (skip i j) - if skip i j=i then av n A x i else L (skip i j)))=A (skip i j) a*(P (skip i j)*(av n (fun j c=>A (skip i j) c) x j - L (skip i j))):=by
  intro j; rw [if_neg (skip_ne i j)]; rfl
 simp only [e,h1,if_true]
 grind
theorem alone (h:Model (m+1) n A M X P p) {L x:Nat→Rat} {i:Nat} (hi:i < m+1) (hx:Nsol m n (fun j c=>A (skip i j) c) (fun j=>P (skip i j)) (fun j=>L (skip i j)) x) :
  (1 - hd A X P p i)*(av n A x i - L i)=sum (m+1) (fun j=>gf A X p i j*P j*L j) - L i:=by
 have h1:=fits_fit h.rr h.pos h.kx (without_nsol hi hx) i hi
 have e:∀ j,fits p.length (bas A p) X i j*P j*(if j=i then av n A x i else L j)=gf A X p i j*P j*L j+dlt i j*(gf A X p i j*P j*(av n A x i - L i)):=by
  intro j
  by_cases hj:j=i
  ·subst hj; rw [if_pos rfl,dlt_same]; unfold gf; grind
  ·rw [if_neg hj,dlt_ne (fun e=>hj e.symm)]; unfold gf; grind
 rw [sum_congr (fun j _=>e j),sum_add,sum_dlt hi (fun j=>gf A X p i j*P j*(av n A x i - L i))] at h1;unfold hd
 grind
theorem full_len {m n:Nat} {A:Nat→Nat→Rat} {P:Nat→Rat} (hP:∀ i,i < m→0 < P i):Reg n (nm m A P)↔(rref m A n).2.length=n:=by
 have hR:=rref_ok m A n
 constructor
 ·intro hK
  have hle:(rref m A n).2.length≤n:=by
   rcases Nat.lt_or_ge n (rref m A n).2.length with h9 | h9
   ·have h8:=inc_ge hR.inc n h9;have h7:=hR.low n h9;omega
   ·exact h9
  rcases Nat.lt_or_ge (rref m A n).2.length n with h2 | h2
  ·obtain⟨c,hc,hg⟩:=inc_gap hR.inc h2;have h4:=nul_null hR hc
   have h3:=hK (nul (rref m A n).1 (rref m A n).2 c) (fun a ha=>by
    rw [nm_av]
    exact sum_eq_zero fun k hk=>by
     have:av n A (nul (rref m A n).1 (rref m A n).2 c) k=0:=h4 k hk
     rw [this]; grind) c hc
   rw [nul_self hg] at h3;exact absurd h3 (by decide)
  ·omega
 ·intro hl;have hb:=bas_reg hR hP;have hp:=inc_all hR.inc hR.low hl;rw [hl] at hb;intro x hx c hc;refine hb x (fun i hi=>?_) c hc;rw [←hx i hi];refine sum_congr fun d hd=>?_
  congr 1
  exact sum_congr fun k _=>by unfold bas; rw [hp i hi,hp d hd]
def gq (n:Nat) (A Q:Nat→Nat→Rat) (i j:Nat):Rat:=sum n (fun s=>A i s*sum n (fun t=>Q s t*A j t))
theorem full_model {m n:Nat} {A Q:Nat→Nat→Rat} {P:Nat→Rat} (hP:∀ i,i < m→0 < P i) (h1:∀ i,i < n→∀ c,c < n→mm n (nm m A P) Q i c=dlt i c) (h2:∀ i,i < n→∀ c,c < n→mm n Q (nm m A P) i c=dlt i c) :
  Model m n A (rref m A n).1 Q P (rref m A n).2∧(rref m A n).2.length=n∧∀ i j,gf A Q (rref m A n).2 i j=gq n A Q i j:=by
 have hR:=rref_ok m A n
 have hK:Reg n (nm m A P):=by
  intro x hx c hc
  have e:sum n (fun i=>Q c i*sum n (fun d=>nm m A P i d*x d))=x c:=by
   rw [show sum n (fun i=>Q c i*sum n (fun d=>nm m A P i d*x d))=sum n (fun i=>sum n (fun d=>Q c i*nm m A P i d*x d)) from sum_congr fun i _=>by rw [←sum_mul]; exact sum_congr fun d _=>by grind,sum_comm];rw [show sum n (fun d=>sum n (fun i=>Q c i*nm m A P i d*x d))=sum n (fun d=>dlt c d*x d) from sum_congr fun d hd=>by rw [←h2 c hc d hd]; unfold mm; rw [sum_mul_right]];exact sum_dlt hc x
  rw [←e];exact sum_eq_zero fun i hi=>by rw [hx i hi]; grind
 have hl:=(full_len hP).1 hK;have hp:=inc_all hR.inc hR.low hl;have hb:∀ i,i < n→∀ j,j < n→nm m (bas A (rref m A n).2) P i j=nm m A P i j:=fun i hi j hj=>sum_congr fun k _=>by unfold bas; rw [hp i hi,hp j hj]
 refine⟨⟨hR,hP,fun i hi c hc=>?_,fun i hi c hc=>?_⟩,hl,fun i j=>?_⟩
 ·rw [hl] at hi hc ⊢;rw [←h1 i hi c hc];exact mm_congr (fun k hk=>hb i hi k hk) (fun _ _=>rfl)
 ·rw [hl] at hi hc ⊢;rw [←h2 i hi c hc];exact mm_congr (fun _ _=>rfl) (fun k hk=>hb k hk c hc)
 ·unfold gf fits gq;rw [hl]
  exact sum_congr fun s hs=>by
   unfold bas;rw [hp s hs]
   congr 1
   exact sum_congr fun t ht=>by rw [hp t ht]
def rdn (n:Nat) (A Q:Nat→Nat→Rat) (P:Nat→Rat) (i:Nat):Rat:=1 - P i*gq n A Q i i
theorem rdn_hd {m n:Nat} {A Q:Nat→Nat→Rat} {P:Nat→Rat} {p:List Nat} (h:∀ i j,gf A Q p i j=gq n A Q i j) (i:Nat):rdn n A Q P i=1 - hd A Q P p i:=by
 unfold rdn hd;rw [h];have:m=m:=rfl
 grind
structure Inv2 (m n:Nat) (A Q:Nat→Nat→Rat) (P:Nat→Rat):Prop where
 pos:∀ i,i < m→0 < P i
 kq:∀ i,i < n→∀ c,c < n→mm n (nm m A P) Q i c=dlt i c
 qk:∀ i,i < n→∀ c,c < n→mm n Q (nm m A P) i c=dlt i c
theorem Inv2.range {m n:Nat} {A Q:Nat→Nat→Rat} {P:Nat→Rat} (h:Inv2 m n A Q P) {i:Nat} (hi:i < m):0≤rdn n A Q P i∧rdn n A Q P i≤1:=by
 obtain⟨hM,-,hg⟩:=full_model h.pos h.kq h.qk;have:=hM.diag hi;rw [rdn_hd (m:=m) hg]
 constructor <;> grind
theorem Inv2.zero {m n:Nat} {A Q:Nat→Nat→Rat} {P:Nat→Rat} (h:Inv2 (m+1) n A Q P) {i:Nat} (hi:i < m+1):rdn n A Q P i=0↔¬ Reg n (nm m (fun j=>A (skip i j)) (fun j=>P (skip i j))):=by
 obtain⟨hM,hl,hg⟩:=full_model h.pos h.kq h.qk;have hP':∀ j,j < m→0 < P (skip i j):=fun j hj=>h.pos _ (skip_lt hj)
 have hR:Rref m n (fun j c=>A (skip i j) c) _ _:=rref_ok m (fun j=>A (skip i j)) n;rw [full_len hP',rdn_hd (m:=m) hg]
 have hle:(rref m (fun j=>A (skip i j)) n).2.length≤n:=by
  rcases Nat.lt_or_ge n (rref m (fun j=>A (skip i j)) n).2.length with h9 | h9
  ·have h8:=inc_ge hR.inc n h9;have h7:=hR.low n h9;omega
  ·exact h9
 constructor
 ·intro e hx;have:=one_falls hM hi hR (by grind);omega
 ·intro e;have:=falls_one hM hi hR (by omega)
  grind
theorem Inv2.alone {m n:Nat} {A Q:Nat→Nat→Rat} {P L x x':Nat→Rat} (h:Inv2 (m+1) n A Q P) {i:Nat} (hi:i < m+1) (hx:Nsol (m+1) n A P L x) (hx':Nsol m n (fun j c=>A (skip i j) c) (fun j=>P (skip i j)) (fun j=>L (skip i j)) x') :
  rdn n A Q P i*(av n A x' i - L i)=av n A x i - L i:=by
 obtain⟨hM,hl,hg⟩:=full_model h.pos h.kq h.qk;have h1:=Go.Proofs.YtphpkhoeplcedaaGreat.alone hM hi hx';have h2:=fits_fit hM.rr h.pos hM.kx hx i hi;rw [rdn_hd (m:=m) hg];rw [h1];unfold gf;rw [h2]
theorem sum_cs2 {m:Nat} {u a b:Nat→Rat} (hu:∀ k,k < m→0≤u k) (hB:0 < sum m (fun k=>u k*(b k*b k))) :
  sum m (fun k=>u k*(a k*b k))*sum m (fun k=>u k*(a k*b k))≤sum m (fun k=>u k*(a k*a k))*sum m (fun k=>u k*(b k*b k)):=by
 obtain⟨B,hBe⟩:∃ B,B=sum m (fun k=>u k*(b k*b k)):=⟨_,rfl⟩
 obtain⟨C,hCe⟩:∃ C,C=sum m (fun k=>u k*(a k*b k)):=⟨_,rfl⟩
 have h1:0≤sum m (fun k=>u k*((B*a k - C*b k)*(B*a k - C*b k))):=sum_nonneg fun k hk=>Rat.mul_nonneg (hu k hk) (sq_nonneg _)
 have h2:sum m (fun k=>u k*((B*a k - C*b k)*(B*a k - C*b k)))=B*B*sum m (fun k=>u k*(a k*a k)) - 2*B*C*sum m (fun k=>u k*(a k*b k))+C*C*sum m (fun k=>u k*(b k*b k)):=by
  rw [←sum_mul,←sum_mul,←sum_mul,←sum_sub,←sum_add];exact sum_congr fun k _=>by grind
 rw [←hBe,←hCe] at h2 ⊢;rw [←hBe] at hB;have h3:0≤B*(B*sum m (fun k=>u k*(a k*a k)) - C*C):=by rw [h2] at h1; grind
 rcases Rat.le_total (a:=C*C) (b:=sum m (fun k=>u k*(a k*a k))*B) with h | h
 ·exact h
 ·by_cases e:C*C=sum m (fun k=>u k*(a k*a k))*B
  ·rw [e]; exact Rat.le_refl
  ·have h4:0 < C*C - sum m (fun k=>u k*(a k*a k))*B:=by grind
   have h5:=Rat.mul_pos hB h4
   grind
theorem Inv2.cs {m n:Nat} {A Q:Nat→Nat→Rat} {P:Nat→Rat} (h:Inv2 m n A Q P) {i k:Nat} (hi:i < m) (hk:k < m) (hne:i≠k) (hri:rdn n A Q P i≠0) :
  P k*(gq n A Q k i*gq n A Q k i)*P i≤rdn n A Q P i*rdn n A Q P k:=by
 obtain⟨hM,hl,hg⟩:=full_model h.pos h.kq h.qk
 let e:Nat→Nat→Rat:=fun a j=>dlt a j - gq n A Q j a*P a
 have hsym:∀ a b,gq n A Q a b=gq n A Q b a:=fun a b=>by rw [←hg,←hg]; exact hM.symm a b
 have hidem:∀ a b,a < m→sum m (fun j=>gq n A Q a j*P j*gq n A Q j b)=gq n A Q a b:=fun a b ha=>by
  have:=hM.idem a b ha;simp only [hg] at this;exact this
 have key:∀ a b,a < m→b < m→sum m (fun j=>P j*(e a j*e b j))=P a*dlt a b - P a*P b*gq n A Q a b:=by
  intro a b ha hb
  have h1:sum m (fun j=>P j*(e a j*e b j))=sum m (fun j=>dlt a j*(P j*dlt b j)) - sum m (fun j=>dlt a j*(P j*gq n A Q j b*P b)) - sum m (fun j=>dlt b j*(P j*gq n A Q j a*P a))+P a*P b*sum m (fun j=>gq n A Q a j*P j*gq n A Q j b):=by
   rw [←sum_mul,←sum_sub,←sum_sub,←sum_add]
   exact sum_congr fun j _=>by
    show P j*((dlt a j - gq n A Q j a*P a)*(dlt b j - gq n A Q j b*P b))=_
    rw [hsym a j]; grind
  rw [h1,sum_dlt ha,sum_dlt ha,sum_dlt hb,hidem a b ha,hsym b a];have:dlt b a=dlt a b:=by unfold dlt; by_cases e:a=b <;> simp [e,eq_comm]
  rw [this]; grind
 have hpi:=h.pos i hi;have hpk:=h.pos k hk;have e1:=key i i hi hi;have e2:=key k k hk hk;have e3:=key k i hk hi;rw [dlt_same] at e1 e2;rw [dlt_ne (fun e=>hne e.symm)] at e3;have hr:=(h.range hi).1
 have hB:0 < sum m (fun j=>P j*(e i j*e i j)):=by
  rw [e1];have:P i*1 - P i*P i*gq n A Q i i=P i*rdn n A Q P i:=by unfold rdn; grind
  rw [this];exact Rat.mul_pos hpi (by grind)
 have hc:=sum_cs2 (u:=P) (a:=e k) (b:=e i) (m:=m) (fun j hj=>Rat.le_of_lt (h.pos j hj)) hB;rw [e1,e2,e3] at hc;have f1:(P k*1 - P k*P k*gq n A Q k k)*(P i*1 - P i*P i*gq n A Q i i)=P k*P i*(rdn n A Q P i*rdn n A Q P k):=by unfold rdn; grind
 have f2:(P k*0 - P k*P i*gq n A Q k i)*(P k*0 - P k*P i*gq n A Q k i)=P k*P i*(P k*(gq n A Q k i*gq n A Q k i)*P i):=by grind
 rw [f1,f2] at hc;have hpp:=Rat.mul_pos hpk hpi
 rcases Rat.le_total (a:=P k*(gq n A Q k i*gq n A Q k i)*P i) (b:=rdn n A Q P i*rdn n A Q P k) with h9 | h9
 ·exact h9
 ·by_cases e:P k*(gq n A Q k i*gq n A Q k i)*P i=rdn n A Q P i*rdn n A Q P k
  ·rw [e]; exact Rat.le_refl
  ·have h4:0 < P k*(gq n A Q k i*gq n A Q k i)*P i - rdn n A Q P i*rdn n A Q P k:=by grind
   have h5:=Rat.mul_pos hpp h4
   grind
theorem Inv2.fix {m n:Nat} {A Q:Nat→Nat→Rat} {P:Nat→Rat} (h:Inv2 m n A Q P) (x:Nat→Rat) {i:Nat} (hi:i < m):sum m (fun j=>gq n A Q i j*P j*av n A x j)=av n A x i:=by
 obtain⟨hM,hl,hg⟩:=full_model h.pos h.kq h.qk;rw [←hM.fix x i hi];exact sum_congr fun j _=>by rw [←hg]
def ext (n:Nat) (A Q:Nat→Nat→Rat) (P:Nat→Rat) (i j:Nat):Rat:=P i*sum n (fun t=>Q j t*A i t)
theorem Inv2.ext_nm {m n:Nat} {A Q:Nat→Nat→Rat} {P:Nat→Rat} (h:Inv2 m n A Q P) {i a:Nat} (ha:a < n):sum n (fun b=>nm m A P a b*ext n A Q P i b)=P i*A i a:=by
 unfold ext
 have e:sum n (fun b=>nm m A P a b*(P i*sum n (fun t=>Q b t*A i t)))=P i*sum n (fun t=>mm n (nm m A P) Q a t*A i t):=by
  rw [show sum n (fun b=>nm m A P a b*(P i*sum n (fun t=>Q b t*A i t)))=sum n (fun b=>sum n (fun t=>P i*(nm m A P a b*Q b t*A i t))) from sum_congr fun b _=>by
   rw [show nm m A P a b*(P i*sum n (fun t=>Q b t*A i t))=(P i*nm m A P a b)*sum n (fun t=>Q b t*A i t) from by grind,←sum_mul]
   exact sum_congr fun t _=>by grind,sum_comm]
  rw [←sum_mul];exact sum_congr fun t _=>by unfold mm; rw [sum_mul,←sum_mul_right]
 rw [e,show sum n (fun t=>mm n (nm m A P) Q a t*A i t)=sum n (fun t=>dlt a t*A i t) from sum_congr fun t ht=>by rw [h.kq a ha t ht],sum_dlt ha]
theorem Inv2.form {m n:Nat} {A Q:Nat→Nat→Rat} {P:Nat→Rat} (h:Inv2 m n A Q P) {i:Nat}:sum n (fun j=>ext n A Q P i j*sum n (fun t=>nm m A P j t*ext n A Q P i t))=P i*(1 - rdn n A Q P i):=by
 rw [show sum n (fun j=>ext n A Q P i j*sum n (fun t=>nm m A P j t*ext n A Q P i t))=sum n (fun j=>P i*P i*(A i j*sum n (fun t=>Q j t*A i t))) from sum_congr fun j hj=>by rw [h.ext_nm hj]; unfold ext; grind,sum_mul];unfold rdn gq
 grind
end Go.Proofs.YtphpkhoeplcedaaGreat
namespace Go.Proofs.YtphpkhoeplcedaaGreat
open Go.RowKit
def Mn.own (N lo m n:Nat) (X:Nat→Nat→Rat):Mn:=⟨fun v w=>∃ h cap β κ hi,v=.slice (some ⟨h,0,none⟩) m cap∧cap≤maxLen∧OwnM N lo hi w h cap m n β κ X,fun e h=>by
  obtain⟨h,cap,β,κ,hi,h0,h1,h2⟩:=h
  exact⟨h,cap,β,κ,hi,h0,h1,h2.ext e⟩⟩
theorem LsV.all {N lo hi:Nat} {w:World} {v:Value} {n:Nat} {x:Nat→Rat} (h:LsV N lo hi w v n x):LsV N 0 w.heap.size w v n x:=LsR.wide h (Nat.zero_le _) h.2.1 (Nat.le_refl _)
theorem MtV.all {N lo hi:Nat} {w:World} {v:Value} {m n:Nat} {X:Nat→Nat→Rat} (h:MtV N lo hi w v m n X):MtV N 0 w.heap.size w v m n X:=MtR.wide h (Nat.zero_le _) h.2.1 (Nat.le_refl _)
def Mn.l2 (N n:Nat) (x:Nat→Rat):Mn:=⟨fun v w=>∃ A c,v=.tuple #[.slice A n c,.int .i64 0]∧LsV N 0 w.heap.size w (.slice A n c) n x,fun e h=>by
  obtain⟨A,c,h0,h1⟩:=h
  exact⟨A,c,h0,LsV.all (h1.ext e)⟩⟩
def Mn.rc (N:Nat) (q:Rat):Mn:=⟨fun v w=>∃ u,v=.tuple #[u,.int .i64 0]∧RatV N w u q,fun e h=>by
  obtain⟨u,h0,h1⟩:=h
  exact⟨u,h0,h1.ext e⟩⟩
def zAt (G:Grd) (i j:Int):Int:=G.z (j*G.wd+i).toNat
def GBlk (w:World) (g:Nat) (G:Grd) (A:Option Addr) (c:Nat):Prop:=w.heap[g]?=some (.cells #[.int .i64 G.x0,.int .i64 G.y0,.int .i64 G.st,.int .i64 G.wd,.int .i64 G.ht,.slice A G.n c] 24 (0,0))
theorem zidx {G:Grd} {i j:Int} (hi0:0≤i) (hi1:i < G.wd) (hj0:0≤j) (hj1:j < G.ht) (hn:(G.n:Int)=G.wd*G.ht):0≤j*G.wd∧(j*G.wd+i).toNat < G.n∧j*G.wd+i < G.wd*G.ht:=by
 have h0:0≤j*G.wd:=Int.mul_nonneg hj0 (by omega);have h1:(j+1)*G.wd≤G.ht*G.wd:=Int.mul_le_mul_of_nonneg_right (by omega) (by omega);rw [Int.add_mul,Int.one_mul,Int.mul_comm G.ht] at h1;exact⟨h0,by omega,by omega⟩
theorem o_z {N lo hi gG:Nat} {w:World} {G:Grd} {A:Option Addr} {c:Nat} (hb:GBlk w gG G A c) (hz:IzV N lo hi w (.slice A G.n c) G.n G.z) {i j:Int} (hi0:0≤i) (hi1:i < G.wd) (hj0:0≤j) (hj1:j < G.ht) (hW:G.wd≤64) (hH:G.ht≤64) (hn:(G.n:Int)=G.wd*G.ht) :
  Calls Tryz.prog 102 #[.int .i64 i,.int .i64 j,.pointer (some ⟨gG,0,none⟩)] w (RetS w (.int .i64 (zAt G i j))):=by
 obtain⟨h0,h1,h2⟩:=zidx hi0 hi1 hj0 hj1 hn;have h3:G.wd*G.ht≤64*64:=Int.mul_le_mul hW hH (by omega) (by omega);obtain⟨b,off,rfl,hx⟩:=hz.addr (by omega);obtain⟨m,hm⟩:=hid_eq (j*G.wd+i).toNat;have p0:=hx m (by rw [hm.out]; exact h1);have HV:Hid (zAt G i j=G.z m):=by rw [Hid,hm.out]; rfl
 have hmi:(m:Int)=j*G.wd+i:=by rw [hm.out]; omega
 have hmn:m < G.n:=by rw [hm.out]; exact h1
 obtain⟨pr,hpr⟩:=hid_eq (j*G.wd);have hw1:IntKind.i64.wrap (j*G.wd)=pr:=by rw [hpr.out]; exact IntWalk.i64_in _ (by omega)
 have hw2:IntKind.i64.wrap (pr+i)=(m:Int):=by rw [hpr.out,hmi]; exact IntWalk.i64_in _ (by omega)
 have hcm:G.n≤4096:=by omega
 obtain⟨a0,a1,a2,a3,a4,a5⟩:=cells_g hb;rw [HV.out];obtain⟨zz,hzz⟩:=hid_eq (G.z m);rw [←hzz.out] at p0 ⊢;clear hx h0 h1 h2 h3 hm hmi hpr;go_enter Tryz.func102,Tryz.ntmps102;go_wp2;go_ret;exact⟨rfl,rfl⟩
def cmpQ (x y:Rat):Int:=(x.num*y.den - y.num*x.den).sign
def thR (G:Grd) (i j:Int) (r:Nat):Int:=if r=0 then zAt G (i+1) j else zAt G i (j+1)
def orR (a b:Rat) (r:Nat):Int:=if r=1 then -(cmpQ a b) else cmpQ a b
def fiR (a b:Rat) (r:Nat):Rat:=if r=0 then a else b
def seR (a b:Rat) (r:Nat):Rat:=if r=0 then b else a
def triF (G:Grd) (i j:Int) (a b:Rat) (r:Nat):Option Rat :=
 if 0≤orR a b r∧zAt G i j≠noneZ∧thR G i j r≠noneZ∧zAt G (i+1) (j+1)≠noneZ then
  some (((zAt G i j:Int):Rat)+fiR a b r*((thR G i j r - zAt G i j:Int):Rat)+seR a b r*((zAt G (i+1) (j+1) - thR G i j r:Int):Rat)) else none
def sqF (G:Grd) (p q:Int×Rat):Option Rat:=(triF G p.1 q.1 p.2 q.2 0).or (triF G p.1 q.1 p.2 q.2 1)
def rowF (G:Grd) (p:Int×Rat) (l:List (Int×Rat)):Option Rat:=l.findSome? (sqF G p)
def gridF (G:Grd) (l l':List (Int×Rat)):Option Rat:=l.findSome? (fun p=>rowF G p l')
def stepF (x:Rat) (x0 st:Int):Rat:=(x - (x0:Rat)) / (st:Rat)
def hgtF (G:Grd) (x y:Rat):Option Rat:=gridF G (celL (stepF x G.x0 G.st) G.wd) (celL (stepF y G.y0 G.st) G.ht)
structure GOk (G:Grd):Prop where
 w0:2≤G.wd
 w1:G.wd≤64
 h0:2≤G.ht
 h1:G.ht≤64
 s0:2≤G.st
 s1:G.st≤65536
 x0 : -1048576≤G.x0
 x1:G.x0≤1048576
 y0 : -1048576≤G.y0
 y1:G.y0≤1048576
 n:(G.n:Int)=G.wd*G.ht
 z:∀ k,k < G.n→G.z k=noneZ∨(-1048576≤G.z k∧G.z k≤1048576)
theorem far_le {z:Int} (h:farZ z=false) : -1048576≤z∧z≤1048576:=by
 unfold farZ at h;simp only [Bool.or_eq_false_iff,decide_eq_false_iff_not] at h;omega
theorem grd_ok {G:Grd} (h:grdCode G=0):GOk G:=by
 unfold grdCode at h
 split at h
 ·cases h
 ·rename_i hf
  split at h
  ·cases h
  ·rename_i hn
   split at h
   ·cases h
   ·rename_i hz
    have hf':frmB G=true:=by simpa using hf
    unfold frmB at hf';simp only [Bool.and_eq_true,decide_eq_true_eq,Bool.not_eq_true'] at hf';obtain⟨⟨⟨⟨⟨⟨a1,a2⟩,a3⟩,a4⟩,a5⟩,a6⟩,a7⟩:=hf';have b1:=side_le a1;have b2:=side_le a2;have b6:=far_le a6;have b7:=far_le a7;refine⟨b1.1,b1.2,b2.1,b2.2,a3,a4,b6.1,b6.2,b7.1,b7.2,by simpa using hn,fun k hk=>?_⟩;have hz':anyB G.n (fun i=>badZ (G.z i))=false:=by simpa using hz
    have:=anyB_false.1 hz' k hk;unfold badZ at this
    by_cases e:G.z k=noneZ
    ·exact .inl e
    ·rw [decide_eq_true e,Bool.true_and] at this;exact .inr (far_le this)
end Go.Proofs.YtphpkhoeplcedaaGreat
