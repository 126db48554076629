import Derived.Test.YtfmddpahhloleaaGreatWb12
set_option linter.all false
set_option maxHeartbeats 8000000
namespace Go.Proofs.YtfmddpahhloleaaGreat
open Go.RowKit
variable {w w':World} {N n lo hi k g i m base c b:Nat} {v:Value} {q:Rat} {R:Raw} {A:Option Addr}
theorem kH (b o j:Nat):(⟨b,o,none⟩:Addr).add j=⟨b,o+j,none⟩:=by
 unfold Addr.add; split
 ·rename_i e; subst e; rfl
 ·rfl
theorem Grow.empty (hN:N<=base) (hb:base<=g) (h:w.heap[g]?=some (.cells #[] 58 (0,0))) (x:Nat->Rat):Grow N base w (.slice (some ⟨g,0,none⟩) 0 0) 0 x :=
 ⟨hN,by have:=qG h; omega,.inr ⟨g,0,rfl,hb,Nat.zero_le _,by omega,q_r,⟨#[],h,rfl⟩,fun j hj=>by omega⟩⟩
theorem Grow.some {x:Nat->Rat} (h:Grow N base w v n x) (hn:0 < n):∃ g cap,v=.slice (some ⟨g,0,none⟩) n cap/\base<=g/\g < w.heap.size/\cap<=maxLen/\n<=cap/\zC N w g cap n x:=by
 obtain⟨h1,h2,⟨rfl,rfl⟩ | ⟨g,cap,rfl,hg,hm,hr⟩⟩:=h
 ·omega
 ·exact⟨g,cap,rfl,hg,hr.lt,hm,hr.2.1,hr⟩
theorem Grow.le {x:Nat->Rat} (h:Grow N base w v n x):N<=base/\base<=w.heap.size:=⟨h.1,h.2.1⟩
theorem yF {o:Oper} {a:Act} {K:Act->World->Prop} {Q:Exit->Act->World->Prop} (s x:Operand) (t:TypeId) (ht:Tryz.prog.underlying t=some (.slice 58))
  (ho:o.op=.call { callee:=.builtin .append,args:=#[s,x],argTypes:=#[t,t] }) {f:Nat->Rat} (hs:a.eval s=v) (h:Grow N base w v n f)
 (hx:a.eval x=.slice (some ⟨b,0,none⟩) 1 1) {neg:Bool} {s1 s2:Value} {fr:Nat×Nat} (hb:w.heap[b]?=some (.cells #[.bool neg,s1,.bool false,s2] 58 fr)) (hneg:Hid (neg=decide (q.num < 0))) (g1:Gs N w s1 (dg q.num.natAbs)) (g2:Gs N w s2 (dg q.den)) (hn:n < 1000000000)
  (hK:∀ g cap w',Grow N base w' (.slice (some ⟨g,0,none⟩) (n+1) cap) (n+1) (upd f n q)->(∃ g',base<=g'/\Chg g' (g'+1) w w'/\NoU w g')->g < w'.heap.size->K (a.put o.dst (.slice (some ⟨g,0,none⟩) (n+1) cap)) w'):o.wp Tryz.prog a w K Q:=by
 obtain⟨g,cap,w',hrun,h1,h2,h3⟩:=xC t o.type ht h hb hneg g1 g2 hn;unfold Oper.wp execOp;simp only [ho,resolve,invoke,builtin,Sem.run_bind,Sem.run_pure,Result.andThen_ok,List.map_toArray,List.map_cons,List.map_nil,hs,hx,hrun];exact hK g cap w' h1 h2 h3
theorem zT {ops:Array Oper} {rest:List Oper} {o:Oper} {a:Act} {Q:Exit->Act->World->Prop} (hgd:o.guard=none) (s x:Operand) (t:TypeId) (ht:Tryz.prog.underlying t=some (.slice 58))
  (ho:o.op=.call { callee:=.builtin .append,args:=#[s,x],argTypes:=#[t,t] }) {f:Nat->Rat} (hs:a.eval s=v) (h:Grow N base w v n f)
 (hx:a.eval x=.slice (some ⟨b,0,none⟩) 1 1) {neg:Bool} {s1 s2:Value} {fr:Nat×Nat} (hb:w.heap[b]?=some (.cells #[.bool neg,s1,.bool false,s2] 58 fr)) (hneg:Hid (neg=decide (q.num < 0))) (g1:Gs N w s1 (dg q.num.natAbs)) (g2:Gs N w s2 (dg q.den)) (hn:n < 1000000000)
  (hK:∀ g cap w',Grow N base w' (.slice (some ⟨g,0,none⟩) (n+1) cap) (n+1) (upd f n q)->(∃ g',base<=g'/\Chg g' (g'+1) w w'/\NoU w g')->g < w'.heap.size->wpList Tryz.prog ops Q rest (a.put o.dst (.slice (some ⟨g,0,none⟩) (n+1) cap)) w'):wpList Tryz.prog ops Q (o :: rest) a w :=
 wpList_plain hgd fun _ hK'=>yF s x t ht ho hs h hx hb hneg g1 g2 hn (fun g cap w' a1 a2 a3=>hK' _ _ (hK g cap w' a1 a2 a3))
theorem jy {ops:Array Oper} {o:Oper} {a:Act} {K:Act->World->Prop} {Q:Exit->Act->World->Prop} {E:Prop} (hgd:o.guard=none) (s x:Operand) (t:TypeId) (ht:Tryz.prog.underlying t=some (.slice 58))
  (ho:o.op=.call { callee:=.builtin .append,args:=#[s,x],argTypes:=#[t,t] }) {f:Nat->Rat} (hs:a.eval s=v) (h:Grow N base w v n f)
 (hx:a.eval x=.slice (some ⟨b,0,none⟩) 1 1) {neg:Bool} {s1 s2:Value} {fr:Nat×Nat} (hb:w.heap[b]?=some (.cells #[.bool neg,s1,.bool false,s2] 58 fr)) (hneg:Hid (neg=decide (q.num < 0))) (g1:Gs N w s1 (dg q.num.natAbs)) (g2:Gs N w s2 (dg q.den)) (hn:n < 1000000000)
  (hK:∀ g cap w',Grow N base w' (.slice (some ⟨g,0,none⟩) (n+1) cap) (n+1) (upd f n q)->(∃ g',base<=g'/\Chg g' (g'+1) w w'/\NoU w g')->g < w'.heap.size->K (a.put o.dst (.slice (some ⟨g,0,none⟩) (n+1) cap)) w') :
  if Region.wanted o (yielded ops a.tmps)=true then Oper.wp Tryz.prog o a w K Q else E:=by
 have hw:Region.wanted o (yielded ops a.tmps)=true:=by simp [Region.wanted,hgd]
 rw [if_pos hw];exact yF s x t ht ho hs h hx hb hneg g1 g2 hn hK
def cat (n:Nat) (x y:Nat->Rat) (j:Nat):Rat:=if j < n then x j else y (j - n)
theorem jC (t ty:TypeId) (ht:Tryz.prog.underlying t=some (.slice 58)) {x:Nat->Rat} (h:Grow N base w v n x)
  {sv:Value} {y:Nat->Rat} (hl:LsV N lo hi w sv m y) (hn:n+m < 1000000000) :
  ∃ v' w',(Builtin.append_ #[t,t] ty #[v,sv]).run Tryz.prog w=.ok v' w'/\Grow N base w' v' (n+m) (cat n x y)/\(∃ g',base<=g'/\Chg g' (g'+1) w w'/\NoU w g'):=by
 obtain⟨i0,hi0,hz0,hz1,hz2⟩:=info_parts xw;obtain⟨h1,h2,h3⟩:=h;obtain⟨A,c,rfl,hnc,hcm⟩:=hl.form;have hT:NoU w w.heap.size:=fun cs fr h=>by rw [Array.getElem?_eq_none (q_r)] at h; cases h
 rcases A with _ | ⟨b,off,el⟩
 ·
  have hm:m=0:=by
   rcases Nat.eq_zero_or_pos m with h0 | h0
   ·exact h0
   ·obtain⟨b,off,hA,_⟩:=hl.addr h0; cases hA
  subst hm;refine⟨v,w,?_,⟨h1,h2,?_⟩,⟨w.heap.size,h2,Chg.refl _ _ w,hT⟩⟩
  ·rcases h3 with ⟨rfl,rfl⟩ | ⟨g,cap,rfl,hg,hm,hr⟩
   ·simp [Builtin.append_,run_underlying ht,sizeOf,typeInfo,hi0,Builtin.lenOf,Builtin.firstCells]
   ·simp [Builtin.append_,run_underlying ht,sizeOf,typeInfo,hi0,Builtin.lenOf,Builtin.firstCells,hr.2.1,storeCells]
  ·rcases h3 with h3 | ⟨g,cap,hv,hg,hm,hr⟩
   ·exact .inl h3
   ·exact .inr ⟨g,cap,hv,hg,hm,hr.congr (fun j hj=>by unfold cat; rw [if_pos hj])⟩
 ·have hown:∃ xs,w.ownsRow base 58 4 v n xs/\∀ g k,v.ownBlock=some g->k < n*4->xs[k]?=w.cell? ⟨g,k,none⟩:=by
   rcases h3 with ⟨rfl,rfl⟩ | ⟨g,cap,rfl,hg,hm,hr⟩
   ·exact⟨[],⟨by simp,.inl ⟨rfl,rfl⟩⟩,fun g k hg hk=>by omega⟩
   ·obtain⟨xs,hx,hc⟩:=QC hr hm hg
    exact⟨xs,hx,fun g' k hg' hk=>by
     have:g=g':=by simpa [Value.ownBlock] using hg'
     subst this; exact hc k hk⟩
  obtain⟨xs,hown,hcell⟩:=hown
  have hsrc:∀ k,k < m*4->∃ u,w.cell? ((⟨b,off,el⟩:Addr).add k)=some u/\u.oneCell'=true:=by
   intro k hk;obtain⟨b',off',hA,-,-,hx⟩:=hl.addr (by omega);injection hA with hA
   injection hA with e1 e2 e3
   subst e1 e2 e3;rw [kH];obtain⟨A1,n1,c1,A2,n2,c2,p0,p1,p2,p3,-⟩:=(hx (k / 4) (by omega)).val;have hk4:k=k / 4*4+k % 4:=by omega
   have hr:k % 4=0\/k % 4=1\/k % 4=2\/k % 4=3:=by omega
   rcases hr with hr | hr | hr | hr
   ·rw [show off+k=off+k / 4*4 by omega]; exact⟨_,p0,rfl⟩
   ·rw [show off+k=off+k / 4*4+1 by omega]; exact⟨_,p1,rfl⟩
   ·rw [show off+k=off+k / 4*4+2 by omega]; exact⟨_,p2,rfl⟩
   ·rw [show off+k=off+k / 4*4+3 by omega]; exact⟨_,p3,rfl⟩
  let news:List Value:=(List.range (m*4)).map fun k=>(w.cell? ((⟨b,off,el⟩:Addr).add k)).getD undef
  have hnl:news.length=m*4:=by simp [news]
  have hnews:∀ j u,news[j]?=some u->w.cell? ((⟨b,off,el⟩:Addr).add j)=some u:=by
   intro j u hj
   have hjl:j < m*4:=by
    rcases Nat.lt_or_ge j (m*4) with h | h
    ·exact h
    ·rw [List.getElem?_eq_none (by omega)] at hj; cases hj
   obtain⟨u',hu',-⟩:=hsrc j hjl;simp only [news,List.getElem?_map,List.getElem?_range hjl,Option.map_some,Option.some.injEq] at hj;rw [hu'] at hj ⊢;simpa using hj
  have hone:∀ u∈news,u.oneCell'=true:=by
   intro u hu;obtain⟨k,hk,rfl⟩:=List.mem_map.1 hu;obtain⟨u',hu',h1⟩:=hsrc k (List.mem_range.1 hk);rw [hu']; exact h1
  obtain⟨v',w',hrun,ho,hgr,-,hat⟩:=run_append_own_at (P:=Tryz.prog) w base t ty 58 i0 _ 4 64 ht hi0 hz0 hz1 hz2 rfl (by omega) v n xs hown ⟨b,off,el⟩ m c news hnl hnews hone (by unfold maxLen; omega) (by omega) h2
  have hchg:∃ g',base<=g'/\Chg g' (g'+1) w w'/\NoU w g':=by
   rcases h3 with ⟨rfl,rfl⟩ | ⟨g0,cap0,rfl,hg,hm,hr⟩
   ·exact⟨w.heap.size,h2,zG hgr (fun k hk=>by simp [Value.ownBlock] at hk) hT,hT⟩
   ·exact⟨g0,hg,zG hgr (fun k hk=>by simpa [Value.ownBlock] using hk.symm) hr.noU,hr.noU⟩
  refine⟨v',w',hrun,⟨h1,q_l h2 hgr.size,?_⟩,hchg⟩
  rcases ho.2 with ⟨hv,h0⟩ | ⟨g,cap,cur,hv,hbg,hh,hnc',hcm',hcs,htk⟩
  ·exact .inl ⟨hv,h0⟩
  ·refine .inr ⟨g,cap,hv,hbg,hcm',?_⟩;obtain⟨g',hg',hc,hT'⟩:=hchg;have hNg:N<=g':=by omega
   have hx:∀ k,k < (n+m)*4->w'.cell? ⟨g,k,none⟩=(xs ++ news)[k]?:=by
    intro k hk;rw [qx hh,<-htk,List.getElem?_take,if_pos hk]; simp
   have hxl:xs.length=n*4:=hown.1;refine⟨by omega,hnc',⟨cur,hh,hcs⟩,fun j hj=>?_⟩
   by_cases hjn:j < n
   ·unfold cat;rw [if_pos hjn]
    rcases h3 with ⟨rfl,rfl⟩ | ⟨g0,cap0,rfl,hg,hm,hr⟩
    ·omega
    ·obtain⟨s',t',d0,d1,d2,d3,g1,g2⟩:=hr.2.2.2 j (by omega)
     have hy:∀ k,k < n*4->w'.cell? ⟨g,k,none⟩=w.cell? ⟨g0,k,none⟩:=fun k hk=>by
      rw [hx k (by omega),List.getElem?_append_left (by omega),hcell g0 k rfl hk]
     exact⟨s',t',(hy _ (by omega)).trans d0,(hy _ (by omega)).trans d1,(hy _ (by omega)).trans d2,(hy _ (by omega)).trans d3,g1.chg hc hNg,g2.chg hc hNg⟩
   ·unfold cat;rw [if_neg hjn];obtain⟨b',off',hA,-,-,hxx⟩:=hl.addr (by omega);injection hA with hA
    injection hA with e1 e2 e3
    subst e1 e2 e3;obtain⟨s',t',d0,d1,d2,d3,g1,g2⟩:=hxx (j - n) (by omega)
    have hy:∀ k,n*4<=k->k < (n+m)*4->w'.cell? ⟨g,k,none⟩=w.cell? ⟨b,off+(k - n*4),none⟩:=fun k hk1 hk2=>by
     have hlt:k - n*4 < m*4:=by omega
     rw [hx k hk2,List.getElem?_append_right (by omega),hxl];obtain⟨u',hu',-⟩:=hsrc (k - n*4) hlt;simp only [news,List.getElem?_map,List.getElem?_range hlt,Option.map_some];rw [hu',<-kH,hu']; rfl
    refine⟨s',t',?_,?_,?_,?_,g1.chg hc hNg,g2.chg hc hNg⟩
    ·rw [hy _ (by omega) (by omega),show off+(j*4 - n*4)=off+(j - n)*4 by omega]; exact d0
    ·rw [hy _ (by omega) (by omega),show off+(j*4+1 - n*4)=off+(j - n)*4+1 by omega]; exact d1
    ·rw [hy _ (by omega) (by omega),show off+(j*4+2 - n*4)=off+(j - n)*4+2 by omega]; exact d2
    ·rw [hy _ (by omega) (by omega),show off+(j*4+3 - n*4)=off+(j - n)*4+3 by omega]; exact d3
theorem Z9 {o:Oper} {a:Act} {K:Act->World->Prop} {Q:Exit->Act->World->Prop} (s x:Operand) (t:TypeId) (ht:Tryz.prog.underlying t=some (.slice 58))
  (ho:o.op=.call { callee:=.builtin .append,args:=#[s,x],argTypes:=#[t,t] }) {f:Nat->Rat} (hs:a.eval s=v) (h:Grow N base w v n f)
  {sv:Value} {y:Nat->Rat} (hx:a.eval x=sv) (hl:LsV N lo hi w sv m y) (hn:n+m < 1000000000)
  (hK:∀ A' c' w',Grow N base w' (.slice A' (n+m) c') (n+m) (cat n f y)->(∃ g',base<=g'/\Chg g' (g'+1) w w'/\NoU w g')->K (a.put o.dst (.slice A' (n+m) c')) w'):o.wp Tryz.prog a w K Q:=by
 obtain⟨v',w',hrun,h1,h2⟩:=jC t o.type ht h hl hn;unfold Oper.wp execOp;simp only [ho,resolve,invoke,builtin,Sem.run_bind,Sem.run_pure,Result.andThen_ok,List.map_toArray,List.map_cons,List.map_nil,hs,hx,hrun];obtain⟨A',c',rfl,-⟩:=h1.form;exact hK A' c' w' h1 h2
theorem xm {ops:Array Oper} {rest:List Oper} {o:Oper} {a:Act} {Q:Exit->Act->World->Prop} (hgd:o.guard=none) (s x:Operand) (t:TypeId) (ht:Tryz.prog.underlying t=some (.slice 58))
  (ho:o.op=.call { callee:=.builtin .append,args:=#[s,x],argTypes:=#[t,t] }) {f:Nat->Rat} (hs:a.eval s=v) (h:Grow N base w v n f)
  {sv:Value} {y:Nat->Rat} (hx:a.eval x=sv) (hl:LsV N lo hi w sv m y) (hn:n+m < 1000000000)
  (hK:∀ A' c' w',Grow N base w' (.slice A' (n+m) c') (n+m) (cat n f y)->(∃ g',base<=g'/\Chg g' (g'+1) w w'/\NoU w g')->wpList Tryz.prog ops Q rest (a.put o.dst (.slice A' (n+m) c')) w'):wpList Tryz.prog ops Q (o :: rest) a w :=
 wpList_plain hgd fun _ hK'=>Z9 s x t ht ho hs h hx hl hn (fun A' c' w' a1 a2=>hK' _ _ (hK A' c' w' a1 a2))
def zI (N lo hi:Nat) (w:World) (v:Value) (m n:Nat) (A:Nat->Nat->Rat):Prop :=
 N<=lo/\lo<=hi/\hi<=w.heap.size/\((v=.slice none 0 0/\m=0)\/∃ h cap β κ,v=.slice (some ⟨h,0,none⟩) m cap/\cap<=maxLen/\zu N lo hi w h cap m n β κ A)
section
variable {N lo hi:Nat} {w w':World} {v:Value} {m n:Nat} {A:Nat->Nat->Rat}
theorem zI.nil (h1:N<=lo) (h2:lo<=hi) (h3:hi<=w.heap.size) (A:Nat->Nat->Rat):zI N lo hi w (.slice none 0 0) 0 n A:=⟨h1,h2,h3,.inl ⟨rfl,rfl⟩⟩
theorem zI.empty (hN:N<=lo) (hb:lo<=g) (hg:g < hi) (hs:hi<=w.heap.size) (h:w.heap[g]?=some (.cells #[] 24 (0,0))) (A:Nat->Nat->Rat):zI N lo hi w (.slice (some ⟨g,0,none⟩) 0 0) 0 n A :=
 ⟨hN,by omega,hs,.inr ⟨g,0,fun _=>0,fun _=>0,rfl,Nat.zero_le _,⟨hN,⟨#[],h,rfl,fun i hi=>by omega⟩,q_r,hb,hg,hs,fun i hi=>by omega,fun i hi=>by omega,fun i hi=>by omega,fun i hi=>by omega,fun i j hi=>by omega⟩⟩⟩
theorem zI.ext (h:zI N lo hi w v m n A) (e:Ext w w'):zI N lo hi w' v m n A:=by
 obtain⟨h1,h2,h3,h4⟩:=h;refine⟨h1,h2,q_l h3 e.size,?_⟩
 rcases h4 with h4 | ⟨h,cap,β,κ,hv,hc,ho⟩
 ·exact .inl h4
 ·exact .inr ⟨h,cap,β,κ,hv,hc,ho.ext e⟩
theorem zI.chg (h:zI N lo hi w v m n A) {l u:Nat} (c:Chg l u w w') (hN:N<=l) (hd:hi<=l\/u<=lo):zI N lo hi w' v m n A:=by
 obtain⟨h1,h2,h3,h4⟩:=h;refine⟨h1,h2,q_l h3 c.size,?_⟩
 rcases h4 with h4 | ⟨h,cap,β,κ,hv,hc,ho⟩
 ·exact .inl h4
 ·exact .inr ⟨h,cap,β,κ,hv,hc,ho.chg c hN hd⟩
theorem zI.wide (h:zI N lo hi w v m n A) {hi':Nat} (h1:hi<=hi') (h2:hi'<=w.heap.size):zI N lo hi' w v m n A:=by
 obtain⟨a1,a2,a3,h4⟩:=h;refine⟨a1,by omega,h2,?_⟩
 rcases h4 with h4 | ⟨h,cap,β,κ,hv,hc,ho⟩
 ·exact .inl h4
 ·exact .inr ⟨h,cap,β,κ,hv,hc,ho.wide (q_r) a1 h1 h2⟩
theorem zI.congr {B:Nat->Nat->Rat} (h:zI N lo hi w v m n A) (he:∀ i,i < m->∀ j,j < n->A i j=B i j):zI N lo hi w v m n B:=by
 obtain⟨a1,a2,a3,h4⟩:=h;refine⟨a1,a2,a3,?_⟩
 rcases h4 with h4 | ⟨h,cap,β,κ,hv,hc,ho⟩
 ·exact .inl h4
 ·exact .inr ⟨h,cap,β,κ,hv,hc,ho.congr he⟩
theorem zI.form (h:zI N lo hi w v m n A):∃ A c,v=.slice A m c/\m<=c:=by
 obtain⟨-,-,-,⟨rfl,rfl⟩ | ⟨h,cap,β,κ,rfl,-,ho⟩⟩:=h
 ·exact⟨_,_,rfl,q_r⟩
 ·exact⟨_,_,rfl,ho.mle⟩
theorem zI.own (h:zI N lo hi w v m n A) (hm:0 < m):∃ h cap β κ,v=.slice (some ⟨h,0,none⟩) m cap/\cap<=maxLen/\zu N lo hi w h cap m n β κ A:=by
 obtain⟨-,-,-,⟨rfl,rfl⟩ | ⟨h,cap,β,κ,rfl,hc,ho⟩⟩:=h
 ·omega
 ·exact⟨h,cap,β,κ,rfl,hc,ho⟩
theorem zI.mtv (h:zI N lo hi w v m n A):MtV N lo hi w v m n A:=by
 obtain⟨a1,a2,a3,⟨rfl,rfl⟩ | ⟨h,cap,β,κ,rfl,hc,ho⟩⟩:=h
 ·exact⟨by omega,a3,none,0,rfl,q_r,Nat.zero_le _,fun h=>absurd h (by omega)⟩
 ·exact ho.mtv ho.mle hc
theorem yc (t ty:TypeId) (ht:Tryz.prog.underlying t=some (.slice 24)) (h:zI N lo hi w v m n A) {cap:Nat} {x:Nat->Rat} (hr:zC N w b cap n x) (hb:hi<=b) (hcm:cap<=maxLen)
  {bx:Nat} {fr:Nat×Nat} (hbx:w.heap[bx]?=some (.cells #[.slice (some ⟨b,0,none⟩) n cap] 24 fr)) (hm:m < 1000000000) :
  ∃ h' cap' w',(Builtin.append_ #[t,t] ty #[v,.slice (some ⟨bx,0,none⟩) 1 1]).run Tryz.prog w=.ok (.slice (some ⟨h',0,none⟩) (m+1) cap') w'/\zI N lo w'.heap.size w' (.slice (some ⟨h',0,none⟩) (m+1) cap') (m+1) n (xK A m x)/\(∃ g',lo<=g'/\Chg g' (g'+1) w w'/\NoU w g'):=by
 obtain⟨i0,hi0,hz0,hz1,hz2⟩:=info_parts KI;obtain⟨h1,h2,h3,h4⟩:=h;have hT:NoU w w.heap.size:=fun cs fr h=>by rw [Array.getElem?_eq_none (q_r)] at h; cases h
 have hown:∃ xs,w.ownsRow lo 24 1 v m xs:=by
  rcases h4 with ⟨rfl,rfl⟩ | ⟨h,cap,β,κ,rfl,hc,ho⟩
  ·exact⟨[],by simp,.inl ⟨rfl,rfl⟩⟩
  ·obtain⟨hs,a1,a2,a3⟩:=ho.hh;have:=ho.mle;exact⟨hs.toList.take (m*1),by rw [List.length_take]; simp; omega,.inr ⟨h,cap,hs,rfl,ho.hlo,a1,ho.mle,hc,by omega,rfl⟩⟩
 obtain⟨xs,hown⟩:=hown
 obtain⟨g,cap',w',hrun,ho',hgr,hat,hlt⟩:=run_append_lies (P:=Tryz.prog) w t ty lo 24 i0 _ 1 24 ht hi0 hz0 hz1 hz2 rfl (by omega) v m xs hown ⟨bx,0,none⟩ 1 1 [.slice (some ⟨b,0,none⟩) n cap] rfl
  (fun j u hj=>by
   rw [kH,Nat.zero_add,qx hbx]
   simpa using hj)
  (fun u hu=>by simp at hu; subst hu; rfl) (by omega) (by unfold maxLen; omega) (by omega) (by omega) w.heap.size rfl
 have hchg:∃ g',lo<=g'/\Chg g' (g'+1) w w'/\NoU w g'/\(∀ cs,w.heap[g']?≠some (.cells cs 58 (0,0))):=by
  rcases h4 with ⟨rfl,rfl⟩ | ⟨h,cap,β,κ,rfl,hc,ho⟩
  ·exact⟨w.heap.size,by omega,zG hgr (fun k hk=>by simp [Value.ownBlock] at hk) hT,hT,fun cs h=>by rw [Array.getElem?_eq_none (q_r)] at h; cases h⟩
  ·refine⟨h,ho.hlo,zG hgr (fun k hk=>by simpa [Value.ownBlock] using hk.symm) ho.noU,ho.noU,fun cs hcs=>?_⟩;obtain⟨hs,a1,-,-⟩:=ho.hh;rw [a1] at hcs;injection hcs with hcs
   injection hcs with _ hcs
   exact absurd hcs (by decide)
 obtain⟨g',hg',hc',hT',hty⟩:=hchg;refine⟨g,cap',w',hrun,?_,g',hg',hc',hT'⟩
 rcases ho'.2 with ⟨h,_⟩ | ⟨g2,cap2,cur,hv,hbg,hh,hnc,hcm',hcs,htk⟩
 ·cases h
 ·injection hv with e1 _ e3
  injection e1 with e1
  injection e1 with e1 _
  subst e1 e3
  have hrow:∀ {b k x},zC N w b k n x->zC N w' b k n x:=fun {b k x} hr=>by
   refine hr.chg hc' (by omega) ?_
   have:b≠g':=by
    rintro rfl;obtain⟨-,-,⟨cs,h5,-⟩,-⟩:=hr;exact hty cs h5
   omega
  have hxl:xs.length=m:=by have:=hown.1; omega
  have hx:∀ k,k < m+1->cur[k]?=(xs ++ [.slice (some ⟨b,0,none⟩) n cap])[k]?:=by
   intro k hk;rw [<-htk,List.getElem?_take,if_pos (by omega)]; simp
  have hbl:=(hrow hr).lt;have hsz:=hgr.size;refine⟨h1,by omega,q_r,?_⟩
  rcases h4 with ⟨rfl,rfl⟩ | ⟨h,cap0,β,κ,rfl,hc,ho⟩
  ·refine .inr ⟨g,cap',fun _=>b,fun _=>cap,rfl,hcm',⟨h1,⟨cur,hh,by omega,fun i hi'=>?_⟩,by omega,hbg,by omega,q_r,fun i _=>by omega,fun i _=>hbl,fun i _=>hcm,fun i hi'=>?_,fun i j hi' hj' hij=>by omega⟩⟩
   ·rw [hx i (by omega),List.getElem?_append_right (by omega),show i - xs.length=0 by omega]; rfl
   ·obtain rfl:i=0:=by omega
    rw [xJ]; exact hrow hr
  ·obtain⟨hs,a1,a2,a3⟩:=ho.hh;have hme:=ho.mle
   have hxs:xs=hs.toList.take (m*1):=by
    rcases hown.2 with ⟨h9,_⟩ | ⟨g9,c9,cur9,hv9,_,hh9,_,_,_,ht9⟩
    ·cases h9
    ·have e1:h=g9:=Option.some.inj (congrArg Value.ownBlock hv9);clear hv9;subst e1;rw [a1] at hh9;have e2:hs=cur9:=congrArg (fun o:Option Obj=>match o with | some (.cells c _ _)=>c | _=>#[]) hh9;subst e2;exact ht9.symm
   refine .inr ⟨g,cap',fun i=>if i=m then b else β i,fun i=>if i=m then cap else κ i,rfl,hcm',⟨h1,⟨cur,hh,by omega,fun i hi'=>?_⟩,by omega,hbg,by omega,q_r,fun i hi'=>?_,fun i hi'=>?_,fun i hi'=>?_,fun i hi'=>?_,fun i j hi' hj' hij=>?_⟩⟩
   ·by_cases him:i=m
    ·subst him;rw [hx i (by omega),List.getElem?_append_right (by omega),show i - xs.length=0 by omega]
     simp
    ·rw [hx i (by omega),List.getElem?_append_left (by omega),hxs,List.getElem?_take,if_pos (by omega)];simp only [him,if_false];have h8:=a3 i (by omega);rw [Array.getElem?_toList];exact h8
   ·by_cases him:i=m
    ·simp only [him,if_true]; omega
    ·simp only [him,if_false]; exact ho.lo_ i (by omega)
   ·by_cases him:i=m
    ·simp only [him,if_true]; exact hbl
    ·simp only [him,if_false]; have:=ho.hi_ i (by omega); omega
   ·by_cases him:i=m
    ·simp only [him,if_true]; exact hcm
    ·simp only [him,if_false]; exact ho.cap i (by omega)
   ·by_cases him:i=m
    ·simp only [him,if_true]; rw [xJ]; exact hrow hr
    ·simp only [him,if_false]; rw [Jh A x him]; exact hrow (ho.row i (by omega))
   ·by_cases him:i=m
    ·have hjm:j≠m:=by omega
     simp only [him,hjm,if_true,if_false];have:=ho.hi_ j (by omega);omega
    ·by_cases hjm:j=m
     ·simp only [him,hjm,if_true,if_false];have:=ho.hi_ i (by omega);omega
     ·simp only [him,hjm,if_false];exact ho.inj i j (by omega) (by omega) hij
end
theorem yE {A:Nat->Nat->Rat} {o:Oper} {a:Act} {K:Act->World->Prop} {Q:Exit->Act->World->Prop} (s x:Operand) (t:TypeId) (ht:Tryz.prog.underlying t=some (.slice 24))
  (ho:o.op=.call { callee:=.builtin .append,args:=#[s,x],argTypes:=#[t,t] }) (hs:a.eval s=v) (h:zI N lo hi w v m n A) {bx:Nat} (hx:a.eval x=.slice (some ⟨bx,0,none⟩) 1 1) {cap:Nat} {f:Nat->Rat} (hr:zC N w b cap n f) (hb:hi<=b) (hcm:cap<=maxLen)
  {fr:Nat×Nat} (hbx:w.heap[bx]?=some (.cells #[.slice (some ⟨b,0,none⟩) n cap] 24 fr)) (hm:m < 1000000000)
  (hK:∀ h' cap' w',zI N lo w'.heap.size w' (.slice (some ⟨h',0,none⟩) (m+1) cap') (m+1) n (xK A m f)->(∃ g',lo<=g'/\Chg g' (g'+1) w w'/\NoU w g')->K (a.put o.dst (.slice (some ⟨h',0,none⟩) (m+1) cap')) w'):o.wp Tryz.prog a w K Q:=by
 obtain⟨h',cap',w',hrun,h1,h2⟩:=yc t o.type ht h hr hb hcm hbx hm;unfold Oper.wp execOp;simp only [ho,resolve,invoke,builtin,Sem.run_bind,Sem.run_pure,Result.andThen_ok,List.map_toArray,List.map_cons,List.map_nil,hs,hx,hrun];exact hK h' cap' w' h1 h2
theorem Qv {A:Nat->Nat->Rat} {ops:Array Oper} {o:Oper} {a:Act} {K:Act->World->Prop} {Q:Exit->Act->World->Prop} {E:Prop} (hgd:o.guard=none) (s x:Operand) (t:TypeId) (ht:Tryz.prog.underlying t=some (.slice 24))
  (ho:o.op=.call { callee:=.builtin .append,args:=#[s,x],argTypes:=#[t,t] }) (hs:a.eval s=v) (h:zI N lo hi w v m n A) {bx:Nat} (hx:a.eval x=.slice (some ⟨bx,0,none⟩) 1 1) {cap:Nat} {f:Nat->Rat} (hr:zC N w b cap n f) (hb:hi<=b) (hcm:cap<=maxLen)
  {fr:Nat×Nat} (hbx:w.heap[bx]?=some (.cells #[.slice (some ⟨b,0,none⟩) n cap] 24 fr)) (hm:m < 1000000000)
  (hK:∀ h' cap' w',zI N lo w'.heap.size w' (.slice (some ⟨h',0,none⟩) (m+1) cap') (m+1) n (xK A m f)->(∃ g',lo<=g'/\Chg g' (g'+1) w w'/\NoU w g')->K (a.put o.dst (.slice (some ⟨h',0,none⟩) (m+1) cap')) w') :
  if Region.wanted o (yielded ops a.tmps)=true then Oper.wp Tryz.prog o a w K Q else E:=by
 have hw:Region.wanted o (yielded ops a.tmps)=true:=by simp [Region.wanted,hgd]
 rw [if_pos hw];exact yE s x t ht ho hs h hx hr hb hcm hbx hm hK
theorem kK {A:Nat->Nat->Rat} {ops:Array Oper} {rest:List Oper} {o:Oper} {a:Act} {Q:Exit->Act->World->Prop} (hgd:o.guard=none) (s x:Operand) (t:TypeId) (ht:Tryz.prog.underlying t=some (.slice 24))
  (ho:o.op=.call { callee:=.builtin .append,args:=#[s,x],argTypes:=#[t,t] }) (hs:a.eval s=v) (h:zI N lo hi w v m n A) {bx:Nat} (hx:a.eval x=.slice (some ⟨bx,0,none⟩) 1 1) {cap:Nat} {f:Nat->Rat} (hr:zC N w b cap n f) (hb:hi<=b) (hcm:cap<=maxLen)
  {fr:Nat×Nat} (hbx:w.heap[bx]?=some (.cells #[.slice (some ⟨b,0,none⟩) n cap] 24 fr)) (hm:m < 1000000000)
  (hK:∀ h' cap' w',zI N lo w'.heap.size w' (.slice (some ⟨h',0,none⟩) (m+1) cap') (m+1) n (xK A m f)->(∃ g',lo<=g'/\Chg g' (g'+1) w w'/\NoU w g')->wpList Tryz.prog ops Q rest (a.put o.dst (.slice (some ⟨h',0,none⟩) (m+1) cap')) w'):wpList Tryz.prog ops Q (o :: rest) a w :=
 wpList_plain hgd fun _ hK'=>yE s x t ht ho hs h hx hr hb hcm hbx hm (fun h' cap' w' a1 a2=>hK' _ _ (hK h' cap' w' a1 a2))
def kU (N:Nat) (w:World) (m n:Nat) (A:Nat->Nat->Rat) (e:Ending) (w':World):Prop:=∃ h cap β κ,e=.returned (.slice (some ⟨h,0,none⟩) m cap)/\cap<=maxLen/\zu N w.heap.size w'.heap.size w' h cap m n β κ A/\Ext w w'
def q2R (N:Nat) (w:World) (n:Nat) (x:Nat->Rat) (e:Ending) (w':World):Prop:=∃ A c,e=.returned (.slice A n c)/\LsV N w.heap.size w'.heap.size w' (.slice A n c) n x/\Ext w w'
def q1g (N:Nat) (w:World) (m n:Nat) (X:Nat->Nat->Rat) (e:Ending) (w':World):Prop:=∃ A c,e=.returned (.slice A m c)/\MtV N w.heap.size w'.heap.size w' (.slice A m c) m n X/\Ext w w'
theorem kU.mt {A:Nat->Nat->Rat} {e:Ending} (h:kU N w m n A e w'):q1g N w m n A e w':=by
 obtain⟨h,cap,β,κ,he,hc,ho,hx⟩:=h;exact⟨_,_,he,ho.mtv ho.mle hc,hx⟩
theorem kU.congr {A B:Nat->Nat->Rat} {e:Ending} (h:kU N w m n A e w') (he:∀ i,i < m->∀ j,j < n->A i j=B i j):kU N w m n B e w':=by
 obtain⟨h,cap,β,κ,h1,hc,ho,hx⟩:=h;exact⟨h,cap,β,κ,h1,hc,ho.congr he,hx⟩
theorem At4.open {o:Nat} (h:At4 N w b o (raw q)):∃ (B:Bool) (A:Option Addr) (n c:Nat) (A':Option Addr) (n' c':Nat),w.cell? ⟨b,o,none⟩=some (.bool B)/\w.cell? ⟨b,o+1,none⟩=some (.slice A n c)/\w.cell? ⟨b,o+2,none⟩=some (.bool false)/\w.cell? ⟨b,o+3,none⟩=some (.slice A' n' c')/\Hid (B=decide (q.num < 0))/\Gs N w (.slice A n c) (dg q.num.natAbs)/\Gs N w (.slice A' n' c') (dg q.den):=by
 obtain⟨s,t,h0,h1,h2,h3,g1,g2⟩:=h;obtain⟨A,n,c,rfl,-,-,-⟩:=g1.form;obtain⟨A',n',c',rfl,-,-,-⟩:=g2.form;exact⟨_,A,n,c,A',n',c',h0,h1,h2,h3,rfl,g1,g2⟩
theorem yB {F:World->Prop} {o0:Obj} (h:∀ w1,Ext w w1->w.heap.size+1<=w1.heap.size->w1.heap[w.heap.size]?=some o0->F w1):F (w.alloc o0).drew:=by
 refine h _ ((Ext.refl w).alloc _).drew ?_ (heap_alloc_new w o0);have:=(qo (F:=fun W=>w.heap.size+1<=W.heap.size) (w:=w) (o0:=o0) (fun _ _ h _=>h))
 exact this
theorem zC.at_ {x:Nat->Rat} (h:zC N w b k n x) (hi:i < n):∃ (B:Bool) (A:Option Addr) (n c:Nat) (A':Option Addr) (n' c':Nat),w.cell? ⟨b,i*4,none⟩=some (.bool B)/\w.cell? ⟨b,i*4+1,none⟩=some (.slice A n c)/\w.cell? ⟨b,i*4+2,none⟩=some (.bool false)/\w.cell? ⟨b,i*4+3,none⟩=some (.slice A' n' c') /\
  w.frozen? ⟨b,i*4,none⟩=false/\w.frozen? ⟨b,i*4+1,none⟩=false/\w.frozen? ⟨b,i*4+2,none⟩=false/\w.frozen? ⟨b,i*4+3,none⟩=false/\Hid (B=decide ((x i).num < 0))/\Gs N w (.slice A n c) (dg (x i).num.natAbs)/\Gs N w (.slice A' n' c') (dg (x i).den):=by
 obtain⟨B,A,n,c,A',n',c',h0,h1,h2,h3,h4,h5,h6⟩:=(h.2.2.2 i hi).open;exact⟨B,A,n,c,A',n',c',h0,h1,h2,h3,h.frozen _,h.frozen _,h.frozen _,h.frozen _,h4,h5,h6⟩
theorem LsV.addr {x:Nat->Rat} (h:LsV N lo hi w (.slice A n c) n x) (hn:0 < n):∃ b off,A=some ⟨b,off,none⟩/\lo<=b/\b < hi/\∀ i,i < n->At4 N w b (off+i*4) (raw (x i)):=LsR.addr h hn
theorem MtV.addr {X:Nat->Nat->Rat} (h:MtV N lo hi w (.slice A m c) m n X) (hm:0 < m):∃ b off,A=some ⟨b,off,none⟩/\lo<=b/\b < hi/\∀ i,i < m->∃ (A':Option Addr) (c':Nat),w.cell? ⟨b,off+i,none⟩=some (.slice A' n c')/\n<=c'/\c'<=maxLen/\LsV N lo hi w (.slice A' n c') n (X i):=MtR.addr h hm
theorem LsV.ext {x:Nat->Rat} (h:LsV N lo hi w v n x) (e:Ext w w'):LsV N lo hi w' v n x:=LsR.ext h e
theorem MtV.ext {X:Nat->Nat->Rat} (h:MtV N lo hi w v m n X) (e:Ext w w'):MtV N lo hi w' v m n X:=MtR.ext h e
theorem LsV.chg {l u:Nat} {x:Nat->Rat} (h:LsV N lo hi w v n x) (c:Chg l u w w') (hN:N<=l) (hd:hi<=l\/u<=lo):LsV N lo hi w' v n x:=LsR.chg h c hN hd
theorem MtV.chg {l u:Nat} {X:Nat->Nat->Rat} (h:MtV N lo hi w v m n X) (c:Chg l u w w') (hN:N<=l) (hd:hi<=l\/u<=lo):MtV N lo hi w' v m n X:=MtR.chg h c hN hd
theorem LsV.congr {x y:Nat->Rat} (h:LsV N lo hi w v n x) (he:∀ i,i < n->x i=y i):LsV N lo hi w v n y:=LsR.congr h (fun i hi=>by rw [he i hi])
theorem LsV.le {x:Nat->Rat} (h:LsV N lo hi w v n x):N<=w.heap.size:=LsR.le h
theorem MtV.le {X:Nat->Nat->Rat} (h:MtV N lo hi w v m n X):N<=w.heap.size:=MtR.le h
theorem LsV.form {x:Nat->Rat} (h:LsV N lo hi w v n x):∃ (A:Option Addr) (c:Nat),v=.slice A n c/\n<=c/\c<=maxLen:=LsR.form h
theorem MtV.form {X:Nat->Nat->Rat} (h:MtV N lo hi w v m n X):∃ (A:Option Addr) (c:Nat),v=.slice A m c/\m<=c/\c<=maxLen:=MtR.form h
theorem MtV.congr {X Y:Nat->Nat->Rat} (h:MtV N lo hi w v m n X) (he:∀ i,i < m->∀ j,j < n->X i j=Y i j):MtV N lo hi w v m n Y:=MtR.congr h (fun _ _=>rfl) (fun i hi j hj=>by rw [he i hi j hj])
theorem q2d:(Tryz.prog.info? 3).map (fun i=>(i.zero,i.size,i.bytes))=some (some (.int .i64 0),1,8):=by kernel_rfl
abbrev i64v (x:Nat):Value:=.int .i64 ((x:Nat):Int)
def IsV (lo hi:Nat) (w:World) (v:Value) (p:List Nat):Prop :=
 hi<=w.heap.size/\∃ (A:Option Addr) (c:Nat),v=.slice A p.length c/\p.length<=c/\c<=maxLen /\
  (0 < p.length->∃ b off,A=some ⟨b,off,none⟩/\lo<=b/\b < hi/\∀ i,i < p.length->w.cell? ⟨b,off+i,none⟩=some (.int .i64 ((p[i]?.getD 0:Nat):Int)))
theorem IsV.ext {p:List Nat} (h:IsV lo hi w v p) (e:Ext w w'):IsV lo hi w' v p:=by
 obtain⟨h2,A,c,hv,h3,h4,h5⟩:=h;refine⟨q_l h2 e.size,A,c,hv,h3,h4,fun hn=>?_⟩;obtain⟨b,off,hA,hl,hh,hx⟩:=h5 hn;exact⟨b,off,hA,hl,hh,fun i hi=>e.cell (hx i hi)⟩
theorem IsV.chg {l h:Nat} {p:List Nat} (hx:IsV lo hi w v p) (c:Chg l h w w') (hd:hi<=l\/h<=lo):IsV lo hi w' v p:=by
 obtain⟨h2,A,k,hv,h3,h4,h5⟩:=hx;refine⟨q_l h2 c.size,A,k,hv,h3,h4,fun hn=>?_⟩;obtain⟨b,off,hA,hl,hh,hx⟩:=h5 hn;exact⟨b,off,hA,hl,hh,fun i hi=>c.cell (p:=⟨b,off+i,none⟩) (hx i hi) (by simp only; omega)⟩
theorem IsV.form {p:List Nat} (h:IsV lo hi w v p):∃ (A:Option Addr) (c:Nat),v=.slice A p.length c/\p.length<=c/\c<=maxLen:=by
 obtain⟨a2,A,c,hv,a3,a4,a5⟩:=h;exact⟨A,c,hv,a3,a4⟩
theorem IsV.at_ {p:List Nat} (h:IsV lo hi w (.slice A n c) p) (hi':i < p.length):∃ b off z,A=some ⟨b,off,none⟩/\w.cell? ⟨b,off+i,none⟩=some (.int .i64 ((z:Nat):Int))/\Hid (z=p[i]?.getD 0):=by
 obtain⟨a2,A,c,hv,a3,a4,a5⟩:=h;injection hv with e1 e2 e3
 subst e1;obtain⟨b,off,hA,-,-,hx⟩:=a5 (by omega);exact⟨b,off,_,hA,hx i hi',rfl⟩
theorem IsV.wide {lo' hi':Nat} {p:List Nat} (h:IsV lo hi w v p) (h1:lo'<=lo) (h2:hi<=hi') (h3:hi'<=w.heap.size):IsV lo' hi' w v p:=by
 obtain⟨a2,A,c,hv,a3,a4,a5⟩:=h;refine⟨h3,A,c,hv,a3,a4,fun hn=>?_⟩;obtain⟨b,off,hA,hl,hh,hx⟩:=a5 hn;exact⟨b,off,hA,by omega,by omega,hx⟩
def kY (base:Nat) (w:World) (v:Value) (p:List Nat):Prop:=base<=w.heap.size/\w.ownsRow base 3 1 v p.length (p.map i64v)
theorem kY.nil (h:base<=w.heap.size):kY base w (.slice none 0 0) []:=⟨h,by simp,.inl ⟨rfl,rfl⟩⟩
theorem kY.empty (hb:base<=g) (h:w.heap[g]?=some (.cells #[] 3 (0,0))):kY base w (.slice (some ⟨g,0,none⟩) 0 0) [] :=
 ⟨by have:=qG h; omega,by simp,.inr ⟨g,0,#[],rfl,hb,h,q_r,Nat.zero_le _,rfl,rfl⟩⟩
theorem kY.form {p:List Nat} (h:kY base w v p):∃ A c,v=.slice A p.length c/\p.length<=c:=by
 rcases h.2.2 with ⟨rfl,h0⟩ | ⟨g,cap,cur,rfl,_,_,hc,_⟩
 ·exact⟨_,_,by rw [h0],by omega⟩
 ·exact⟨_,_,rfl,hc⟩
theorem kY.ext {p:List Nat} (h:kY base w v p) (e:Ext w w'):kY base w' v p:=by
 refine⟨q_l h.1 e.size,h.2.1,?_⟩
 rcases h.2.2 with h0 | ⟨g,cap,cur,hv,hb,hh,h1,h2,h3,h4⟩
 ·exact .inl h0
 ·exact .inr ⟨g,cap,cur,hv,hb,e.block hh,h1,h2,h3,h4⟩
theorem kY.chg {l u:Nat} {p:List Nat} (h:kY base w v p) (c:Chg l u w w') (hd:u<=base):kY base w' v p:=by
 refine⟨q_l h.1 c.size,h.2.1,?_⟩
 rcases h.2.2 with h0 | ⟨g,cap,cur,hv,hb,hh,h1,h2,h3,h4⟩
 ·exact .inl h0
 ·exact .inr ⟨g,cap,cur,hv,hb,c.blk hh (by omega),h1,h2,h3,h4⟩
theorem kY.isv {p:List Nat} (h:kY base w v p) (hl:lo<=base):IsV lo w.heap.size w v p:=by
 refine⟨q_r,?_⟩
 rcases h.2.2 with ⟨rfl,h0⟩ | ⟨g,cap,cur,rfl,hb,hh,h1,h2,h3,h4⟩
 ·exact⟨none,0,by rw [h0],by omega,Nat.zero_le _,fun h=>absurd h (by omega)⟩
 ·refine⟨_,cap,rfl,h1,h2,fun hn=>⟨g,0,rfl,by omega,qG hh,fun i hi=>?_⟩⟩;rw [Nat.zero_add,qx hh];have e1:cur[i]?=(cur.toList.take (p.length*1))[i]?:=by rw [List.getElem?_take,if_pos (by omega)]; simp
  rw [e1,h4,List.getElem?_map,List.getElem?_eq_getElem (by omega)]
  simp
theorem Zg (t ty:TypeId) (ht:Tryz.prog.underlying t=some (.slice 3)) {p:List Nat} (h:kY base w v p)
 {z:Nat} {fr:Nat×Nat} (hb:w.heap[b]?=some (.cells #[.int .i64 (z:Int)] 3 fr)) (hn:p.length < 1000000000) :
  ∃ g cap w',(Builtin.append_ #[t,t] ty #[v,.slice (some ⟨b,0,none⟩) 1 1]).run Tryz.prog w=.ok (.slice (some ⟨g,0,none⟩) (p.length+1) cap) w'/\kY base w' (.slice (some ⟨g,0,none⟩) (p.length+1) cap) (p ++ [z])/\(∃ g',base<=g'/\Chg g' (g'+1) w w'/\NoU w g'):=by
 obtain⟨i0,hi0,hz0,hz1,hz2⟩:=info_parts q2d;obtain⟨h1,hown⟩:=h
 obtain⟨g,cap,w',hrun,ho,hgr,hat,hlt⟩:=run_append_lies (P:=Tryz.prog) w t ty base 3 i0 _ 1 8 ht hi0 hz0 hz1 hz2 rfl (by omega) v p.length (p.map i64v) hown ⟨b,0,none⟩ 1 1 [.int .i64 (z:Int)] rfl
  (fun j u hj=>by
   rw [kH,Nat.zero_add,qx hb]
   simpa using hj)
  (fun u hu=>by simp at hu; subst hu; rfl) (by omega) (by unfold maxLen; omega) (by omega) h1 w.heap.size rfl
 refine⟨g,cap,w',hrun,⟨q_l h1 hgr.size,?_⟩,?_⟩
 ·rw [List.map_append,List.length_append]; exact ho
 ·have hT:NoU w w.heap.size:=fun cs fr h=>by rw [Array.getElem?_eq_none (q_r)] at h; cases h
  rcases hown.2 with ⟨rfl,h0⟩ | ⟨g0,cap0,cur,rfl,hb0,hh,_⟩
  ·exact⟨w.heap.size,h1,zG hgr (fun k hk=>by simp [Value.ownBlock] at hk) hT,hT⟩
  ·have hT0:NoU w g0:=NoU.mk hh (by decide);exact⟨g0,hb0,zG hgr (fun k hk=>by simpa [Value.ownBlock] using hk.symm) hT0,hT0⟩
theorem ZH {o:Oper} {a:Act} {K:Act->World->Prop} {Q:Exit->Act->World->Prop} (s x:Operand) (t:TypeId) (ht:Tryz.prog.underlying t=some (.slice 3))
  (ho:o.op=.call { callee:=.builtin .append,args:=#[s,x],argTypes:=#[t,t] }) {p:List Nat} (hs:a.eval s=v) (h:kY base w v p)
 (hx:a.eval x=.slice (some ⟨b,0,none⟩) 1 1) {z:Nat} {fr:Nat×Nat} (hb:w.heap[b]?=some (.cells #[.int .i64 (z:Int)] 3 fr)) (hn:p.length < 1000000000)
  (hK:∀ g cap w',kY base w' (.slice (some ⟨g,0,none⟩) (p.length+1) cap) (p ++ [z])->(∃ g',base<=g'/\Chg g' (g'+1) w w'/\NoU w g')->K (a.put o.dst (.slice (some ⟨g,0,none⟩) (p.length+1) cap)) w'):o.wp Tryz.prog a w K Q:=by
 obtain⟨g,cap,w',hrun,h1,h2⟩:=Zg t o.type ht h hb hn;unfold Oper.wp execOp;simp only [ho,resolve,invoke,builtin,Sem.run_bind,Sem.run_pure,Result.andThen_ok,List.map_toArray,List.map_cons,List.map_nil,hs,hx,hrun];exact hK g cap w' h1 h2
theorem vO {ops:Array Oper} {rest:List Oper} {o:Oper} {a:Act} {Q:Exit->Act->World->Prop} (hgd:o.guard=none) (s x:Operand) (t:TypeId) (ht:Tryz.prog.underlying t=some (.slice 3))
  (ho:o.op=.call { callee:=.builtin .append,args:=#[s,x],argTypes:=#[t,t] }) {p:List Nat} (hs:a.eval s=v) (h:kY base w v p)
 (hx:a.eval x=.slice (some ⟨b,0,none⟩) 1 1) {z:Nat} {fr:Nat×Nat} (hb:w.heap[b]?=some (.cells #[.int .i64 (z:Int)] 3 fr)) (hn:p.length < 1000000000)
  (hK:∀ g cap w',kY base w' (.slice (some ⟨g,0,none⟩) (p.length+1) cap) (p ++ [z])->(∃ g',base<=g'/\Chg g' (g'+1) w w'/\NoU w g')->wpList Tryz.prog ops Q rest (a.put o.dst (.slice (some ⟨g,0,none⟩) (p.length+1) cap)) w'):wpList Tryz.prog ops Q (o :: rest) a w :=
 wpList_plain hgd fun _ hK'=>ZH s x t ht ho hs h hx hb hn (fun g cap w' a1 a2=>hK' _ _ (hK g cap w' a1 a2))
def jk (n:Nat) (p:Nat->Bool):Bool:=(List.range n).any p
theorem jL {p:Nat->Bool} (hi:i < n) (h:p i=true):jk n p=true:=by
 unfold jk; rw [List.any_eq_true]; exact⟨i,List.mem_range.2 hi,h⟩
theorem zM {p:Nat->Bool}:jk n p=false↔∀ i,i < n->p i=false:=by simp [jk]
theorem X8 (n:Nat) (p:Nat->Bool):(!jk n (fun i=>!p i))=allB n p:=by
 cases h:allB n p with
 | true =>
  have:jk n (fun i=>!p i)=false:=zM.2 (fun i hi=>by rw [qg.1 h i hi]; rfl);rw [this]; rfl
 | false =>
  cases h2:jk n (fun i=>!p i) with
  | true=>rfl
  | false =>
   have:allB n p=true:=qg.2 (fun i hi=>by have:=zM.1 h2 i hi; simpa using this);rw [this] at h; cases h
def Ja (w:World) (r:Bool) (e:Ending) (w':World):Prop:=∃ z:Int,e=.returned (.int .i64 z)/\Hid (r=decide (0<=z))/\Ext w w'
theorem Va {R:Nat->Raw} (h:LsR N lo hi w v n R)  (g:Nat->Bool)
  (hf:∀ i,i < n->∀ w' u,Ext w w'->jM N w' u (R i)->Calls Tryz.prog 232 #[u] w' (zL w' (.bool (g i)))) :
  Calls Tryz.prog 183 #[v,.func (.func 232) #[] #[]] w (Ja w (jk n g)):=by
 obtain⟨r,hr⟩:=qc (jk n g);rw [<-hr.out];obtain⟨A,c,rfl,hnc,hcm⟩:=h.form;unfold maxLen at hcm;have hI:=h;have HF:=q_h hf;clear h hf;go_enter Tryz.func183,Tryz.ntmps183;go_wp2
 go_loopw [8] (fun i wr=>∃ k:Nat,k<=n/\i=.int .i64 k/\Hid (∀ j,j < k->g j=false)/\Ext w wr) (fun i _=>n - (intOf i).toNat)
 case atStart=>exact⟨0,Nat.zero_le _,rfl,fun j hj=>absurd hj (by omega),Ext.refl w⟩
 case round =>
  obtain⟨k,hk,rfl,HA,hE⟩:=hrel
  by_cases hlt:k < n
  ·(obtain⟨b,off,rfl,-,-,hx⟩:=(hI.ext hE).addr (by omega)); (obtain⟨A1,n1,c1,A2,n2,c2,p0,p1,p2,p3,hv⟩:=(hx k hlt).val)
   clear hx;go_wp2_with (go_at_call 232; refine q_o ?_);refine (HF.out k hlt _ _ hE hv).mono ?_;rintro e w1 ⟨rfl,e1⟩;replace hE:=hE.trans e1;obtain⟨o,ho⟩:=qc (g k);rw [<-ho.out];cases o with
   | false =>
    go_wp2;go_roundw
    case rel=>exact⟨k+1,by omega,by go_num,zF (p:=fun j=>g j=false) HA.out ho.out.symm,hE⟩
    case measure=>simp [intOf]; omega
   | true =>
    have HT:Hid (r=true):=by rw [Hid,hr.out]; exact jL hlt ho.out.symm
    go_wp2;go_ret;exact⟨_,rfl,by rw [Hid,HT.out]; symm; simp,hE⟩
  ·have HT:Hid (r=false):=by rw [Hid,hr.out]; exact zM.2 (fun j hj=>HA.out j (by omega))
   go_wp2;go_ret;exact⟨_,rfl,by rw [Hid,HT.out]; rfl,hE⟩
theorem Ws {R:Nat->Raw} (h:LsR N lo hi w v n R)  (g:Nat->Bool)
  (hf:∀ i,i < n->∀ w' u,Ext w w'->jM N w' u (R i)->Calls Tryz.prog 232 #[u] w' (zL w' (.bool (g i)))) :
  Calls Tryz.prog 126 #[v,.func (.func 232) #[] #[]] w (zL w (.bool (jk n g))):=by
 obtain⟨r,hr⟩:=qc (jk n g);rw [<-hr.out];obtain⟨A,c,rfl,hnc,hcm⟩:=h.form;have hI:=h;have HF:=q_h hf;clear h hf;go_enter Tryz.func126,Tryz.ntmps126;go_wp2_with (go_at_call 183; refine q_o ?_);refine (Va hI  g HF.out).mono ?_;rintro e w1 ⟨z,rfl,hz,e1⟩;rw [<-hr.out] at hz;go_wp2;go_ret;exact⟨qw hz.out.symm,e1⟩
theorem V8 {R:Nat->Raw} (h:LsR N lo hi w v n R)  (g:Nat->Bool)
  (hf:∀ i,i < n->∀ w' u,Ext w w'->jM N w' u (R i)->Calls Tryz.prog 179 #[u] w' (zL w' (.bool (g i)))) :
  Calls Tryz.prog 183 #[v,.func (.func 179) #[] #[]] w (Ja w (jk n g)):=by
 obtain⟨r,hr⟩:=qc (jk n g);rw [<-hr.out];obtain⟨A,c,rfl,hnc,hcm⟩:=h.form;unfold maxLen at hcm;have hI:=h;have HF:=q_h hf;clear h hf;go_enter Tryz.func183,Tryz.ntmps183;go_wp2
 go_loopw [8] (fun i wr=>∃ k:Nat,k<=n/\i=.int .i64 k/\Hid (∀ j,j < k->g j=false)/\Ext w wr) (fun i _=>n - (intOf i).toNat)
 case atStart=>exact⟨0,Nat.zero_le _,rfl,fun j hj=>absurd hj (by omega),Ext.refl w⟩
 case round =>
  obtain⟨k,hk,rfl,HA,hE⟩:=hrel
  by_cases hlt:k < n
  ·(obtain⟨b,off,rfl,-,-,hx⟩:=(hI.ext hE).addr (by omega)); (obtain⟨A1,n1,c1,A2,n2,c2,p0,p1,p2,p3,hv⟩:=(hx k hlt).val)
   clear hx;go_wp2_with (go_at_call 179; refine q_o ?_);refine (HF.out k hlt _ _ hE hv).mono ?_;rintro e w1 ⟨rfl,e1⟩;replace hE:=hE.trans e1;obtain⟨o,ho⟩:=qc (g k);rw [<-ho.out];cases o with
   | false =>
    go_wp2;go_roundw
    case rel=>exact⟨k+1,by omega,by go_num,zF (p:=fun j=>g j=false) HA.out ho.out.symm,hE⟩
    case measure=>simp [intOf]; omega
   | true =>
    have HT:Hid (r=true):=by rw [Hid,hr.out]; exact jL hlt ho.out.symm
    go_wp2;go_ret;exact⟨_,rfl,by rw [Hid,HT.out]; symm; simp,hE⟩
  ·have HT:Hid (r=false):=by rw [Hid,hr.out]; exact zM.2 (fun j hj=>HA.out j (by omega))
   go_wp2;go_ret;exact⟨_,rfl,by rw [Hid,HT.out]; rfl,hE⟩
theorem Wp {R:Nat->Raw} (h:LsR N lo hi w v n R)  (g:Nat->Bool)
  (hf:∀ i,i < n->∀ w' u,Ext w w'->jM N w' u (R i)->Calls Tryz.prog 179 #[u] w' (zL w' (.bool (g i)))) :
  Calls Tryz.prog 126 #[v,.func (.func 179) #[] #[]] w (zL w (.bool (jk n g))):=by
 obtain⟨r,hr⟩:=qc (jk n g);rw [<-hr.out];obtain⟨A,c,rfl,hnc,hcm⟩:=h.form;have hI:=h;have HF:=q_h hf;clear h hf;go_enter Tryz.func126,Tryz.ntmps126;go_wp2_with (go_at_call 183; refine q_o ?_);refine (V8 hI  g HF.out).mono ?_;rintro e w1 ⟨z,rfl,hz,e1⟩;rw [<-hr.out] at hz;go_wp2;go_ret;exact⟨qw hz.out.symm,e1⟩
theorem V9 {L:Nat->Nat} {R:Nat->Nat->Raw} (h:MtR N lo hi w v n L R) (gb:Nat) (g:Nat->Bool)
  (hf:∀ i,i < n->∀ w' u,Ext w w'->LsR N lo hi w' u (L i) (R i)->Calls Tryz.prog 208 #[u,.pointer (some ⟨gb,0,none⟩)] w' (zL w' (.bool (g i)))) :
  Calls Tryz.prog 180 #[v,.func (.func 208) #[] #[.pointer (some ⟨gb,0,none⟩)]] w (Ja w (jk n g)):=by
 obtain⟨r,hr⟩:=qc (jk n g);rw [<-hr.out];obtain⟨A,c,rfl,hnc,hcm⟩:=h.form;unfold maxLen at hcm;have hI:=h;have HF:=q_h hf;clear h hf;go_enter Tryz.func180,Tryz.ntmps180;go_wp2
 go_loopw [8] (fun i wr=>∃ k:Nat,k<=n/\i=.int .i64 k/\Hid (∀ j,j < k->g j=false)/\Ext w wr) (fun i _=>n - (intOf i).toNat)
 case atStart=>exact⟨0,Nat.zero_le _,rfl,fun j hj=>absurd hj (by omega),Ext.refl w⟩
 case round =>
  obtain⟨k,hk,rfl,HA,hE⟩:=hrel
  by_cases hlt:k < n
  ·(obtain⟨b,off,rfl,-,-,hx⟩:=(hI.ext hE).addr (by omega)); (obtain⟨A1,c1,p0,-,-,hv⟩:=hx k hlt)
   clear hx;go_wp2_with (go_at_call 208; refine q_o ?_);refine (HF.out k hlt _ _ hE hv).mono ?_;rintro e w1 ⟨rfl,e1⟩;replace hE:=hE.trans e1;obtain⟨o,ho⟩:=qc (g k);rw [<-ho.out];cases o with
   | false =>
    go_wp2;go_roundw
    case rel=>exact⟨k+1,by omega,by go_num,zF (p:=fun j=>g j=false) HA.out ho.out.symm,hE⟩
    case measure=>simp [intOf]; omega
   | true =>
    have HT:Hid (r=true):=by rw [Hid,hr.out]; exact jL hlt ho.out.symm
    go_wp2;go_ret;exact⟨_,rfl,by rw [Hid,HT.out]; symm; simp,hE⟩
  ·have HT:Hid (r=false):=by rw [Hid,hr.out]; exact zM.2 (fun j hj=>HA.out j (by omega))
   go_wp2;go_ret;exact⟨_,rfl,by rw [Hid,HT.out]; rfl,hE⟩
theorem Wq {L:Nat->Nat} {R:Nat->Nat->Raw} (h:MtR N lo hi w v n L R) (gb:Nat) (g:Nat->Bool)
  (hf:∀ i,i < n->∀ w' u,Ext w w'->LsR N lo hi w' u (L i) (R i)->Calls Tryz.prog 208 #[u,.pointer (some ⟨gb,0,none⟩)] w' (zL w' (.bool (g i)))) :
  Calls Tryz.prog 116 #[v,.func (.func 208) #[] #[.pointer (some ⟨gb,0,none⟩)]] w (zL w (.bool (jk n g))):=by
 obtain⟨r,hr⟩:=qc (jk n g);rw [<-hr.out];obtain⟨A,c,rfl,hnc,hcm⟩:=h.form;have hI:=h;have HF:=q_h hf;clear h hf;go_enter Tryz.func116,Tryz.ntmps116;go_wp2_with (go_at_call 180; refine q_o ?_);refine (V9 hI gb g HF.out).mono ?_;rintro e w1 ⟨z,rfl,hz,e1⟩;rw [<-hr.out] at hz;go_wp2;go_ret;exact⟨qw hz.out.symm,e1⟩
def kJ (R:Raw):Bool:=decide (R.l1.length<=1) && decide (R.l2.length<=1) && decide (R.l1[0]?.getD 0 < 100000) && decide (R.l2[0]?.getD 0<=100)
theorem q1J (h:jM N w v R) :
  Calls Tryz.prog 122 #[v] w (zL w (.bool (kJ R))):=by
 obtain⟨r,hr⟩:=qc (kJ R);rw [<-hr.out];obtain⟨A1,n1,c1,A2,n2,c2,rfl,g1,g2⟩:=h.parts;obtain⟨_,_,_,e1,h1,hc1,hm1⟩:=g1.form;injection e1 with e1 e1' e1''
 subst e1 e1' e1'';obtain⟨_,_,_,e2,h2,hc2,hm2⟩:=g2.form;injection e2 with e2 e2' e2''
 subst e2 e2' e2'';obtain⟨b1,l1,b2,l2⟩:=R
 dsimp only at g1 g2 h1 h2 ⊢
 have HR:Hid (r=(decide (n1<=1) && decide (n2<=1) && decide (l1[0]?.getD 0 < 100000) && decide (l2[0]?.getD 0<=100))):=by
  rw [Hid,hr.out,<-h1.out,<-h2.out]; rfl
 have L1:Hid (n1=0->l1=[]):=fun e=>List.eq_nil_of_length_eq_zero (by rw [h1.out]; exact e)
 have L2:Hid (n2=0->l2=[]):=fun e=>List.eq_nil_of_length_eq_zero (by rw [h2.out]; exact e)
 clear hr h;go_enter Tryz.func122,Tryz.ntmps122;go_upto_region 1 with (fail);refine qo ?_;intro W hE hsz B0;obtain⟨a0,a1,a2,a3,-⟩:=cells4 B0;have eC:=(Ext.refl W).drew;refine qm (fun w'=>w'.cell? ⟨w.heap.size,0,none⟩=some (.bool b1)/\w'.cell? ⟨w.heap.size,1,none⟩=some (.slice A1 n1 c1)/\w'.cell? ⟨w.heap.size,2,none⟩=some (.bool b2)/\w'.cell? ⟨w.heap.size,3,none⟩=some (.slice A2 n2 c2)) [] (by kernel_rfl) (by exact⟨eC.cell a0,eC.cell a1,eC.cell a2,eC.cell a3⟩) (fun hHeld=>?_);refine sP 0 (h:=?_);try simp only [nr]
 refine sP 1 (h:=?_);try simp only [nr]
 refine sT 2 (h:=?_);try simp only [nr]
 refine sP 3 (h:=?_);try simp only [nr]
 refine sP 4 (h:=?_);try simp only [nr]
 refine sT 5 (h:=?_);try simp only [nr]
 refine sP 6 (h:=?_);try simp only [nr]
 refine sP 7 (h:=?_);try simp only [nr]
 refine qh (by kernel_rfl) ?_ _;clear hHeld;replace hE:=hE.trans eC;replace g1:=g1.ext hE;replace g2:=g2.ext hE;clear a0 a1 a2 a3 B0 eC
 by_cases hn1:n1<=1
 ·by_cases hn2:n2<=1
  ·have HR2:Hid (r=(decide (l1[0]?.getD 0 < 100000) && decide (l2[0]?.getD 0<=100))):=by rw [Hid,HR.out,q_t hn1,q_t hn2]; rfl
   clear HR
   rcases Nat.eq_zero_or_pos n1 with h0 | h0
   ·obtain⟨x,hx⟩:=qc (decide (l1[0]?.getD 0 < 100000));have hx1:x=true:=by rw [hx.out,L1.out h0]; rfl
    rw [<-hx.out,hx1] at HR2;subst h0
    rcases Nat.eq_zero_or_pos n2 with h4 | h4
    ·have HF:Hid (r=true):=by rw [Hid,HR2.out,L2.out h4]; rfl
     subst h4;go_wp2;go_ret;exact⟨qw HF.out.symm,hE⟩
    ·obtain rfl:n2=1:=by omega
     obtain⟨b,off,z,rfl,-,p0,hz0,hz1,HZ⟩:=g2.at_ (k:=0) (by omega);rw [Nat.add_zero] at p0
     by_cases hz:z<=100
     ·have HF:Hid (r=true):=by rw [Hid,HR2.out]; simp only [Bool.true_and,decide_eq_true_eq]; have:=HZ.out; omega
      go_wp2;go_ret;exact⟨qw HF.out.symm,hE⟩
     ·have HF:Hid (r=false):=by rw [Hid,HR2.out]; simp only [Bool.true_and,decide_eq_false_iff_not]; have:=HZ.out; omega
      go_wp2;go_ret;exact⟨qw HF.out.symm,hE⟩
   ·obtain rfl:n1=1:=by omega
    obtain⟨b,off,z,rfl,-,p0,hz0,hz1,HZ⟩:=g1.at_ (k:=0) (by omega);rw [Nat.add_zero] at p0
    by_cases hz:z < 100000
    ·have HR3:Hid (r=decide (l2[0]?.getD 0<=100)):=by
      rw [Hid,HR2.out,show decide (l1[0]?.getD 0 < 100000)=true by simp only [decide_eq_true_eq]; have:=HZ.out; omega]; rfl
     rcases Nat.eq_zero_or_pos n2 with h4 | h4
     ·have HF:Hid (r=true):=by rw [Hid,HR3.out,L2.out h4]; rfl
      subst h4;go_wp2;go_ret;exact⟨qw HF.out.symm,hE⟩
     ·obtain rfl:n2=1:=by omega
      obtain⟨b',off',z',rfl,-,q0,hz0',hz1',HZ'⟩:=g2.at_ (k:=0) (by omega);rw [Nat.add_zero] at q0
      by_cases hz':z'<=100
      ·have HF:Hid (r=true):=by rw [Hid,HR3.out]; simp only [decide_eq_true_eq]; have:=HZ'.out; omega
       go_wp2;go_ret;exact⟨qw HF.out.symm,hE⟩
      ·have HF:Hid (r=false):=by rw [Hid,HR3.out]; simp only [decide_eq_false_iff_not]; have:=HZ'.out; omega
       go_wp2;go_ret;exact⟨qw HF.out.symm,hE⟩
    ·have HF:Hid (r=false):=by
      rw [Hid,HR2.out,show decide (l1[0]?.getD 0 < 100000)=false by simp only [decide_eq_false_iff_not]; have:=HZ.out; omega]; rfl
     go_wp2;go_ret;exact⟨qw HF.out.symm,hE⟩
  ·have HF:Hid (r=false):=by rw [Hid,HR.out,q_f hn2]; simp
   go_wp2;go_ret;exact⟨qw HF.out.symm,hE⟩
 ·have HF:Hid (r=false):=by rw [Hid,HR.out,q_f hn1]; simp
  go_wp2;go_ret;exact⟨qw HF.out.symm,hE⟩
theorem q1Y (h:jM N w v R) (hs:xW R) :
  Calls Tryz.prog 179 #[v] w (zL w (.bool (!okR R))):=by
 obtain⟨A1,n1,c1,A2,n2,c2,rfl,g1,g2⟩:=h.parts;obtain⟨r,hr⟩:=qc (okR R);rw [<-hr.out];have hI:=h;clear g1 g2 h;go_enter Tryz.func179,Tryz.ntmps179;go_wp2_with (go_at_call 168; refine q_o ?_);refine qJ ?_;intro W hE hsz B0;refine (KX (hI.ext hE) hs.1 hs.2).mono ?_;rintro e w1 ⟨rfl,e1⟩;rw [<-hr.out];go_wp2;go_ret;exact⟨rfl,hE.trans e1⟩
theorem q29 (h:jM N w v R) (hs:xW R) :
  Calls Tryz.prog 232 #[v] w (zL w (.bool (!okR R))):=by
 obtain⟨A1,n1,c1,A2,n2,c2,rfl,g1,g2⟩:=h.parts;obtain⟨r,hr⟩:=qc (okR R);rw [<-hr.out];have hI:=h;clear g1 g2 h;go_enter Tryz.func232,Tryz.ntmps232;go_wp2_with (go_at_call 168; refine q_o ?_);refine qJ ?_;intro W hE hsz B0;refine (KX (hI.ext hE) hs.1 hs.2).mono ?_;rintro e w1 ⟨rfl,e1⟩;rw [<-hr.out];go_wp2;go_ret;exact⟨rfl,hE.trans e1⟩
structure Lin where
 m:Nat
 L:Nat->Nat
 A:Nat->Nat->Raw
 nl:Nat
 l:Nat->Raw
 np:Nat
 p:Nat->Raw
def q1p (N lo hi:Nat) (w:World) (v:Value) (Z:Lin):Prop:=∃ s1 s2 s3,v=.agg #[s1,s2,s3]/\MtR N lo hi w s1 Z.m Z.L Z.A/\LsR N lo hi w s2 Z.nl Z.l/\LsR N lo hi w s3 Z.np Z.p
theorem q1p.ext {Z:Lin} (h:q1p N lo hi w v Z) (e:Ext w w'):q1p N lo hi w' v Z:=by
 obtain⟨s1,s2,s3,hv,h1,h2,h3⟩:=h;exact⟨s1,s2,s3,hv,h1.ext e,h2.ext e,h3.ext e⟩
theorem q1p.parts {Z:Lin} (h:q1p N lo hi w v Z):∃ (A1:Option Addr) (c1:Nat) (A2:Option Addr) (c2:Nat) (A3:Option Addr) (c3:Nat),v=.agg #[.slice A1 Z.m c1,.slice A2 Z.nl c2,.slice A3 Z.np c3] /\
  MtR N lo hi w (.slice A1 Z.m c1) Z.m Z.L Z.A/\LsR N lo hi w (.slice A2 Z.nl c2) Z.nl Z.l/\LsR N lo hi w (.slice A3 Z.np c3) Z.np Z.p/\Z.m<=9223372036854775807/\Z.nl<=9223372036854775807/\Z.np<=9223372036854775807:=by
 obtain⟨s1,s2,s3,rfl,h1,h2,h3⟩:=h;obtain⟨A1,c1,rfl,a1,b1⟩:=h1.form;obtain⟨A2,c2,rfl,a2,b2⟩:=h2.form;obtain⟨A3,c3,rfl,a3,b3⟩:=h3.form;unfold maxLen at b1 b2 b3;exact⟨A1,c1,A2,c2,A3,c3,rfl,h1,h2,h3,by omega,by omega,by omega⟩
end Go.Proofs.YtfmddpahhloleaaGreat
