import Derived.Test.YtpkmjhmmmdkodaaGreatWx12
set_option linter.all false
set_option maxHeartbeats 8000000
namespace Go.Proofs.YtpkmjhmmmdkodaaGreat
open Go.RowKit
variable {w w':World} {N n lo hi k g i m base c b j:Nat} {v:Value} {q:Rat} {R:Raw} {A:Option Addr}
theorem yj (b o j:Nat):(⟨b,o,none⟩:Addr).add j=⟨b,o+j,none⟩:=by
 unfold Addr.add;split
 ·rename_i e;subst e;rfl
 ·rfl
theorem Grow.empty(hN:N<=base) (hb:base<=g) (h:w.heap[g]?=some (.cells #[] 48 (0,0))) (x:q_v):Grow N base w (.slice (some ⟨g,0,none⟩) 0 0) 0 x :=
 ⟨hN,by have:=qF h;omega,.inr ⟨g,0,rfl,hb,Nat.zero_le _,by omega,q_r,⟨#[],h,rfl⟩,fun j hj=>by omega⟩⟩
theorem Grow.some{x:q_v}(h:Grow N base w v n x) (hn:0<n):∃g cap,v=.slice (some ⟨g,0,none⟩) n cap/\base<=g/\g<w.heap.size/\cap<=maxLen/\n<=cap/\kH N w g cap n x:=by
 obtain⟨h1,h2,⟨rfl,rfl⟩|⟨g,cap,rfl,hg,hm,hr⟩⟩:=h
 ·omega
 ·exact⟨g,cap,rfl,hg,hr.lt,hm,hr.2.1,hr⟩
theorem X0{o:Oper}{a:Act}{K:Act->World->Prop}{Q:Exit->Act->World->Prop}(s x:Operand) (t:TypeId) (ht:Tryz.prog.underlying t=some (.slice 48))
  (ho:o.op=.call { callee:=.builtin .append,args:=#[s,x],argTypes:=#[t,t] }){f:q_v}(hs:a.eval s=v) (h:Grow N base w v n f)
(hx:a.eval x=.slice (some ⟨b,0,none⟩) 1 1){neg:Bool}{s1 s2:Value}{fr:Nat×Nat}(hb:w.heap[b]?=some (.cells #[.bool neg,s1,.bool false,s2] 48 fr)) (hneg:Hid (neg=decide (q.num<0))) (g1:Gs N w s1 (dg q.num.natAbs)) (g2:Gs N w s2 (dg q.den)) (hn:n<1000000000)
  (hK:∀g cap w',Grow N base w' (.slice (some ⟨g,0,none⟩) (n+1) cap) (n+1) (upd f n q)->(∃g',base<=g'/\Chg g' (g'+1) w w'/\NoU w g')->g<w'.heap.size->K (a.put o.dst (.slice (some ⟨g,0,none⟩) (n+1) cap)) w'):o.wp Tryz.prog a w K Q:=by
 obtain⟨g,cap,w',hrun,h1,h2,h3⟩:=yu t o.type ht h hb hneg g1 g2 hn;unfold Oper.wp execOp;simp only[ho,resolve,invoke,builtin,Sem.run_bind,Sem.run_pure,Result.andThen_ok,List.map_toArray,List.map_cons,List.map_nil,hs,hx,hrun];exact hK g cap w' h1 h2 h3
theorem kS{ops:Array Oper}{rest:List Oper}{o:Oper}{a:Act}{Q:Exit->Act->World->Prop}(hgd:o.guard=none) (s x:Operand) (t:TypeId) (ht:Tryz.prog.underlying t=some (.slice 48))
  (ho:o.op=.call { callee:=.builtin .append,args:=#[s,x],argTypes:=#[t,t] }){f:q_v}(hs:a.eval s=v) (h:Grow N base w v n f)
(hx:a.eval x=.slice (some ⟨b,0,none⟩) 1 1){neg:Bool}{s1 s2:Value}{fr:Nat×Nat}(hb:w.heap[b]?=some (.cells #[.bool neg,s1,.bool false,s2] 48 fr)) (hneg:Hid (neg=decide (q.num<0))) (g1:Gs N w s1 (dg q.num.natAbs)) (g2:Gs N w s2 (dg q.den)) (hn:n<1000000000)
  (hK:∀g cap w',Grow N base w' (.slice (some ⟨g,0,none⟩) (n+1) cap) (n+1) (upd f n q)->(∃g',base<=g'/\Chg g' (g'+1) w w'/\NoU w g')->g<w'.heap.size->wpList Tryz.prog ops Q rest (a.put o.dst (.slice (some ⟨g,0,none⟩) (n+1) cap)) w'):wpList Tryz.prog ops Q (o :: rest) a w :=
 wpList_plain hgd fun _ hK'=>X0 s x t ht ho hs h hx hb hneg g1 g2 hn (fun g cap w' a1 a2 a3=>hK' _ _ (hK g cap w' a1 a2 a3))
def cat (n:Nat) (x y:q_v) (j:Nat):Rat:=if j<n then x j else y (j-n)
theorem Zc(t ty:TypeId) (ht:Tryz.prog.underlying t=some (.slice 48)){x:q_v}(h:Grow N base w v n x)
  {sv:Value}{y:q_v}(hl:LsV N lo hi w sv m y) (hn:n+m<1000000000) :
  ∃v' w',(Builtin.append_ #[t,t] ty #[v,sv]).run Tryz.prog w=.ok v' w'/\Grow N base w' v' (n+m) (cat n x y)/\(∃g',base<=g'/\Chg g' (g'+1) w w'/\NoU w g'):=by
 obtain⟨i0,hi0,hz0,hz1,hz2⟩:=info_parts yc;obtain⟨h1,h2,h3⟩:=h;obtain⟨A,c,rfl,hnc,hcm⟩:=hl.form;have hT:NoU w w.heap.size:=fun cs fr h=>by rw[Array.getElem?_eq_none (q_r)] at h;cases h
 rcases A with _|⟨b,off,el⟩
 ·
  have hm:m=0:=by
   rcases Nat.eq_zero_or_pos m with h0|h0
   ·exact h0
   ·obtain⟨b,off,hA,_⟩:=hl.addr h0;cases hA
  subst hm;refine⟨v,w,?_,⟨h1,h2,?_⟩,⟨w.heap.size,h2,Chg.refl _ _ w,hT⟩⟩
  ·rcases h3 with ⟨rfl,rfl⟩|⟨g,cap,rfl,hg,hm,hr⟩
   ·simp[Builtin.append_,run_underlying ht,sizeOf,typeInfo,hi0,Builtin.lenOf,Builtin.firstCells]
   ·simp[Builtin.append_,run_underlying ht,sizeOf,typeInfo,hi0,Builtin.lenOf,Builtin.firstCells,hr.2.1,storeCells]
  ·rcases h3 with h3|⟨g,cap,hv,hg,hm,hr⟩
   ·exact .inl h3
   ·exact .inr ⟨g,cap,hv,hg,hm,hr.congr (fun j hj=>by unfold cat;rw[if_pos hj])⟩
 ·have hown:∃xs,w.ownsRow base 48 4 v n xs/\∀g k,v.ownBlock=some g->k<n*4->xs[k]?=w.cell? ⟨g,k,none⟩:=by
   rcases h3 with ⟨rfl,rfl⟩|⟨g,cap,rfl,hg,hm,hr⟩
   ·exact⟨[],⟨by simp,.inl ⟨rfl,rfl⟩⟩,fun g k hg hk=>by omega⟩
   ·obtain⟨xs,hx,hc⟩:=Zd hr hm hg
    exact⟨xs,hx,fun g' k hg' hk=>by
     have:g=g':=by simpa[Value.ownBlock] using hg'
     subst this;exact hc k hk⟩
  obtain⟨xs,hown,hcell⟩:=hown
  have hsrc:∀k,k<m*4->∃u,w.cell? ((⟨b,off,el⟩:Addr).add k)=some u/\u.oneCell'=true:=by
   intro k hk;obtain⟨b',off',hA,-,-,hx⟩:=hl.addr (by omega);injection hA with hA
   injection hA with e1 e2 e3
   subst e1 e2 e3;rw[yj];obtain⟨A1,n1,c1,A2,n2,c2,p0,p1,p2,p3,-⟩:=(hx (k / 4) (by omega)).val;have hk4:k=k / 4*4+k % 4:=by omega
   have hr:k % 4=0\/k % 4=1\/k % 4=2\/k % 4=3:=by omega
   rcases hr with hr|hr|hr|hr
   ·rw[show off+k=off+k / 4*4 by omega];exact⟨_,p0,rfl⟩
   ·rw[show off+k=off+k / 4*4+1 by omega];exact⟨_,p1,rfl⟩
   ·rw[show off+k=off+k / 4*4+2 by omega];exact⟨_,p2,rfl⟩
   ·rw[show off+k=off+k / 4*4+3 by omega];exact⟨_,p3,rfl⟩
  let news:List Value:=(List.range (m*4)).map fun k=>(w.cell? ((⟨b,off,el⟩:Addr).add k)).getD undef
  have hnl:news.length=m*4:=by simp[news]
  have hnews:∀j u,news[j]?=some u->w.cell? ((⟨b,off,el⟩:Addr).add j)=some u:=by
   intro j u hj
   have hjl:j<m*4:=by
    rcases Nat.lt_or_ge j (m*4) with h|h
    ·exact h
    ·rw[List.getElem?_eq_none (by omega)] at hj;cases hj
   obtain⟨u',hu',-⟩:=hsrc j hjl;simp only[news,List.getElem?_map,List.getElem?_range hjl,Option.map_some,Option.some.injEq] at hj;rw[hu'] at hj ⊢;simpa using hj
  have hone:∀u∈news,u.oneCell'=true:=by
   intro u hu;obtain⟨k,hk,rfl⟩:=List.mem_map.1 hu;obtain⟨u',hu',h1⟩:=hsrc k (List.mem_range.1 hk);rw[hu'];exact h1
  obtain⟨v',w',hrun,ho,hgr,-,hat⟩:=run_append_own_at (P:=Tryz.prog) w base t ty 48 i0 _ 4 64 ht hi0 hz0 hz1 hz2 rfl (by omega) v n xs hown ⟨b,off,el⟩ m c news hnl hnews hone (by unfold maxLen;omega) (by omega) h2
  have hchg:∃g',base<=g'/\Chg g' (g'+1) w w'/\NoU w g':=by
   rcases h3 with ⟨rfl,rfl⟩|⟨g0,cap0,rfl,hg,hm,hr⟩
   ·exact⟨w.heap.size,h2,zK hgr (fun k hk=>by simp[Value.ownBlock] at hk) hT,hT⟩
   ·exact⟨g0,hg,zK hgr (fun k hk=>by simpa[Value.ownBlock] using hk.symm) hr.noU,hr.noU⟩
  refine⟨v',w',hrun,⟨h1,q_l h2 hgr.size,?_⟩,hchg⟩
  rcases ho.2 with ⟨hv,h0⟩|⟨g,cap,cur,hv,hbg,hh,hnc',hcm',hcs,htk⟩
  ·exact .inl ⟨hv,h0⟩
  ·refine .inr ⟨g,cap,hv,hbg,hcm',?_⟩;obtain⟨g',hg',hc,hT'⟩:=hchg;have hNg:N<=g':=by omega
   have hx:∀k,k<(n+m)*4->w'.cell? ⟨g,k,none⟩=(xs++news)[k]?:=by
    intro k hk;rw[qh hh,<-htk,List.getElem?_take,if_pos hk];simp
   have hxl:xs.length=n*4:=hown.1;refine⟨by omega,hnc',⟨cur,hh,hcs⟩,fun j hj=>?_⟩
   by_cases hjn:j<n
   ·unfold cat;rw[if_pos hjn]
    rcases h3 with ⟨rfl,rfl⟩|⟨g0,cap0,rfl,hg,hm,hr⟩
    ·omega
    ·obtain⟨s',t',d0,d1,d2,d3,g1,g2⟩:=hr.2.2.2 j (by omega)
     have hy:∀k,k<n*4->w'.cell? ⟨g,k,none⟩=w.cell? ⟨g0,k,none⟩:=fun k hk=>by
      rw[hx k (by omega),List.getElem?_append_left (by omega),hcell g0 k rfl hk]
     exact⟨s',t',(hy _ (by omega)).trans d0,(hy _ (by omega)).trans d1,(hy _ (by omega)).trans d2,(hy _ (by omega)).trans d3,g1.chg hc hNg,g2.chg hc hNg⟩
   ·unfold cat;rw[if_neg hjn];obtain⟨b',off',hA,-,-,hxx⟩:=hl.addr (by omega);injection hA with hA
    injection hA with e1 e2 e3
    subst e1 e2 e3;obtain⟨s',t',d0,d1,d2,d3,g1,g2⟩:=hxx (j-n) (by omega)
    have hy:∀k,n*4<=k->k<(n+m)*4->w'.cell? ⟨g,k,none⟩=w.cell? ⟨b,off+(k-n*4),none⟩:=fun k hk1 hk2=>by
     have hlt:k-n*4<m*4:=by omega
     rw[hx k hk2,List.getElem?_append_right (by omega),hxl];obtain⟨u',hu',-⟩:=hsrc (k-n*4) hlt;simp only[news,List.getElem?_map,List.getElem?_range hlt,Option.map_some];rw[hu',<-yj,hu'];rfl
    refine⟨s',t',?_,?_,?_,?_,g1.chg hc hNg,g2.chg hc hNg⟩
    ·rw[hy _ (by omega) (by omega),show off+(j*4-n*4)=off+(j-n)*4 by omega];exact d0
    ·rw[hy _ (by omega) (by omega),show off+(j*4+1-n*4)=off+(j-n)*4+1 by omega];exact d1
    ·rw[hy _ (by omega) (by omega),show off+(j*4+2-n*4)=off+(j-n)*4+2 by omega];exact d2
    ·rw[hy _ (by omega) (by omega),show off+(j*4+3-n*4)=off+(j-n)*4+3 by omega];exact d3
theorem ZG{o:Oper}{a:Act}{K:Act->World->Prop}{Q:Exit->Act->World->Prop}(s x:Operand) (t:TypeId) (ht:Tryz.prog.underlying t=some (.slice 48))
  (ho:o.op=.call { callee:=.builtin .append,args:=#[s,x],argTypes:=#[t,t] }){f:q_v}(hs:a.eval s=v) (h:Grow N base w v n f)
  {sv:Value}{y:q_v}(hx:a.eval x=sv) (hl:LsV N lo hi w sv m y) (hn:n+m<1000000000)
  (hK:∀A' c' w',Grow N base w' (.slice A' (n+m) c') (n+m) (cat n f y)->(∃g',base<=g'/\Chg g' (g'+1) w w'/\NoU w g')->K (a.put o.dst (.slice A' (n+m) c')) w'):o.wp Tryz.prog a w K Q:=by
 obtain⟨v',w',hrun,h1,h2⟩:=Zc t o.type ht h hl hn;unfold Oper.wp execOp;simp only[ho,resolve,invoke,builtin,Sem.run_bind,Sem.run_pure,Result.andThen_ok,List.map_toArray,List.map_cons,List.map_nil,hs,hx,hrun];obtain⟨A',c',rfl,-⟩:=h1.form;exact hK A' c' w' h1 h2
theorem yO{ops:Array Oper}{rest:List Oper}{o:Oper}{a:Act}{Q:Exit->Act->World->Prop}(hgd:o.guard=none) (s x:Operand) (t:TypeId) (ht:Tryz.prog.underlying t=some (.slice 48))
  (ho:o.op=.call { callee:=.builtin .append,args:=#[s,x],argTypes:=#[t,t] }){f:q_v}(hs:a.eval s=v) (h:Grow N base w v n f)
  {sv:Value}{y:q_v}(hx:a.eval x=sv) (hl:LsV N lo hi w sv m y) (hn:n+m<1000000000)
  (hK:∀A' c' w',Grow N base w' (.slice A' (n+m) c') (n+m) (cat n f y)->(∃g',base<=g'/\Chg g' (g'+1) w w'/\NoU w g')->wpList Tryz.prog ops Q rest (a.put o.dst (.slice A' (n+m) c')) w'):wpList Tryz.prog ops Q (o :: rest) a w :=
 wpList_plain hgd fun _ hK'=>ZG s x t ht ho hs h hx hl hn (fun A' c' w' a1 a2=>hK' _ _ (hK A' c' w' a1 a2))
def xe (N lo hi:Nat) (w:World) (v:Value) (m n:Nat) (A:q_m):Prop :=
 N<=lo/\lo<=hi/\hi<=w.heap.size/\((v=.slice none 0 0/\m=0)\/∃h cap β κ,v=.slice (some ⟨h,0,none⟩) m cap/\cap<=maxLen/\zt N lo hi w h cap m n β κ A)
section
variable {N lo hi:Nat}{w w':World}{v:Value}{m n:Nat}{A:q_m}
theorem xe.empty(hN:N<=lo) (hb:lo<=g) (hg:g<hi) (hs:hi<=w.heap.size) (h:w.heap[g]?=some (.cells #[] 24 (0,0))) (A:q_m):xe N lo hi w (.slice (some ⟨g,0,none⟩) 0 0) 0 n A :=
 ⟨hN,by omega,hs,.inr ⟨g,0,fun _=>0,fun _=>0,rfl,Nat.zero_le _,⟨hN,⟨#[],h,rfl,fun i hi=>by omega⟩,q_r,hb,hg,hs,fun i hi=>by omega,fun i hi=>by omega,fun i hi=>by omega,fun i hi=>by omega,fun i j hi=>by omega⟩⟩⟩
theorem xe.ext (h:xe N lo hi w v m n A) (e:Ext w w'):xe N lo hi w' v m n A:=by
 obtain⟨h1,h2,h3,h4⟩:=h;refine⟨h1,h2,q_l h3 e.size,?_⟩
 rcases h4 with h4|⟨h,cap,β,κ,hv,hc,ho⟩
 ·exact .inl h4
 ·exact .inr ⟨h,cap,β,κ,hv,hc,ho.ext e⟩
theorem xe.chg (h:xe N lo hi w v m n A){l u:Nat}(c:Chg l u w w') (hN:N<=l) (hd:hi<=l\/u<=lo):xe N lo hi w' v m n A:=by
 obtain⟨h1,h2,h3,h4⟩:=h;refine⟨h1,h2,q_l h3 c.size,?_⟩
 rcases h4 with h4|⟨h,cap,β,κ,hv,hc,ho⟩
 ·exact .inl h4
 ·exact .inr ⟨h,cap,β,κ,hv,hc,ho.chg c hN hd⟩
theorem xe.congr {B:q_m}(h:xe N lo hi w v m n A) (he:∀i,i<m->∀j,j<n->A i j=B i j):xe N lo hi w v m n B:=by
 obtain⟨a1,a2,a3,h4⟩:=h;refine⟨a1,a2,a3,?_⟩
 rcases h4 with h4|⟨h,cap,β,κ,hv,hc,ho⟩
 ·exact .inl h4
 ·exact .inr ⟨h,cap,β,κ,hv,hc,ho.congr he⟩
theorem xe.own (h:xe N lo hi w v m n A) (hm:0<m):∃h cap β κ,v=.slice (some ⟨h,0,none⟩) m cap/\cap<=maxLen/\zt N lo hi w h cap m n β κ A:=by
 obtain⟨-,-,-,⟨rfl,rfl⟩|⟨h,cap,β,κ,rfl,hc,ho⟩⟩:=h
 ·omega
 ·exact⟨h,cap,β,κ,rfl,hc,ho⟩
theorem ZL (t ty:TypeId) (ht:Tryz.prog.underlying t=some (.slice 24)) (h:xe N lo hi w v m n A){cap:Nat}{x:q_v}(hr:kH N w b cap n x) (hb:hi<=b) (hcm:cap<=maxLen)
  {bx:Nat}{fr:Nat×Nat}(hbx:w.heap[bx]?=some (.cells #[.slice (some ⟨b,0,none⟩) n cap] 24 fr)) (hm:m<1000000000) :
  ∃h' cap' w',(Builtin.append_ #[t,t] ty #[v,.slice (some ⟨bx,0,none⟩) 1 1]).run Tryz.prog w=.ok (.slice (some ⟨h',0,none⟩) (m+1) cap') w'/\xe N lo w'.heap.size w' (.slice (some ⟨h',0,none⟩) (m+1) cap') (m+1) n (xI A m x)/\(∃g',lo<=g'/\Chg g' (g'+1) w w'/\NoU w g'):=by
 obtain⟨i0,hi0,hz0,hz1,hz2⟩:=info_parts XJ;obtain⟨h1,h2,h3,h4⟩:=h;have hT:NoU w w.heap.size:=fun cs fr h=>by rw[Array.getElem?_eq_none (q_r)] at h;cases h
 have hown:∃xs,w.ownsRow lo 24 1 v m xs:=by
  rcases h4 with ⟨rfl,rfl⟩|⟨h,cap,β,κ,rfl,hc,ho⟩
  ·exact⟨[],by simp,.inl ⟨rfl,rfl⟩⟩
  ·obtain⟨hs,a1,a2,a3⟩:=ho.hh;have:=ho.mle;exact⟨hs.toList.take (m*1),by rw[List.length_take];simp;omega,.inr ⟨h,cap,hs,rfl,ho.hlo,a1,ho.mle,hc,by omega,rfl⟩⟩
 obtain⟨xs,hown⟩:=hown
 obtain⟨g,cap',w',hrun,ho',hgr,hat,hlt⟩:=run_append_lies (P:=Tryz.prog) w t ty lo 24 i0 _ 1 24 ht hi0 hz0 hz1 hz2 rfl (by omega) v m xs hown ⟨bx,0,none⟩ 1 1 [.slice (some ⟨b,0,none⟩) n cap] rfl
  (fun j u hj=>by
   rw[yj,Nat.zero_add,qh hbx]
   simpa using hj)
  (fun u hu=>by simp at hu;subst hu;rfl) (by omega) (by unfold maxLen;omega) (by omega) (by omega) w.heap.size rfl
 have hchg:∃g',lo<=g'/\Chg g' (g'+1) w w'/\NoU w g'/\(∀cs,w.heap[g']?≠some (.cells cs 48 (0,0))):=by
  rcases h4 with ⟨rfl,rfl⟩|⟨h,cap,β,κ,rfl,hc,ho⟩
  ·exact⟨w.heap.size,by omega,zK hgr (fun k hk=>by simp[Value.ownBlock] at hk) hT,hT,fun cs h=>by rw[Array.getElem?_eq_none (q_r)] at h;cases h⟩
  ·refine⟨h,ho.hlo,zK hgr (fun k hk=>by simpa[Value.ownBlock] using hk.symm) ho.noU,ho.noU,fun cs hcs=>?_⟩;obtain⟨hs,a1,-,-⟩:=ho.hh;rw[a1] at hcs;injection hcs with hcs
   injection hcs with _ hcs
   exact absurd hcs (by decide)
 obtain⟨g',hg',hc',hT',hty⟩:=hchg;refine⟨g,cap',w',hrun,?_,g',hg',hc',hT'⟩
 rcases ho'.2 with ⟨h,_⟩|⟨g2,cap2,cur,hv,hbg,hh,hnc,hcm',hcs,htk⟩
 ·cases h
 ·injection hv with e1 _ e3
  injection e1 with e1
  injection e1 with e1 _
  subst e1 e3
  have hrow:∀ {b k x},kH N w b k n x->kH N w' b k n x:=fun {b k x} hr=>by
   refine hr.chg hc' (by omega) ?_
   have:b≠g':=by
    rintro rfl;obtain⟨-,-,⟨cs,h5,-⟩,-⟩:=hr;exact hty cs h5
   omega
  have hxl:xs.length=m:=by have:=hown.1;omega
  have hx:∀k,k<m+1->cur[k]?=(xs ++ [.slice (some ⟨b,0,none⟩) n cap])[k]?:=by
   intro k hk;rw[<-htk,List.getElem?_take,if_pos (by omega)];simp
  have hbl:=(hrow hr).lt;have hsz:=hgr.size;refine⟨h1,by omega,q_r,?_⟩
  rcases h4 with ⟨rfl,rfl⟩|⟨h,cap0,β,κ,rfl,hc,ho⟩
  ·refine .inr ⟨g,cap',fun _=>b,fun _=>cap,rfl,hcm',⟨h1,⟨cur,hh,by omega,fun i hi'=>?_⟩,by omega,hbg,by omega,q_r,fun i _=>by omega,fun i _=>hbl,fun i _=>hcm,fun i hi'=>?_,fun i j hi' hj' hij=>by omega⟩⟩
   ·rw[hx i (by omega),List.getElem?_append_right (by omega),show i-xs.length=0 by omega];rfl
   ·obtain rfl:i=0:=by omega
    rw[xX];exact hrow hr
  ·obtain⟨hs,a1,a2,a3⟩:=ho.hh;have hme:=ho.mle
   have hxs:xs=hs.toList.take (m*1):=by
    rcases hown.2 with ⟨h9,_⟩|⟨g9,c9,cur9,hv9,_,hh9,_,_,_,ht9⟩
    ·cases h9
    ·have e1:h=g9:=Option.some.inj (congrArg Value.ownBlock hv9);clear hv9;subst e1;rw[a1] at hh9;have e2:hs=cur9:=congrArg (fun o:Option Obj=>match o with|some (.cells c _ _)=>c|_=>#[]) hh9;subst e2;exact ht9.symm
   refine .inr ⟨g,cap',fun i=>if i=m then b else β i,fun i=>if i=m then cap else κ i,rfl,hcm',⟨h1,⟨cur,hh,by omega,fun i hi'=>?_⟩,by omega,hbg,by omega,q_r,fun i hi'=>?_,fun i hi'=>?_,fun i hi'=>?_,fun i hi'=>?_,fun i j hi' hj' hij=>?_⟩⟩
   ·by_cases him:i=m
    ·subst him;rw[hx i (by omega),List.getElem?_append_right (by omega),show i-xs.length=0 by omega]
     simp
    ·rw[hx i (by omega),List.getElem?_append_left (by omega),hxs,List.getElem?_take,if_pos (by omega)];simp only[him,if_false];have h8:=a3 i (by omega);rw[Array.getElem?_toList];exact h8
   ·by_cases him:i=m
    ·simp only[him,if_true];omega
    ·simp only[him,if_false];exact ho.lo_ i (by omega)
   ·by_cases him:i=m
    ·simp only[him,if_true];exact hbl
    ·simp only[him,if_false];have:=ho.hi_ i (by omega);omega
   ·by_cases him:i=m
    ·simp only[him,if_true];exact hcm
    ·simp only[him,if_false];exact ho.cap i (by omega)
   ·by_cases him:i=m
    ·simp only[him,if_true];rw[xX];exact hrow hr
    ·simp only[him,if_false];rw[Xd A x him];exact hrow (ho.row i (by omega))
   ·by_cases him:i=m
    ·have hjm:j≠m:=by omega
     simp only[him,hjm,if_true,if_false];have:=ho.hi_ j (by omega);omega
    ·by_cases hjm:j=m
     ·simp only[him,hjm,if_true,if_false];have:=ho.hi_ i (by omega);omega
     ·simp only[him,hjm,if_false];exact ho.inj i j (by omega) (by omega) hij
end
theorem KZ{A:q_m}{o:Oper}{a:Act}{K:Act->World->Prop}{Q:Exit->Act->World->Prop}(s x:Operand) (t:TypeId) (ht:Tryz.prog.underlying t=some (.slice 24))
  (ho:o.op=.call { callee:=.builtin .append,args:=#[s,x],argTypes:=#[t,t] }) (hs:a.eval s=v) (h:xe N lo hi w v m n A){bx:Nat}(hx:a.eval x=.slice (some ⟨bx,0,none⟩) 1 1){cap:Nat}{f:q_v}(hr:kH N w b cap n f) (hb:hi<=b) (hcm:cap<=maxLen)
  {fr:Nat×Nat}(hbx:w.heap[bx]?=some (.cells #[.slice (some ⟨b,0,none⟩) n cap] 24 fr)) (hm:m<1000000000)
  (hK:∀h' cap' w',xe N lo w'.heap.size w' (.slice (some ⟨h',0,none⟩) (m+1) cap') (m+1) n (xI A m f)->(∃g',lo<=g'/\Chg g' (g'+1) w w'/\NoU w g')->K (a.put o.dst (.slice (some ⟨h',0,none⟩) (m+1) cap')) w'):o.wp Tryz.prog a w K Q:=by
 obtain⟨h',cap',w',hrun,h1,h2⟩:=ZL t o.type ht h hr hb hcm hbx hm;unfold Oper.wp execOp;simp only[ho,resolve,invoke,builtin,Sem.run_bind,Sem.run_pure,Result.andThen_ok,List.map_toArray,List.map_cons,List.map_nil,hs,hx,hrun];exact hK h' cap' w' h1 h2
theorem xW{A:q_m}{ops:Array Oper}{rest:List Oper}{o:Oper}{a:Act}{Q:Exit->Act->World->Prop}(hgd:o.guard=none) (s x:Operand) (t:TypeId) (ht:Tryz.prog.underlying t=some (.slice 24))
  (ho:o.op=.call { callee:=.builtin .append,args:=#[s,x],argTypes:=#[t,t] }) (hs:a.eval s=v) (h:xe N lo hi w v m n A){bx:Nat}(hx:a.eval x=.slice (some ⟨bx,0,none⟩) 1 1){cap:Nat}{f:q_v}(hr:kH N w b cap n f) (hb:hi<=b) (hcm:cap<=maxLen)
  {fr:Nat×Nat}(hbx:w.heap[bx]?=some (.cells #[.slice (some ⟨b,0,none⟩) n cap] 24 fr)) (hm:m<1000000000)
  (hK:∀h' cap' w',xe N lo w'.heap.size w' (.slice (some ⟨h',0,none⟩) (m+1) cap') (m+1) n (xI A m f)->(∃g',lo<=g'/\Chg g' (g'+1) w w'/\NoU w g')->wpList Tryz.prog ops Q rest (a.put o.dst (.slice (some ⟨h',0,none⟩) (m+1) cap')) w'):wpList Tryz.prog ops Q (o :: rest) a w :=
 wpList_plain hgd fun _ hK'=>KZ s x t ht ho hs h hx hr hb hcm hbx hm (fun h' cap' w' a1 a2=>hK' _ _ (hK h' cap' w' a1 a2))
def x9 (N:Nat) (w:World) (m n:Nat) (A:q_m) (e:Ending) (w':World):Prop:=∃h cap β κ,e=.returned (.slice (some ⟨h,0,none⟩) m cap)/\cap<=maxLen/\zt N w.heap.size w'.heap.size w' h cap m n β κ A/\Ext w w'
def q6J (N:Nat) (w:World) (n:Nat) (x:q_v) (e:Ending) (w':World):Prop:=∃A c,e=.returned (.slice A n c)/\LsV N w.heap.size w'.heap.size w' (.slice A n c) n x/\Ext w w'
def q2P (N:Nat) (w:World) (m n:Nat) (X:q_m) (e:Ending) (w':World):Prop:=∃A c,e=.returned (.slice A m c)/\MtV N w.heap.size w'.heap.size w' (.slice A m c) m n X/\Ext w w'
theorem x9.mt{A:q_m}{e:Ending}(h:x9 N w m n A e w'):q2P N w m n A e w':=by
 obtain⟨h,cap,β,κ,he,hc,ho,hx⟩:=h;exact⟨_,_,he,ho.mtv ho.mle hc,hx⟩
theorem q3m(hN:N<=w.heap.size) (n:Int) (h1 : -9223372036854775808<=n) (h2:n<=9223372036854775807) :
  Calls Tryz.prog 56 #[.int .i64 n] w (yt N w (n:Rat)):=by
 go_enter Tryz.func56,Tryz.ntmps56;go_wp2_with (go_at_call 17;refine q_o ?_);refine qR ?_;intro W hE hsz B0;refine (xq (N:=N) (by have:=hE.size;omega) n h1 h2).mono ?_;intro e w1 hh;obtain⟨b1,A1,k1,c1,A2,k2,c2,rfl,hb1,g1,g2,e1⟩:=hh.form;have B1:=e1.block B0;obtain⟨r0,r1,r2,r3,r4,r5,r6,r7⟩:=cells4 B1;go_wp2;exact qX rfl rfl rfl (hE.trans e1) B1 (by omega) hN g1 g2 hb1
theorem q3l(hN:N<=w.heap.size) (m n:Nat){M' N':Int}(hM':M'=(m:Int)) (hN':N'=(n:Int)) (hm:m<1000000) (hn0:0<n) (hn:n<1000000) :
  Calls Tryz.prog 55 #[.int .i64 M',.int .i64 N'] w (x9 N w m n (fun _ _=>0)):=by
 subst hM' hN';go_enter Tryz.func55,Tryz.ntmps55
 go_upto_block 0 with (fail)
 refine qp ?_;intro W hE hsz B0;have hG0:xe N w.heap.size W.heap.size W (.slice (some ⟨w.heap.size,0,none⟩) 0 0) 0 n (fun _ _=>0):=xe.empty hN (q_r) (by omega) (q_r) B0 _;clear B0;go_wp2
 go_loopw [5,6] (fun v i wr=>∃k:Nat,k<=m/\i=.int .i64 k/\Ext w wr/\∃h c,v=.slice (some ⟨h,0,none⟩) k c/\xe N w.heap.size wr.heap.size wr (.slice (some ⟨h,0,none⟩) k c) k n (fun _ _=>0)) (fun _ i _=>m-(intOf i).toNat)
 case atStart=>exact⟨0,Nat.zero_le _,rfl,hE,_,_,rfl,hG0⟩
 case round =>
  clear hG0 hE hsz;obtain⟨k,hk,rfl,hE,h,c,rfl,hG⟩:=hrel;have hsz:=hE.size
  by_cases hlt:k<m
  ·go_upto_block 2 with (fail)
   refine qp ?_;intro W1 e1 hsz1 B1;have hR:Grow N wr.heap.size W1 (.slice (some ⟨wr.heap.size,0,none⟩) 0 0) 0 (fun _=>0):=Grow.empty (by omega) (q_r) B1 _;replace hG:=hG.ext e1;replace hE:=hE.trans e1;clear B1;go_wp2
   go_loopw [7,8] (fun v i ws=>∃j:Nat,j<=n/\i=.int .i64 j/\Ext w ws/\wr.heap.size<=ws.heap.size/\xe N w.heap.size wr.heap.size ws (.slice (some ⟨h,0,none⟩) k c) k n (fun _ _=>0)/\∃A' c',v=.slice A' j c'/\Grow N wr.heap.size ws (.slice A' j c') j (fun _=>0)) (fun _ i _=>n-(intOf i).toNat)
   case atStart=>exact⟨0,Nat.zero_le _,rfl,hE,by omega,hG,_,_,rfl,hR⟩
   case round =>
    clear hG hE hR hsz1 e1;obtain⟨j,hj,rfl,hE,hsz1,hG,A',c',rfl,hR⟩:=hrel
    by_cases hlt':j<n
    ·go_wp2_with (go_at_call 56;refine q_o ?_);refine (q3m (N:=N) (by omega) 0 (by omega) (by omega)).mono ?_;intro e w1 hh;obtain⟨b1,A1,k1,c1,A2,k2,c2,rfl,hb1,g1,g2,e1⟩:=hh.form;go_wp2_with (at_builtin;refine q_o ?_);refine qp ?_;intro w2 e2 hsz2 BX;replace hE:=(hE.trans e1).trans e2;replace hG:=(hG.ext e1).ext e2;replace hR:=(hR.ext e1).ext e2;replace hsz1:=q_l hsz1 (q_l e1.size e2.size);refine kS rfl _ _ 24 Tryz.underlying24 rfl rfl hR rfl BX hb1 (g1.ext e2) (g2.ext e2) (by omega) ?_;rintro g cap w3 hR3 ⟨g',hg',c3,-⟩ hlt3;replace hE:=c3.ext hE (by omega);replace hG:=hG.chg c3 (by omega) (.inl hg');replace hR3:=hR3.congr (y:=fun _=>0) (fun i _=>by unfold upd;split<;>rfl);replace hsz1:=q_l hsz1 c3.size;clear hR c3 g1 g2 e1 e2 BX hlt3;go_wp2;go_roundw
     case rel=>exact⟨j+1,by omega,by go_num,hE,hsz1,hG,_,_,rfl,hR3⟩
     case measure=>simp[intOf];omega
    ·obtain rfl:j=n:=by omega
     obtain⟨g,cap,hv,hg,hgs,hcm,hnc,hrow⟩:=hR.some hn0;injection hv with e1 e2 e3
     subst e1 e3;go_wp2_with (at_builtin;refine q_o ?_);refine qp ?_;intro w2 e2 hsz2 BX;replace hE:=hE.trans e2;replace hG:=hG.ext e2;refine xW rfl _ _ 42 Tryz.underlying42 rfl rfl hG rfl (hrow.ext e2) hg hcm BX (by omega) ?_;rintro h' cap' w3 hG3 ⟨g',hg',c3,-⟩;replace hE:=c3.ext hE (by omega);replace hG3:=hG3.congr (B:=fun _ _=>0) (fun i _ j _=>by unfold xI;split<;>rfl);clear hG hR c3 hrow BX e2;go_wp2;go_roundw
     case rel=>exact⟨k+1,by omega,by go_num,hE,_,_,rfl,hG3⟩
     case measure=>simp[intOf];omega
  ·obtain rfl:k=m:=by omega
   obtain⟨h',cap,β,κ,hv,hc,ho⟩:∃h' cap β κ,Value.slice (some ⟨h,0,none⟩) k c=.slice (some ⟨h',0,none⟩) k cap/\cap<=maxLen/\zt N w.heap.size wr.heap.size wr h' cap k n β κ (fun _ _=>0):=by
    obtain⟨-,-,-,⟨h9,-⟩|h9⟩:=hG
    ·cases h9
    ·exact h9
   have HV:=q_h hv;clear hv;go_wp2;go_ret;exact⟨h',cap,β,κ,by rw[HV.out];rfl,hc,ho,hE⟩
theorem At4.open{o:Nat}(h:At4 N w b o (raw q)):∃(B:Bool) (A:Option Addr) (n c:Nat) (A':Option Addr) (n' c':Nat),w.cell? ⟨b,o,none⟩=some (.bool B)/\w.cell? ⟨b,o+1,none⟩=some (.slice A n c)/\w.cell? ⟨b,o+2,none⟩=some (.bool false)/\w.cell? ⟨b,o+3,none⟩=some (.slice A' n' c')/\Hid (B=decide (q.num<0))/\Gs N w (.slice A n c) (dg q.num.natAbs)/\Gs N w (.slice A' n' c') (dg q.den):=by
 obtain⟨s,t,h0,h1,h2,h3,g1,g2⟩:=h;obtain⟨A,n,c,rfl,-,-,-⟩:=g1.form;obtain⟨A',n',c',rfl,-,-,-⟩:=g2.form;exact⟨_,A,n,c,A',n',c',h0,h1,h2,h3,rfl,g1,g2⟩
theorem Vg {F:World->Prop}{o0:Obj}(h:∀w1,Ext w w1->w.heap.size+1<=w1.heap.size->w1.heap[w.heap.size]?=some o0->F w1):F (w.alloc o0).drew:=by
 refine h _ ((Ext.refl w).alloc _).drew ?_ (heap_alloc_new w o0);have:=(qp (F:=fun W=>w.heap.size+1<=W.heap.size) (w:=w) (o0:=o0) (fun _ _ h _=>h))
 exact this
theorem kH.at_{x:q_v}(h:kH N w b k n x)(hi:i<n):∃(B:Bool) (A:Option Addr) (n c:Nat) (A':Option Addr) (n' c':Nat),w.cell? ⟨b,i*4,none⟩=some (.bool B)/\w.cell? ⟨b,i*4+1,none⟩=some (.slice A n c)/\w.cell? ⟨b,i*4+2,none⟩=some (.bool false)/\w.cell? ⟨b,i*4+3,none⟩=some (.slice A' n' c') /\
  w.frozen? ⟨b,i*4,none⟩=false/\w.frozen? ⟨b,i*4+1,none⟩=false/\w.frozen? ⟨b,i*4+2,none⟩=false/\w.frozen? ⟨b,i*4+3,none⟩=false/\Hid (B=decide ((x i).num<0))/\Gs N w (.slice A n c) (dg (x i).num.natAbs)/\Gs N w (.slice A' n' c') (dg (x i).den):=by
 obtain⟨B,A,n,c,A',n',c',h0,h1,h2,h3,h4,h5,h6⟩:=(h.2.2.2 i hi).open;exact⟨B,A,n,c,A',n',c',h0,h1,h2,h3,h.frozen _,h.frozen _,h.frozen _,h.frozen _,h4,h5,h6⟩
theorem LsV.addr{x:q_v}(h:LsV N lo hi w (.slice A n c) n x) (hn:0<n):∃b off,A=some ⟨b,off,none⟩/\lo<=b/\b<hi/\∀i,i<n->At4 N w b (off+i*4) (raw (x i)):=LsR.addr h hn
theorem MtV.addr{X:q_m}(h:MtV N lo hi w (.slice A m c) m n X) (hm:0<m):∃b off,A=some ⟨b,off,none⟩/\lo<=b/\b<hi/\∀i,i<m->∃(A':Option Addr) (c':Nat),w.cell? ⟨b,off+i,none⟩=some (.slice A' n c')/\n<=c'/\c'<=maxLen/\LsV N lo hi w (.slice A' n c') n (X i):=MtR.addr h hm
theorem LsV.ext{x:q_v}(h:LsV N lo hi w v n x) (e:Ext w w'):LsV N lo hi w' v n x:=LsR.ext h e
theorem MtV.ext{X:q_m}(h:MtV N lo hi w v m n X) (e:Ext w w'):MtV N lo hi w' v m n X:=MtR.ext h e
theorem LsV.congr{x y:q_v}(h:LsV N lo hi w v n x) (he:∀i,i<n->x i=y i):LsV N lo hi w v n y:=LsR.congr h (fun i hi=>by rw[he i hi])
theorem LsV.le{x:q_v}(h:LsV N lo hi w v n x):N<=w.heap.size:=LsR.le h
theorem MtV.le{X:q_m}(h:MtV N lo hi w v m n X):N<=w.heap.size:=MtR.le h
theorem LsV.form{x:q_v}(h:LsV N lo hi w v n x):∃(A:Option Addr) (c:Nat),v=.slice A n c/\n<=c/\c<=maxLen:=LsR.form h
theorem MtV.form{X:q_m}(h:MtV N lo hi w v m n X):∃(A:Option Addr) (c:Nat),v=.slice A m c/\m<=c/\c<=maxLen:=MtR.form h
theorem MtV.congr{X Y:q_m}(h:MtV N lo hi w v m n X) (he:∀i,i<m->∀j,j<n->X i j=Y i j):MtV N lo hi w v m n Y:=MtR.congr h (fun _ _=>rfl) (fun i hi j hj=>by rw[he i hi j hj])
theorem VQ:(Tryz.prog.info? 3).map (fun i=>(i.zero,i.size,i.bytes))=some (some (.int .i64 0),1,8):=by kernel_rfl
abbrev i64v (x:Nat):Value:=.int .i64 ((x:Nat):Int)
def IsV (lo hi:Nat) (w:World) (v:Value) (p:List Nat):Prop :=
 hi<=w.heap.size/\∃(A:Option Addr) (c:Nat),v=.slice A p.length c/\p.length<=c/\c<=maxLen /\
  (0<p.length->∃b off,A=some ⟨b,off,none⟩/\lo<=b/\b<hi/\∀i,i<p.length->w.cell? ⟨b,off+i,none⟩=some (.int .i64 ((p[i]?.getD 0:Nat):Int)))
def je (base:Nat) (w:World) (v:Value) (p:List Nat):Prop:=base<=w.heap.size/\w.ownsRow base 3 1 v p.length (p.map i64v)
theorem je.nil(h:base<=w.heap.size):je base w (.slice none 0 0) []:=⟨h,by simp,.inl ⟨rfl,rfl⟩⟩
theorem je.ext{p:List Nat}(h:je base w v p) (e:Ext w w'):je base w' v p:=by
 refine⟨q_l h.1 e.size,h.2.1,?_⟩
 rcases h.2.2 with h0|⟨g,cap,cur,hv,hb,hh,h1,h2,h3,h4⟩
 ·exact .inl h0
 ·exact .inr ⟨g,cap,cur,hv,hb,e.block hh,h1,h2,h3,h4⟩
theorem je.chg {l u:Nat}{p:List Nat}(h:je base w v p) (c:Chg l u w w') (hd:u<=base):je base w' v p:=by
 refine⟨q_l h.1 c.size,h.2.1,?_⟩
 rcases h.2.2 with h0|⟨g,cap,cur,hv,hb,hh,h1,h2,h3,h4⟩
 ·exact .inl h0
 ·exact .inr ⟨g,cap,cur,hv,hb,c.blk hh (by omega),h1,h2,h3,h4⟩
theorem je.isv{p:List Nat}(h:je base w v p)(hl:lo<=base):IsV lo w.heap.size w v p:=by
 refine⟨q_r,?_⟩
 rcases h.2.2 with ⟨rfl,h0⟩|⟨g,cap,cur,rfl,hb,hh,h1,h2,h3,h4⟩
 ·exact⟨none,0,by rw[h0],by omega,Nat.zero_le _,fun h=>absurd h (by omega)⟩
 ·refine⟨_,cap,rfl,h1,h2,fun hn=>⟨g,0,rfl,by omega,qF hh,fun i hi=>?_⟩⟩;rw[Nat.zero_add,qh hh];have e1:cur[i]?=(cur.toList.take (p.length*1))[i]?:=by rw[List.getElem?_take,if_pos (by omega)];simp
  rw[e1,h4,List.getElem?_map,List.getElem?_eq_getElem (by omega)]
  simp
theorem ZM(t ty:TypeId) (ht:Tryz.prog.underlying t=some (.slice 3)){p:List Nat}(h:je base w v p)
{z:Nat}{fr:Nat×Nat}(hb:w.heap[b]?=some (.cells #[.int .i64 (z:Int)] 3 fr)) (hn:p.length<1000000000) :
  ∃g cap w',(Builtin.append_ #[t,t] ty #[v,.slice (some ⟨b,0,none⟩) 1 1]).run Tryz.prog w=.ok (.slice (some ⟨g,0,none⟩) (p.length+1) cap) w'/\je base w' (.slice (some ⟨g,0,none⟩) (p.length+1) cap) (p ++ [z])/\(∃g',base<=g'/\Chg g' (g'+1) w w'/\NoU w g'):=by
 obtain⟨i0,hi0,hz0,hz1,hz2⟩:=info_parts VQ;obtain⟨h1,hown⟩:=h
 obtain⟨g,cap,w',hrun,ho,hgr,hat,hlt⟩:=run_append_lies (P:=Tryz.prog) w t ty base 3 i0 _ 1 8 ht hi0 hz0 hz1 hz2 rfl (by omega) v p.length (p.map i64v) hown ⟨b,0,none⟩ 1 1 [.int .i64 (z:Int)] rfl
  (fun j u hj=>by
   rw[yj,Nat.zero_add,qh hb]
   simpa using hj)
  (fun u hu=>by simp at hu;subst hu;rfl) (by omega) (by unfold maxLen;omega) (by omega) h1 w.heap.size rfl
 refine⟨g,cap,w',hrun,⟨q_l h1 hgr.size,?_⟩,?_⟩
 ·rw[List.map_append,List.length_append];exact ho
 ·have hT:NoU w w.heap.size:=fun cs fr h=>by rw[Array.getElem?_eq_none (q_r)] at h;cases h
  rcases hown.2 with ⟨rfl,h0⟩|⟨g0,cap0,cur,rfl,hb0,hh,_⟩
  ·exact⟨w.heap.size,h1,zK hgr (fun k hk=>by simp[Value.ownBlock] at hk) hT,hT⟩
  ·have hT0:NoU w g0:=NoU.mk hh (by decide);exact⟨g0,hb0,zK hgr (fun k hk=>by simpa[Value.ownBlock] using hk.symm) hT0,hT0⟩
theorem Xa{o:Oper}{a:Act}{K:Act->World->Prop}{Q:Exit->Act->World->Prop}(s x:Operand) (t:TypeId) (ht:Tryz.prog.underlying t=some (.slice 3))
  (ho:o.op=.call { callee:=.builtin .append,args:=#[s,x],argTypes:=#[t,t] }){p:List Nat}(hs:a.eval s=v) (h:je base w v p)
(hx:a.eval x=.slice (some ⟨b,0,none⟩) 1 1){z:Nat}{fr:Nat×Nat}(hb:w.heap[b]?=some (.cells #[.int .i64 (z:Int)] 3 fr)) (hn:p.length<1000000000)
  (hK:∀g cap w',je base w' (.slice (some ⟨g,0,none⟩) (p.length+1) cap) (p ++ [z])->(∃g',base<=g'/\Chg g' (g'+1) w w'/\NoU w g')->K (a.put o.dst (.slice (some ⟨g,0,none⟩) (p.length+1) cap)) w'):o.wp Tryz.prog a w K Q:=by
 obtain⟨g,cap,w',hrun,h1,h2⟩:=ZM t o.type ht h hb hn;unfold Oper.wp execOp;simp only[ho,resolve,invoke,builtin,Sem.run_bind,Sem.run_pure,Result.andThen_ok,List.map_toArray,List.map_cons,List.map_nil,hs,hx,hrun];exact hK g cap w' h1 h2
theorem wR{ops:Array Oper}{rest:List Oper}{o:Oper}{a:Act}{Q:Exit->Act->World->Prop}(hgd:o.guard=none) (s x:Operand) (t:TypeId) (ht:Tryz.prog.underlying t=some (.slice 3))
  (ho:o.op=.call { callee:=.builtin .append,args:=#[s,x],argTypes:=#[t,t] }){p:List Nat}(hs:a.eval s=v) (h:je base w v p)
(hx:a.eval x=.slice (some ⟨b,0,none⟩) 1 1){z:Nat}{fr:Nat×Nat}(hb:w.heap[b]?=some (.cells #[.int .i64 (z:Int)] 3 fr)) (hn:p.length<1000000000)
  (hK:∀g cap w',je base w' (.slice (some ⟨g,0,none⟩) (p.length+1) cap) (p ++ [z])->(∃g',base<=g'/\Chg g' (g'+1) w w'/\NoU w g')->wpList Tryz.prog ops Q rest (a.put o.dst (.slice (some ⟨g,0,none⟩) (p.length+1) cap)) w'):wpList Tryz.prog ops Q (o :: rest) a w :=
 wpList_plain hgd fun _ hK'=>Xa s x t ht ho hs h hx hb hn (fun g cap w' a1 a2=>hK' _ _ (hK g cap w' a1 a2))
def xg (n:Nat) (p:Nat->Bool):Bool:=(List.range n).any p
theorem jT{p:Nat->Bool}(hi:i<n) (h:p i=true):xg n p=true:=by
 unfold xg;rw[List.any_eq_true];exact⟨i,List.mem_range.2 hi,h⟩
theorem zT{p:Nat->Bool}:xg n p=false↔∀i,i<n->p i=false:=by simp[xg]
theorem WB (n:Nat) (p:Nat->Bool):(!xg n (fun i=>!p i))=allB n p:=by
 cases h:allB n p with
 | true =>
  have:xg n (fun i=>!p i)=false:=zT.2 (fun i hi=>by rw[ql.1 h i hi];rfl);rw[this];rfl
 | false =>
  cases h2:xg n (fun i=>!p i) with
  | true=>rfl
  | false =>
   have:allB n p=true:=ql.2 (fun i hi=>by have:=zT.1 h2 i hi;simpa using this);rw[this] at h;cases h
def WG (w:World) (r:Bool) (e:Ending) (w':World):Prop:=∃z:Int,e=.returned (.int .i64 z)/\Hid (r=decide (0<=z))/\Ext w w'
theorem WN{R:Nat->Raw}(h:LsR N lo hi w v n R)  (g:Nat->Bool)
  (hf:∀i,i<n->∀w' u,Ext w w'->ZE N w' u (R i)->Calls Tryz.prog 192 #[u] w' (zI w' (.bool (g i)))) :
  Calls Tryz.prog 149 #[v,.func (.func 192) #[] #[]] w (WG w (xg n g)):=by
 obtain⟨r,hr⟩:=qc (xg n g);rw[<-hr.out];obtain⟨A,c,rfl,hnc,hcm⟩:=h.form;unfold maxLen at hcm;have hI:=h;have HF:=q_h hf;clear h hf;go_enter Tryz.func149,Tryz.ntmps149;go_wp2
 go_loopw [8] (fun i wr=>∃k:Nat,k<=n/\i=.int .i64 k/\Hid (∀j,j<k->g j=false)/\Ext w wr) (fun i _=>n-(intOf i).toNat)
 case atStart=>exact⟨0,Nat.zero_le _,rfl,fun j hj=>absurd hj (by omega),Ext.refl w⟩
 case round =>
  obtain⟨k,hk,rfl,HA,hE⟩:=hrel
  by_cases hlt:k<n
  ·(obtain⟨b,off,rfl,-,-,hx⟩:=(hI.ext hE).addr (by omega));(obtain⟨A1,n1,c1,A2,n2,c2,p0,p1,p2,p3,hv⟩:=(hx k hlt).val)
   clear hx;go_wp2_with (go_at_call 192;refine q_o ?_);refine (HF.out k hlt _ _ hE hv).mono ?_;rintro e w1 ⟨rfl,e1⟩;replace hE:=hE.trans e1;obtain⟨o,ho⟩:=qc (g k);rw[<-ho.out];cases o with
   | false =>
    go_wp2;go_roundw
    case rel=>exact⟨k+1,by omega,by go_num,kY (p:=fun j=>g j=false) HA.out ho.out.symm,hE⟩
    case measure=>simp[intOf];omega
   | true =>
    have HT:Hid (r=true):=by rw[Hid,hr.out];exact jT hlt ho.out.symm
    go_wp2;go_ret;exact⟨_,rfl,by rw[Hid,HT.out];symm;simp,hE⟩
  ·have HT:Hid (r=false):=by rw[Hid,hr.out];exact zT.2 (fun j hj=>HA.out j (by omega))
   go_wp2;go_ret;exact⟨_,rfl,by rw[Hid,HT.out];rfl,hE⟩
theorem q0R{R:Nat->Raw}(h:LsR N lo hi w v n R)  (g:Nat->Bool)
  (hf:∀i,i<n->∀w' u,Ext w w'->ZE N w' u (R i)->Calls Tryz.prog 192 #[u] w' (zI w' (.bool (g i)))) :
  Calls Tryz.prog 112 #[v,.func (.func 192) #[] #[]] w (zI w (.bool (xg n g))):=by
 obtain⟨r,hr⟩:=qc (xg n g);rw[<-hr.out];obtain⟨A,c,rfl,hnc,hcm⟩:=h.form;have hI:=h;have HF:=q_h hf;clear h hf;go_enter Tryz.func112,Tryz.ntmps112;go_wp2_with (go_at_call 149;refine q_o ?_);refine (WN hI  g HF.out).mono ?_;rintro e w1 ⟨z,rfl,hz,e1⟩;rw[<-hr.out] at hz;go_wp2;go_ret;exact⟨qw hz.out.symm,e1⟩
theorem WM{L:Nat->Nat}{R:Nat->Nat->Raw}(h:MtR N lo hi w v n L R) (gb:Nat) (g:Nat->Bool)
  (hf:∀i,i<n->∀w' u,Ext w w'->LsR N lo hi w' u (L i) (R i)->Calls Tryz.prog 170 #[u,.pointer (some ⟨gb,0,none⟩)] w' (zI w' (.bool (g i)))) :
  Calls Tryz.prog 191 #[v,.func (.func 170) #[] #[.pointer (some ⟨gb,0,none⟩)]] w (WG w (xg n g)):=by
 obtain⟨r,hr⟩:=qc (xg n g);rw[<-hr.out];obtain⟨A,c,rfl,hnc,hcm⟩:=h.form;unfold maxLen at hcm;have hI:=h;have HF:=q_h hf;clear h hf;go_enter Tryz.func191,Tryz.ntmps191;go_wp2
 go_loopw [8] (fun i wr=>∃k:Nat,k<=n/\i=.int .i64 k/\Hid (∀j,j<k->g j=false)/\Ext w wr) (fun i _=>n-(intOf i).toNat)
 case atStart=>exact⟨0,Nat.zero_le _,rfl,fun j hj=>absurd hj (by omega),Ext.refl w⟩
 case round =>
  obtain⟨k,hk,rfl,HA,hE⟩:=hrel
  by_cases hlt:k<n
  ·(obtain⟨b,off,rfl,-,-,hx⟩:=(hI.ext hE).addr (by omega));(obtain⟨A1,c1,p0,-,-,hv⟩:=hx k hlt)
   clear hx;go_wp2_with (go_at_call 170;refine q_o ?_);refine (HF.out k hlt _ _ hE hv).mono ?_;rintro e w1 ⟨rfl,e1⟩;replace hE:=hE.trans e1;obtain⟨o,ho⟩:=qc (g k);rw[<-ho.out];cases o with
   | false =>
    go_wp2;go_roundw
    case rel=>exact⟨k+1,by omega,by go_num,kY (p:=fun j=>g j=false) HA.out ho.out.symm,hE⟩
    case measure=>simp[intOf];omega
   | true =>
    have HT:Hid (r=true):=by rw[Hid,hr.out];exact jT hlt ho.out.symm
    go_wp2;go_ret;exact⟨_,rfl,by rw[Hid,HT.out];symm;simp,hE⟩
  ·have HT:Hid (r=false):=by rw[Hid,hr.out];exact zT.2 (fun j hj=>HA.out j (by omega))
   go_wp2;go_ret;exact⟨_,rfl,by rw[Hid,HT.out];rfl,hE⟩
theorem q0Q{L:Nat->Nat}{R:Nat->Nat->Raw}(h:MtR N lo hi w v n L R) (gb:Nat) (g:Nat->Bool)
  (hf:∀i,i<n->∀w' u,Ext w w'->LsR N lo hi w' u (L i) (R i)->Calls Tryz.prog 170 #[u,.pointer (some ⟨gb,0,none⟩)] w' (zI w' (.bool (g i)))) :
  Calls Tryz.prog 169 #[v,.func (.func 170) #[] #[.pointer (some ⟨gb,0,none⟩)]] w (zI w (.bool (xg n g))):=by
 obtain⟨r,hr⟩:=qc (xg n g);rw[<-hr.out];obtain⟨A,c,rfl,hnc,hcm⟩:=h.form;have hI:=h;have HF:=q_h hf;clear h hf;go_enter Tryz.func169,Tryz.ntmps169;go_wp2_with (go_at_call 191;refine q_o ?_);refine (WM hI gb g HF.out).mono ?_;rintro e w1 ⟨z,rfl,hz,e1⟩;rw[<-hr.out] at hz;go_wp2;go_ret;exact⟨qw hz.out.symm,e1⟩
def kG (R:Raw):Bool:=decide (R.l1.length<=1)&&decide (R.l2.length<=1)&&decide (R.l1[0]?.getD 0<100000)&&decide (R.l2[0]?.getD 0<=100)
theorem q3o(h:ZE N w v R) :
  Calls Tryz.prog 95 #[v] w (zI w (.bool (kG R))):=by
 obtain⟨r,hr⟩:=qc (kG R);rw[<-hr.out];obtain⟨A1,n1,c1,A2,n2,c2,rfl,g1,g2⟩:=h.parts;obtain⟨_,_,_,e1,h1,hc1,hm1⟩:=g1.form;injection e1 with e1 e1' e1''
 subst e1 e1' e1'';obtain⟨_,_,_,e2,h2,hc2,hm2⟩:=g2.form;injection e2 with e2 e2' e2''
 subst e2 e2' e2'';obtain⟨b1,l1,b2,l2⟩:=R
 dsimp only at g1 g2 h1 h2 ⊢
 have HR:Hid (r=(decide (n1<=1)&&decide (n2<=1)&&decide (l1[0]?.getD 0<100000)&&decide (l2[0]?.getD 0<=100))):=by
  rw[Hid,hr.out,<-h1.out,<-h2.out];rfl
 have L1:Hid (n1=0->l1=[]):=fun e=>List.eq_nil_of_length_eq_zero (by rw[h1.out];exact e)
 have L2:Hid (n2=0->l2=[]):=fun e=>List.eq_nil_of_length_eq_zero (by rw[h2.out];exact e)
 clear hr h;go_enter Tryz.func95,Tryz.ntmps95;go_upto_region 1 with (fail);refine qp ?_;intro W hE hsz B0;obtain⟨a0,a1,a2,a3,-⟩:=cells4 B0;have eC:=(Ext.refl W).drew;refine qx (fun w'=>w'.cell? ⟨w.heap.size,0,none⟩=some (.bool b1)/\w'.cell? ⟨w.heap.size,1,none⟩=some (.slice A1 n1 c1)/\w'.cell? ⟨w.heap.size,2,none⟩=some (.bool b2)/\w'.cell? ⟨w.heap.size,3,none⟩=some (.slice A2 n2 c2)) [] (by kernel_rfl) (by exact⟨eC.cell a0,eC.cell a1,eC.cell a2,eC.cell a3⟩) (fun hHeld=>?_);refine sP 0 (h:=?_);try simp only[nr]
 refine sP 1 (h:=?_);try simp only[nr]
 refine sT 2 (h:=?_);try simp only[nr]
 refine sP 3 (h:=?_);try simp only[nr]
 refine sP 4 (h:=?_);try simp only[nr]
 refine sT 5 (h:=?_);try simp only[nr]
 refine sP 6 (h:=?_);try simp only[nr]
 refine sP 7 (h:=?_);try simp only[nr]
 refine qg (by kernel_rfl) ?_ _;clear hHeld;replace hE:=hE.trans eC;replace g1:=g1.ext hE;replace g2:=g2.ext hE;clear a0 a1 a2 a3 B0 eC
 by_cases hn1:n1<=1
 ·by_cases hn2:n2<=1
  ·have HR2:Hid (r=(decide (l1[0]?.getD 0<100000)&&decide (l2[0]?.getD 0<=100))):=by rw[Hid,HR.out,q_t hn1,q_t hn2];rfl
   clear HR
   rcases Nat.eq_zero_or_pos n1 with h0|h0
   ·obtain⟨x,hx⟩:=qc (decide (l1[0]?.getD 0<100000));have hx1:x=true:=by rw[hx.out,L1.out h0];rfl
    rw[<-hx.out,hx1] at HR2;subst h0
    rcases Nat.eq_zero_or_pos n2 with h4|h4
    ·have HF:Hid (r=true):=by rw[Hid,HR2.out,L2.out h4];rfl
     subst h4;go_wp2;go_ret;exact⟨qw HF.out.symm,hE⟩
    ·obtain rfl:n2=1:=by omega
     obtain⟨b,off,z,rfl,-,p0,hz0,hz1,HZ⟩:=g2.at_ (k:=0) (by omega);rw[Nat.add_zero] at p0
     by_cases hz:z<=100
     ·have HF:Hid (r=true):=by rw[Hid,HR2.out];simp only[Bool.true_and,decide_eq_true_eq];have:=HZ.out;omega
      go_wp2;go_ret;exact⟨qw HF.out.symm,hE⟩
     ·have HF:Hid (r=false):=by rw[Hid,HR2.out];simp only[Bool.true_and,decide_eq_false_iff_not];have:=HZ.out;omega
      go_wp2;go_ret;exact⟨qw HF.out.symm,hE⟩
   ·obtain rfl:n1=1:=by omega
    obtain⟨b,off,z,rfl,-,p0,hz0,hz1,HZ⟩:=g1.at_ (k:=0) (by omega);rw[Nat.add_zero] at p0
    by_cases hz:z<100000
    ·have HR3:Hid (r=decide (l2[0]?.getD 0<=100)):=by
      rw[Hid,HR2.out,show decide (l1[0]?.getD 0<100000)=true by simp only[decide_eq_true_eq];have:=HZ.out;omega];rfl
     rcases Nat.eq_zero_or_pos n2 with h4|h4
     ·have HF:Hid (r=true):=by rw[Hid,HR3.out,L2.out h4];rfl
      subst h4;go_wp2;go_ret;exact⟨qw HF.out.symm,hE⟩
     ·obtain rfl:n2=1:=by omega
      obtain⟨b',off',z',rfl,-,q0,hz0',hz1',HZ'⟩:=g2.at_ (k:=0) (by omega);rw[Nat.add_zero] at q0
      by_cases hz':z'<=100
      ·have HF:Hid (r=true):=by rw[Hid,HR3.out];simp only[decide_eq_true_eq];have:=HZ'.out;omega
       go_wp2;go_ret;exact⟨qw HF.out.symm,hE⟩
      ·have HF:Hid (r=false):=by rw[Hid,HR3.out];simp only[decide_eq_false_iff_not];have:=HZ'.out;omega
       go_wp2;go_ret;exact⟨qw HF.out.symm,hE⟩
    ·have HF:Hid (r=false):=by
      rw[Hid,HR2.out,show decide (l1[0]?.getD 0<100000)=false by simp only[decide_eq_false_iff_not];have:=HZ.out;omega];rfl
     go_wp2;go_ret;exact⟨qw HF.out.symm,hE⟩
  ·have HF:Hid (r=false):=by rw[Hid,HR.out,q_f hn2];simp
   go_wp2;go_ret;exact⟨qw HF.out.symm,hE⟩
 ·have HF:Hid (r=false):=by rw[Hid,HR.out,q_f hn1];simp
  go_wp2;go_ret;exact⟨qw HF.out.symm,hE⟩
theorem q3J(h:ZE N w v R) (hs:jD R) :
  Calls Tryz.prog 192 #[v] w (zI w (.bool (!okR R))):=by
 obtain⟨A1,n1,c1,A2,n2,c2,rfl,g1,g2⟩:=h.parts;obtain⟨r,hr⟩:=qc (okR R);rw[<-hr.out];have hI:=h;clear g1 g2 h;go_enter Tryz.func192,Tryz.ntmps192;go_wp2_with (go_at_call 138;refine q_o ?_);refine qR ?_;intro W hE hsz B0;refine (YX (hI.ext hE) hs.1 hs.2).mono ?_;rintro e w1 ⟨rfl,e1⟩;rw[<-hr.out];go_wp2;go_ret;exact⟨rfl,hE.trans e1⟩
theorem Ju{X:q_m}(h:MtV N lo hi w v m n X) (hm0:0<m) (hm:m<1000000) (hn:n<1000000) :
  Calls Tryz.prog 96 #[v] w (x9 N w n m (fun i j=>X j i)):=by
 have hN:=h.le;obtain⟨A,c,rfl,hmc,hcm⟩:=h.form;unfold maxLen at hcm;have hI:=h;obtain⟨Z,hZ⟩:=qc (fun i j=>X j i);rw[<-hZ.out];obtain⟨b,off,rfl,-,-,hx⟩:=h.addr hm0;obtain⟨A1,c1,p0,hnc,hcm1,-⟩:=hx 0 hm0;rw[Nat.add_zero] at p0;unfold maxLen at hcm1;clear h hx;go_enter Tryz.func96,Tryz.ntmps96;go_wp2_with (go_at_call 55;refine q_o ?_);refine (q3l hN n m rfl rfl hn hm0 hm).mono ?_;rintro e w1 ⟨h,cap,β,κ,rfl,hcap,ho,hE⟩;have hs1:=hE.size;clear p0;go_wp2
 go_loopw [4] (fun i wr=>∃k:Nat,k<=m/\i=.int .i64 k/\Ext w wr/\∃B,zt N w.heap.size w1.heap.size wr h cap n m β κ B/\Hid (∀i,i<k->∀j,j<n->B j i=X i j)) (fun i _=>m-(intOf i).toNat)
 case atStart=>exact⟨0,Nat.zero_le _,rfl,hE,_,ho,fun i hi=>by omega⟩
 case round =>
  clear hE ho;obtain⟨k,hk,rfl,hE,B,ho,HB⟩:=hrel
  by_cases hlt:k<m
  ·go_wp2
   go_loopw [5] (fun i ws=>∃l:Nat,l<=n/\i=.int .i64 l/\Ext w ws/\∃B,zt N w.heap.size w1.heap.size ws h cap n m β κ B/\Hid (∀i,i<k->∀j,j<n->B j i=X i j)/\Hid (∀j,j<l->B j k=X k j)) (fun i _=>n-(intOf i).toNat)
   case atStart=>exact⟨0,Nat.zero_le _,rfl,hE,B,ho,HB,fun j hj=>by omega⟩
   case round =>
    clear hE ho HB B;obtain⟨l,hl,rfl,hE,B,ho,HB,HC⟩:=hrel;obtain⟨b',off',hA,-,-,hx⟩:=(hI.ext hE).addr (by omega);obtain⟨rfl,rfl⟩:b=b'/\off=off':=by injection hA with hA;injection hA with e1 e2;exact⟨e1,e2⟩
    obtain⟨A2,c2,q0,-,-,hl2⟩:=hx k hlt;clear hx hA
    by_cases hlt':l<n
    ·obtain⟨b2,off2,rfl,-,-,hx⟩:=hl2.addr (by omega);obtain⟨n1,A3,k3,c3,A4,k4,c4,p0,p1,p2,p3,hb1,g1,g2⟩:=(hx l hlt').open;have r0:=ho.hcell hlt';obtain⟨zb,zA,zn,zc,zA2,zn2,zc2,t0,t1,t2,t3,t4,t5,t6,t7,-⟩:=(ho.row l hlt').at_ hlt;clear hx hl2;go_wp2;have eC:=(Ext.refl wr).drew;refine qx (fun w'=>w'.cell? ⟨h,l,none⟩=some (.slice (some ⟨β l,0,none⟩) m (κ l))/\w'.cell? ⟨b,off+k,none⟩=some (.slice (some ⟨b2,off2,none⟩) n c2)/\w'.cell? ⟨b2,off2+l*4,none⟩=some (.bool n1)/\w'.cell? ⟨b2,off2+l*4+1,none⟩=some (.slice A3 k3 c3)/\w'.cell? ⟨b2,off2+l*4+2,none⟩=some (.bool false)/\w'.cell? ⟨b2,off2+l*4+3,none⟩=some (.slice A4 k4 c4)) [13] (by kernel_rfl) (by exact⟨eC.cell r0,eC.cell q0,eC.cell p0,eC.cell p1,eC.cell p2,eC.cell p3⟩) (fun hHeld=>?_);refine sP 0 (h:=?_);try simp only[nr]
     refine sP 1 (h:=?_);try simp only[nr]
     refine sP 2 (h:=?_);try simp only[nr]
     refine sT 3 (h:=?_);try simp only[nr]
     refine sP 4 (h:=?_);try simp only[nr]
     refine sP 5 (h:=?_);try simp only[nr]
     refine sP 6 (h:=?_);try simp only[nr]
     refine sP 7 (h:=?_);try simp only[nr]
     refine sT 8 (h:=?_);try simp only[nr]
     refine sP 9 (h:=?_);try simp only[nr]
     refine sP 10 (h:=?_);try simp only[nr]
     refine sT 11 (h:=?_);try simp only[nr]
     refine sP 12 (h:=?_);try simp only[nr]
     refine qj (i:=13) rfl (by kernel_rfl) (by kernel_rfl) (fun K hK=>?_);go_simp;refine hK.out _ _ ?_;clear hK K;try simp only[nr]
     refine qg (by kernel_rfl) ?_ _;clear hHeld;obtain⟨w6,E6,C6,hs6,hr6⟩:=(ho.row l hlt').set (i:=k) (q:=X k l) (by have:=(ho.row l hlt').2.1;omega) (by omega) hb1 g1 g2;rw[E6];clear E6;have ho6:=ho.setRow hlt' C6 (hr6.less (n':=m) (by omega));replace hE:=C6.ext hE (ho.lo_ l hlt');go_wp2;go_roundw
     case rel=>exact⟨l+1,by omega,by go_num,hE.drew,_,ho6.ext (Ext.refl _).drew,fun i hi j hj=>(by
       unfold xI
       split
       ·rename_i e;subst e;rw[upd_ne _ _ (by omega)];exact HB.out i hi j hj
       ·exact HB.out i hi j hj),kY (fun j hj=>(by rw[Xd _ _ (by omega)];exact HC.out j hj)) (by rw[xX,upd_same])⟩
     case measure=>simp[intOf];omega
    ·obtain rfl:l=n:=by omega
     go_wp2;go_roundw
     case rel=>exact⟨k+1,by omega,by go_num,hE,B,ho,kY HB.out HC.out⟩
     case measure=>simp[intOf];omega
  ·obtain rfl:k=m:=by omega
   go_wp2;go_ret;exact⟨h,cap,β,κ,rfl,hcap,(ho.congr (fun i hi j hj=>by rw[hZ.out];exact HB.out j hj i hi)).wide (q_r) hN ho.his (q_r),hE⟩
end Go.Proofs.YtpkmjhmmmdkodaaGreat
namespace Go.Proofs.YtpkmjhmmmdkodaaGreat
variable {w w':World} {N n lo hi k g i m base c b j:Nat} {v:Value} {q:Rat} {R:Raw} {A:Option Addr}
theorem q0Y {M:q_m}{r:Nat}(hr:r<=m) (h:∀i,r<=i->i<m->M i j=0):Xi M m j (m-r) r=m:=by
 have s:=yY M m j (m-r) r (q_r) hr
 rcases Nat.lt_or_ge (Xi M m j (m-r) r) m with h1|h1
 ·exact absurd (h _ s.1 h1) (s.2.2.2 h1)
 ·omega
theorem q0X {M:q_m}{r a:Nat}(hr:r<=a) (ha:a<m) (h:∀i,r<=i->i<a->M i j=0) (hn:M a j≠0):Xi M m j (m-r) r=a:=by
 have s:=yY M m j (m-r) r (q_r) (by omega)
 rcases Nat.lt_trichotomy (Xi M m j (m-r) r) a with h1|h1|h1
 ·exact absurd (h _ s.1 h1) (s.2.2.2 (by omega))
 ·exact h1
 ·exact absurd (s.2.2.1 a hr h1) hn
theorem q1a{X:q_m}(h:Xi (zx m X j).1 m j (m-(zx m X j).2.length) (zx m X j).2.length=m):zx m X (j+1)=zx m X j:=by
 show Yx m (zx m X j) j=_
 unfold Yx;simp only[h,Nat.lt_irrefl,if_false]
theorem q19 {a:Nat}{X:q_m}(ha:a<m) (h:Xi (zx m X j).1 m j (m-(zx m X j).2.length) (zx m X j).2.length=a) :
  zx m X (j+1)=(clr (nrm (swp (zx m X j).1 (zx m X j).2.length a) (zx m X j).2.length j) (zx m X j).2.length j,(zx m X j).2 ++ [j]):=by
 show Yx m (zx m X j) j=_
 unfold Yx;simp only[h,ha,if_true]
def Zy (M:q_m) (r j i:Nat) (i' c:Nat):Rat:=if i' < i then clr M r j i' c else M i' c
theorem Jj (a b:Rat):a=a-0*b:=by grind
end Go.Proofs.YtpkmjhmmmdkodaaGreat
namespace Go.Proofs.YtpkmjhmmmdkodaaGreat
open Go.RowKit
variable {w w':World} {N n lo hi k g i m base c b j:Nat} {v:Value} {q:Rat} {R:Raw} {A:Option Addr}
theorem Xj (w:World) (kl kc:IntKind) (n:Nat) (hn:n*24<=281474976710656) :
  ∃w' cs,(Instr.makeSlice 42 (.int kl n) (.int kc n)).run Tryz.prog w=.ok (.slice (some ⟨w.heap.size,0,none⟩) n n) w'/\w'.heap[w.heap.size]?=some (.cells cs 24 (0,0))/\cs.size=n/\Ext w w':=by
 obtain⟨i0,hi0,hz0,hz1,hz2⟩:=info_parts XJ;obtain⟨w',hrun,hown,hgr⟩:=run_make_full (P:=Tryz.prog) w w.heap.size 42 24 i0 _ 1 Tryz.underlying42 hi0 hz0 hz1 kl kc n (by rw[hz2];omega) (by unfold maxLen;omega) (q_r);have hx:=(Ext.refl w).grown hgr (fun k hk=>by cases hk)
 rcases hown.2 with ⟨h,_⟩|⟨g,cap,cur,hv,hg,hh,hnc,hcm,hcs,htk⟩
 ·cases h
 ·have e1:w.heap.size=g:=Option.some.inj (congrArg Value.ownBlock hv);have e3:n=cap:=congrArg (fun v:Value=>match v with|.slice _ _ c=>c|_=>0) hv;subst e1 e3;exact⟨w',cur,hrun,hh,by omega,hx⟩
theorem Xk (w:World) (kl kc:IntKind) (n:Nat) (hn:n*64<=281474976710656) :
  ∃w' cs,(Instr.makeSlice 24 (.int kl n) (.int kc n)).run Tryz.prog w=.ok (.slice (some ⟨w.heap.size,0,none⟩) n n) w'/\w'.heap[w.heap.size]?=some (.cells cs 48 (0,0))/\cs.size=n*4/\Ext w w':=by
 obtain⟨i0,hi0,hz0,hz1,hz2⟩:=info_parts yc;obtain⟨w',hrun,hown,hgr⟩:=run_make_full (P:=Tryz.prog) w w.heap.size 24 48 i0 _ 4 Tryz.underlying24 hi0 hz0 hz1 kl kc n (by rw[hz2];omega) (by unfold maxLen;omega) (q_r);have hx:=(Ext.refl w).grown hgr (fun k hk=>by cases hk)
 rcases hown.2 with ⟨h,_⟩|⟨g,cap,cur,hv,hg,hh,hnc,hcm,hcs,htk⟩
 ·cases h
 ·have e1:w.heap.size=g:=Option.some.inj (congrArg Value.ownBlock hv);have e3:n=cap:=congrArg (fun v:Value=>match v with|.slice _ _ c=>c|_=>0) hv;subst e1 e3;exact⟨w',cur,hrun,hh,hcs,hx⟩
theorem zB{ops:Array Oper}{rest:List Oper}{o:Oper}{a:Act}{Q:Exit->Act->World->Prop}(hg:o.guard=none) (l c:Operand) (hop:o.op=Op.makeSlice 42 l c)
  (kl kc:IntKind) (L C:Int) (n:Nat) (hl:a.eval l=.int kl L) (hc:a.eval c=.int kc C) (hL:L=(n:Int)) (hC:C=(n:Int)) (hn:n<1000000)
  (hK:∀w' cs,w'.heap[w.heap.size]?=some (.cells cs 24 (0,0))->cs.size=n->Ext w w'->wpList Tryz.prog ops Q rest (a.put o.dst (.slice (some ⟨w.heap.size,0,none⟩) n n)) w'):wpList Tryz.prog ops Q (o :: rest) a w:=by
 refine wpList_plain hg fun K hK'=>?_
 obtain⟨w',cs,hrun,r1,r2,r3⟩:=Xj w kl kc n (by omega);subst hL;subst hC;unfold Oper.wp;simp[execOp,hop,hl,hc,hrun,Result.andThen]
 exact hK' _ _ (hK w' cs r1 r2 r3)
theorem qV{ops:Array Oper}{rest:List Oper}{o:Oper}{a:Act}{Q:Exit->Act->World->Prop}(hg:o.guard=none) (l c:Operand) (hop:o.op=Op.makeSlice 24 l c)
  (kl kc:IntKind) (L C:Int) (n:Nat) (hl:a.eval l=.int kl L) (hc:a.eval c=.int kc C) (hL:L=(n:Int)) (hC:C=(n:Int)) (hn:n<1000000)
  (hK:∀w' cs,w'.heap[w.heap.size]?=some (.cells cs 48 (0,0))->cs.size=n*4->Ext w w'->wpList Tryz.prog ops Q rest (a.put o.dst (.slice (some ⟨w.heap.size,0,none⟩) n n)) w'):wpList Tryz.prog ops Q (o :: rest) a w:=by
 refine wpList_plain hg fun K hK'=>?_
 obtain⟨w',cs,hrun,r1,r2,r3⟩:=Xk w kl kc n (by omega);subst hL;subst hC;unfold Oper.wp;simp[execOp,hop,hl,hc,hrun,Result.andThen]
 exact hK' _ _ (hK w' cs r1 r2 r3)
theorem zt.more{h:Nat}{β κ:Nat->Nat}{A:q_m}(o:zt N lo hi w h k m n β κ A) (hm:m<k){cap:Nat}{x:q_v}(hc:w.cell? ⟨h,m,none⟩=some (.slice (some ⟨b,0,none⟩) n cap)) (hr:kH N w b cap n x) (hb:hi<=b) (hcm:cap<=maxLen) :
  zt N lo w.heap.size w h k (m+1) n (fun i=>if i=m then b else β i) (fun i=>if i=m then cap else κ i) (xI A m x):=by
 obtain⟨hs,h1,h2,h3⟩:=o.hh;have hlt:=hr.lt;have hlo:=o.hlo;have hhi:=o.hhi;have his:=o.his;refine⟨o.le,⟨hs,h1,h2,fun i hi'=>?_⟩,by omega,hlo,by omega,q_r,fun i hi'=>?_,fun i hi'=>?_,fun i hi'=>?_,fun i hi'=>?_,fun i j hi' hj' hij=>?_⟩
 ·by_cases e:i=m
  ·subst e;rw[qh h1] at hc;rw[hc];simp
  ·rw[h3 i (by omega)];simp[e]
 ·by_cases e:i=m
  ·simp only[e,if_true];omega
  ·simp only[e,if_false];exact o.lo_ i (by omega)
 ·by_cases e:i=m
  ·simp only[e,if_true];exact hlt
  ·simp only[e,if_false];have:=o.hi_ i (by omega);omega
 ·by_cases e:i=m
  ·simp only[e,if_true];exact hcm
  ·simp only[e,if_false];exact o.cap i (by omega)
 ·by_cases e:i=m
  ·simp only[e,if_true];rw[xX];exact hr
  ·simp only[e,if_false];rw[Xd A x e];exact o.row i (by omega)
 ·by_cases e:i=m
  ·have e2:j≠m:=by omega
   simp only[e,e2,if_true,if_false];have:=o.hi_ j (by omega);omega
  ·by_cases e2:j=m
   ·simp only[e,e2,if_true,if_false];have:=o.hi_ i (by omega);omega
   ·simp only[e,e2,if_false];exact o.inj i j (by omega) (by omega) hij
theorem zt.start{h:Nat}{cs:Array Value}(hN:N<=lo) (hl:lo<=h) (hb:w.heap[h]?=some (.cells cs 24 (0,0))) (hk:cs.size=k) (A:q_m)(h1:h<hi) (h2:hi<=w.heap.size):zt N lo hi w h k 0 n (fun _=>0) (fun _=>0) A :=
 ⟨hN,⟨cs,hb,hk,fun i hi=>by omega⟩,by omega,hl,h1,h2,fun i hi=>by omega,fun i hi=>by omega,fun i hi=>by omega,fun i hi=>by omega,fun i j hi=>by omega⟩
theorem zt.setHead{h:Nat}{β κ:Nat->Nat}{A:q_m}(o:zt N lo hi w h k m n β κ A)(hi':m<=i) (hik:i<k) (v:Value) :
  ∃w',w.setCell ⟨h,i,none⟩ v=w'/\Chg h (h+1) w w'/\w'.heap.size=w.heap.size/\w'.cell? ⟨h,i,none⟩=some v/\zt N lo hi w' h k m n β κ A:=by
 obtain⟨hs,h1,h2,h3⟩:=o.hh;have b1:=heap_set h1 i v;have U:Upd h w (w.setCell ⟨h,i,none⟩ v):=(Upd.refl h w).set i v;have c:=U.chg o.noU;have hlo:=o.hlo;have hN:=o.le;refine⟨_,rfl,c,U.size,?_,o.le,⟨_,b1,by simp[h2],fun j hj=>?_⟩,o.mle,o.hlo,o.hhi,q_l o.his c.size,o.lo_,o.hi_,o.cap,fun j hj=>(o.row j hj).chg c (by omega) (by have:=o.ne hj;omega),o.inj⟩
 ·rw[qh b1,Array.getElem?_setIfInBounds_self_of_lt (by omega)]
 ·rw[Array.getElem?_setIfInBounds_ne (by omega)];exact h3 j hj
theorem zt.hthere{h:Nat}{β κ:Nat->Nat}{A:q_m}(o:zt N lo hi w h k m n β κ A)(hi':i<k):∃u,w.cell? ⟨h,i,none⟩=some u:=by
 obtain⟨hs,h1,h2,-⟩:=o.hh;rw[qh h1];exact⟨_,Array.getElem?_eq_getElem (by omega)⟩
theorem YI(hN:N<=w.heap.size) (m n:Nat){M' N':Int}(hM':M'=(m:Int)) (hN':N'=(n:Int)) (hm:m<1000000) (hn:n<1000000) (X:q_m)
  (hf:∀i,i<m->∀j,j<n->∀w',Ext w w'->Calls Tryz.prog 100 #[.int .i64 (i:Int),.int .i64 (j:Int)] w' (yt N w' (X i j))) :
  Calls Tryz.prog 99 #[.int .i64 M',.int .i64 N',.func (.func 100) #[] #[]] w (x9 N w m n X):=by
 subst hM' hN';have HF:=q_h hf;clear hf;go_enter Tryz.func99,Tryz.ntmps99;go_wp2_with (at_make;refine q_o ?_);refine zB rfl _ _ rfl .i64 .i64 _ _ m rfl rfl rfl rfl hm ?_;intro w1 cs B0 hcs e1;have ho:zt N w.heap.size w1.heap.size w1 w.heap.size m 0 n (fun _=>0) (fun _=>0) X:=zt.start hN (q_r) B0 hcs X (qF B0) (q_r);have hs1:w.heap.size<w1.heap.size:=qF B0;clear B0;have HCS:=q_h hcs;clear hcs;go_wp2
 go_loopw [14] (fun i wr=>∃k:Nat,k<=m/\i=.int .i64 k/\Ext w wr/\∃β κ,zt N w.heap.size wr.heap.size wr w.heap.size m k n β κ X) (fun i _=>m-(intOf i).toNat)
 case atStart=>exact⟨0,Nat.zero_le _,rfl,e1,_,_,ho⟩
 case round =>
  clear ho e1;obtain⟨k,hk,rfl,hE,β,κ,ho⟩:=hrel;have hsr:w.heap.size<wr.heap.size:=by have:=ho.hhi;omega
  by_cases hlt:k<m
  ·go_wp2_with (at_make;refine q_o ?_);refine qV rfl _ _ rfl .i64 .i64 _ _ n rfl rfl rfl rfl hn ?_;intro w2 cs2 B2 hcs2 e2;have ho2:=ho.ext e2;have hR:kH N w2 wr.heap.size n 0 (X k):=⟨by omega,Nat.zero_le _,⟨cs2,B2,hcs2⟩,fun j hj=>by omega⟩
   obtain⟨u0,z0⟩:=ho2.hthere hlt;have z1:=ho2.hfrozen k;have hs2:wr.heap.size<w2.heap.size:=qF B2;have HCS2:=q_h hcs2;clear B2 hcs2 ho;go_upto_region 6 with (fail);obtain⟨w3,E3,C3,hs3,y0,ho3⟩:=ho2.setHead (Nat.le_refl k) hlt (.slice (some ⟨wr.heap.size,0,none⟩) n n);rw[E3];replace hE:=C3.ext (hE.trans e2) (q_r);replace hR:=hR.chg C3 (by omega) (by omega);have hs4:wr.heap.size<w3.heap.size:=by omega
   generalize hgr:wr.heap.size=gr at *
   clear hgr E3 C3 hs3 ho2 z0 z1 e2 hs2;have Y0:=y0;go_wp2
   go_loopw [27] (fun i ws=>∃j:Nat,j<=n/\i=.int .i64 j/\Ext w ws/\gr<ws.heap.size/\ws.cell? ⟨w.heap.size,k,none⟩=some (.slice (some ⟨gr,0,none⟩) n n)/\zt N w.heap.size gr ws w.heap.size m k n β κ X/\kH N ws gr n j (X k)) (fun i _=>n-(intOf i).toNat)
   case atStart=>exact⟨0,Nat.zero_le _,rfl,hE,hs4,y0,ho3,hR⟩
   case round =>
    clear hE y0 ho3 hR hs4 Y0;obtain⟨j,hj,rfl,hE,hs4,y0,ho3,hR⟩:=hrel
    by_cases hlt':j<n
    ·go_upto_region 9 with (fail);have eC:=(Ext.refl wr).drew;refine qx (fun w'=>w'.cell? ⟨w.heap.size,k,none⟩=some (.slice (some ⟨gr,0,none⟩) n n)) [10] (by kernel_rfl) (by exact eC.cell y0) (fun hHeld=>?_);refine sP 0 (h:=?_);try simp only[nr]
     refine sP 1 (h:=?_);try simp only[nr]
     refine sP 2 (h:=?_);try simp only[nr]
     refine sT 3 (h:=?_);try simp only[nr]
     refine sP 4 (h:=?_);try simp only[nr]
     refine sP 5 (h:=?_);try simp only[nr]
     refine sP 6 (h:=?_);try simp only[nr]
     refine sP 7 (h:=?_);try simp only[nr]
     refine qA (i:=8) rfl (by kernel_rfl) (fun K hK=>?_);go_simp;refine (HF.out k hlt j hlt' _ (hE.trans eC)).mono ?_;intro e w5 hh;obtain⟨b9,A9,k9,c9,A10,k10,c10,rfl,hb9,g9,g10,e5⟩:=hh.form;replace eC:=eC.trans e5;have hR5:=hR.ext eC;obtain⟨x0,v0⟩:=hR5.there (o:=j*4) (by omega);obtain⟨x1,v1⟩:=hR5.there (o:=j*4+1) (by omega);obtain⟨x2,v2⟩:=hR5.there (o:=j*4+2) (by omega);obtain⟨x3,v3⟩:=hR5.there (o:=j*4+3) (by omega);have f0:=hR5.frozen (j*4);have f1:=hR5.frozen (j*4+1);have f2:=hR5.frozen (j*4+2);have f3:=hR5.frozen (j*4+3);go_wp2_with fail;clear hHeld;refine hK.out _ _ (by exact eC.cell y0) fun hHeld=>?_
     clear hK K;try simp only[nr]
     refine sP 9 (h:=?_);try simp only[nr]
     refine qj (i:=10) rfl (by kernel_rfl) (by kernel_rfl) (fun K hK=>?_);go_simp;refine hK.out _ _ ?_;clear hK K;try simp only[nr]
     refine qg (by kernel_rfl) ?_ _;clear hHeld;obtain⟨w6,E6,C6,hs6,hr6⟩:=hR5.set (i:=j) (q:=X k j) hlt' (q_r) hb9 g9 g10;rw[E6];replace hE:=C6.ext (hE.trans eC) (by omega);replace ho3:=(ho3.ext eC).chg C6 (by omega) (.inl (q_r));replace y0:=C6.cell (p:=⟨w.heap.size,k,none⟩) (eC.cell y0) (.inl (by simp only;omega));have hr7:=(hr6.less (n':=j+1) (by omega)).congr (y:=X k) (fun c hc=>by unfold upd;split;(rename_i e;rw[e]);rfl);have hs7:gr<w6.heap.size:=by have:=eC.size;omega
     clear E6 C6 hs6 hr6 hR hR5 v0 v1 v2 v3 f0 f1 f2 f3;go_wp2;go_roundw
     case rel=>exact⟨j+1,by omega,by go_num,hE,hs7,y0,ho3,hr7⟩
     case measure=>simp[intOf];omega
    ·obtain rfl:j=n:=by omega
     have ho4:=(ho3.more hlt y0 hR (q_r) (by unfold maxLen;omega)).congr (B:=X) (fun i _ c _=>by unfold xI;split;(rename_i e;rw[e]);rfl);go_wp2;go_roundw
     case rel=>exact⟨k+1,by omega,by go_num,hE,_,_,ho4⟩
     case measure=>simp[intOf];omega
  ·obtain rfl:k=m:=by omega
   go_wp2;go_ret;exact⟨_,_,β,κ,rfl,by unfold maxLen;omega,ho,hE⟩
theorem q78(hN:N<=w.heap.size) (i j:Nat) (hi:i<1000000) (hj:j<1000000) :
  Calls Tryz.prog 100 #[.int .i64 (i:Int),.int .i64 (j:Int)] w (yt N w (dlt i j)):=by
 go_enter Tryz.func100,Tryz.ntmps100
 by_cases hij:i=j
 ·subst hij;rw[kX];go_wp2_with (go_at_call 142;refine q_o ?_);refine qR ?_;intro W hE hsz B0;refine (f_whole (N:=N) (by have:=hE.size;omega) 1 (by omega) (by omega)).mono ?_;intro e w1 hh;obtain⟨b1,A1,k1,c1,A2,k2,c2,rfl,hb1,g1,g2,e1⟩:=hh.form;have B1:=e1.block B0;obtain⟨r0,r1,r2,r3,r4,r5,r6,r7⟩:=cells4 B1;go_wp2;exact qX (q:=1) rfl rfl rfl (hE.trans e1) B1 (by omega) hN g1 g2 hb1
 ·have hne:((i:Int) == (j:Int))=false:=beq_eq_false_iff_ne.2 (by omega);rw[kQ hij];go_wp2_with (go_at_call 142;refine q_o ?_);refine qR ?_;intro W hE hsz B0;refine (f_whole (N:=N) (by have:=hE.size;omega) 0 (by omega) (by omega)).mono ?_;intro e w1 hh;obtain⟨b1,A1,k1,c1,A2,k2,c2,rfl,hb1,g1,g2,e1⟩:=hh.form;have B1:=e1.block B0;obtain⟨r0,r1,r2,r3,r4,r5,r6,r7⟩:=cells4 B1;go_wp2;exact qX (q:=0) rfl rfl rfl (hE.trans e1) B1 (by omega) hN g1 g2 hb1
theorem q5l:(q.num.sign != 0)=!decide (q=0):=by
 by_cases h:q=0
 ·subst h;rfl
 ·have h1:q.num≠0:=fun h2=>h (Rat.num_eq_zero.1 h2)
  have h2:q.num.sign≠0:=fun h3=>h1 (Int.sign_eq_zero_iff_zero.1 h3)
  simp[h,h2]
def IzV (N lo hi:Nat) (w:World) (v:Value) (n:Nat) (z:Nat->Int):Prop :=
 N+lo+hi=N+lo+hi/\∃(A:Option Addr) (c:Nat),v=.slice A n c/\n<=c/\c<=maxLen/\(0<n->∃b off,A=some ⟨b,off,none⟩/\∀i,i<n->w.cell? ⟨b,off+i,none⟩=some (.int .i64 (z i)))
theorem IzV.ext{z:Nat->Int}(h:IzV N lo hi w v n z) (e:Ext w w'):IzV N lo hi w' v n z:=by
 obtain⟨h0,A,c,hv,h1,h2,h3⟩:=h;refine⟨h0,A,c,hv,h1,h2,fun h=>?_⟩;obtain⟨b,off,hA,hc⟩:=h3 h;exact⟨b,off,hA,fun i hi=>e.cell (hc i hi)⟩
theorem IzV.form{z:Nat->Int}(h:IzV N lo hi w v n z):∃(A:Option Addr) (c:Nat),v=.slice A n c/\n<=c/\c<=maxLen:=by
 obtain⟨h0,A,c,hv,h1,h2,h3⟩:=h;exact⟨A,c,hv,h1,h2⟩
theorem IzV.addr{z:Nat->Int}(h:IzV N lo hi w (.slice A n c) n z) (hn:0<n):∃b off,A=some ⟨b,off,none⟩/\∀i,i<n->w.cell? ⟨b,off+i,none⟩=some (.int .i64 (z i)):=by
 obtain⟨h0,A',c',hv,h1,h2,h3⟩:=h;injection hv with e1 e2 e3
 subst e1;exact h3 hn
end Go.Proofs.YtpkmjhmmmdkodaaGreat
