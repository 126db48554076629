import Derived.Test.YtflhlobiipejeaaGreatWb12
set_option linter.all false
set_option maxHeartbeats 8000000
set_option maxRecDepth 100000
namespace Go.Proofs.YtflhlobiipejeaaGreat
variable {w w':World} {N n lo hi k g i m base c b j K:Nat} {v:Value} {q:Rat} {A:Option Addr}
section
open Go.RowKit
theorem jH (b o j:Nat):(⟨b,o,none⟩:Addr).add j=⟨b,o+j,none⟩:=by
 unfold Addr.add;split
 ·rename_i e;subst e;rfl
 ·rfl
theorem Grow.empty(hN:N<=base) (hb:base<=g) (h:w.heap[g]?=some (.cells #[] 35 (0,0))) (x:q_v):Grow N base w (.slice (some ⟨g,0,none⟩) 0 0) 0 x :=
 ⟨hN,by have:=qF h;omega,.inr ⟨g,0,rfl,hb,Nat.zero_le _,by omega,q_r,⟨#[],h,rfl⟩,fun j hj=>by omega⟩⟩
theorem Grow.some{x:q_v}(h:Grow N base w v n x) (hn:0<n):∃g cap,v=.slice (some ⟨g,0,none⟩) n cap/\base<=g/\g<w.heap.size/\cap<=maxLen/\n<=cap/\kS N w g cap n x:=by
 obtain⟨h1,h2,⟨rfl,rfl⟩|⟨g,cap,rfl,hg,hm,hr⟩⟩:=h
 ·omega
 ·exact⟨g,cap,rfl,hg,hr.lt,hm,hr.2.1,hr⟩
theorem vI{o:Oper}{a:Act}{K:Act->World->Prop}{Q:Exit->Act->World->Prop}(s x:Operand) (t:TypeId) (ht:Tryz.prog.underlying t=some (.slice 35))
  (ho:o.op=.call { callee:=.builtin .append,args:=#[s,x],argTypes:=#[t,t] }){f:q_v}(hs:a.eval s=v) (h:Grow N base w v n f)
(hx:a.eval x=.slice (some ⟨b,0,none⟩) 1 1){neg:Bool}{s1 s2:Value}{fr:Nat×Nat}(hb:w.heap[b]?=some (.cells #[.bool neg,s1,.bool false,s2] 35 fr)) (hneg:Hid (neg=decide (q.num<0))) (g1:Gs N w s1 (dg q.num.natAbs)) (g2:Gs N w s2 (dg q.den)) (hn:n<1000000000)
  (hK:∀g cap w',Grow N base w' (.slice (some ⟨g,0,none⟩) (n+1) cap) (n+1) (upd f n q)->(∃g',base<=g'/\Chg g' (g'+1) w w'/\NoU w g')->g<w'.heap.size->K (a.put o.dst (.slice (some ⟨g,0,none⟩) (n+1) cap)) w'):o.wp Tryz.prog a w K Q:=by
 obtain⟨g,cap,w',hrun,h1,h2,h3⟩:=yO t o.type ht h hb hneg g1 g2 hn;unfold Oper.wp execOp;simp only[ho,resolve,invoke,builtin,Sem.run_bind,Sem.run_pure,Result.andThen_ok,List.map_toArray,List.map_cons,List.map_nil,hs,hx,hrun];exact hK g cap w' h1 h2 h3
theorem zx{ops:Array Oper}{rest:List Oper}{o:Oper}{a:Act}{Q:Exit->Act->World->Prop}(hgd:o.guard=none) (s x:Operand) (t:TypeId) (ht:Tryz.prog.underlying t=some (.slice 35))
  (ho:o.op=.call { callee:=.builtin .append,args:=#[s,x],argTypes:=#[t,t] }){f:q_v}(hs:a.eval s=v) (h:Grow N base w v n f)
(hx:a.eval x=.slice (some ⟨b,0,none⟩) 1 1){neg:Bool}{s1 s2:Value}{fr:Nat×Nat}(hb:w.heap[b]?=some (.cells #[.bool neg,s1,.bool false,s2] 35 fr)) (hneg:Hid (neg=decide (q.num<0))) (g1:Gs N w s1 (dg q.num.natAbs)) (g2:Gs N w s2 (dg q.den)) (hn:n<1000000000)
  (hK:∀g cap w',Grow N base w' (.slice (some ⟨g,0,none⟩) (n+1) cap) (n+1) (upd f n q)->(∃g',base<=g'/\Chg g' (g'+1) w w'/\NoU w g')->g<w'.heap.size->wpList Tryz.prog ops Q rest (a.put o.dst (.slice (some ⟨g,0,none⟩) (n+1) cap)) w'):wpList Tryz.prog ops Q (o :: rest) a w :=
 wpList_plain hgd fun _ hK'=>vI s x t ht ho hs h hx hb hneg g1 g2 hn (fun g cap w' a1 a2 a3=>hK' _ _ (hK g cap w' a1 a2 a3))
theorem Zn{ops:Array Oper}{o:Oper}{a:Act}{K:Act->World->Prop}{Q:Exit->Act->World->Prop}{E:Prop}(hgd:o.guard=none) (s x:Operand) (t:TypeId) (ht:Tryz.prog.underlying t=some (.slice 35))
  (ho:o.op=.call { callee:=.builtin .append,args:=#[s,x],argTypes:=#[t,t] }){f:q_v}(hs:a.eval s=v) (h:Grow N base w v n f)
(hx:a.eval x=.slice (some ⟨b,0,none⟩) 1 1){neg:Bool}{s1 s2:Value}{fr:Nat×Nat}(hb:w.heap[b]?=some (.cells #[.bool neg,s1,.bool false,s2] 35 fr)) (hneg:Hid (neg=decide (q.num<0))) (g1:Gs N w s1 (dg q.num.natAbs)) (g2:Gs N w s2 (dg q.den)) (hn:n<1000000000)
  (hK:∀g cap w',Grow N base w' (.slice (some ⟨g,0,none⟩) (n+1) cap) (n+1) (upd f n q)->(∃g',base<=g'/\Chg g' (g'+1) w w'/\NoU w g')->g<w'.heap.size->K (a.put o.dst (.slice (some ⟨g,0,none⟩) (n+1) cap)) w') :
  if Region.wanted o (yielded ops a.tmps)=true then Oper.wp Tryz.prog o a w K Q else E:=by
 have hw:Region.wanted o (yielded ops a.tmps)=true:=by simp[Region.wanted,hgd]
 rw[if_pos hw];exact vI s x t ht ho hs h hx hb hneg g1 g2 hn hK
def cat (n:Nat) (x y:q_v) (j:Nat):Rat:=if j<n then x j else y (j-n)
theorem Zv(t ty:TypeId) (ht:Tryz.prog.underlying t=some (.slice 35)){x:q_v}(h:Grow N base w v n x)
  {sv:Value}{y:q_v}(hl:LsV N lo hi w sv m y) (hn:n+m<1000000000) :
  ∃v' w',(Builtin.append_ #[t,t] ty #[v,sv]).run Tryz.prog w=.ok v' w'/\Grow N base w' v' (n+m) (cat n x y)/\(∃g',base<=g'/\Chg g' (g'+1) w w'/\NoU w g'):=by
 obtain⟨i0,hi0,hz0,hz1,hz2⟩:=info_parts yJ;obtain⟨h1,h2,h3⟩:=h;obtain⟨A,c,rfl,hnc,hcm⟩:=hl.form;have hT:NoU w w.heap.size:=fun cs fr h=>by rw[Array.getElem?_eq_none (q_r)] at h;cases h
 rcases A with _|⟨b,off,el⟩
 ·
  have hm:m=0:=by
   rcases Nat.eq_zero_or_pos m with h0|h0
   ·exact h0
   ·obtain⟨b,off,hA,_⟩:=hl.addr h0;cases hA
  subst hm;refine⟨v,w,?_,⟨h1,h2,?_⟩,⟨w.heap.size,h2,Chg.refl _ _ w,hT⟩⟩
  ·rcases h3 with ⟨rfl,rfl⟩|⟨g,cap,rfl,hg,hm,hr⟩
   ·simp[Builtin.append_,run_underlying ht,sizeOf,typeInfo,hi0,Builtin.lenOf,Builtin.firstCells]
   ·simp[Builtin.append_,run_underlying ht,sizeOf,typeInfo,hi0,Builtin.lenOf,Builtin.firstCells,hr.2.1,storeCells]
  ·rcases h3 with h3|⟨g,cap,hv,hg,hm,hr⟩
   ·exact .inl h3
   ·exact .inr ⟨g,cap,hv,hg,hm,hr.congr (fun j hj=>by unfold cat;rw[if_pos hj])⟩
 ·have hown:∃xs,w.ownsRow base 35 4 v n xs/\∀g k,v.ownBlock=some g->k<n*4->xs[k]?=w.cell? ⟨g,k,none⟩:=by
   rcases h3 with ⟨rfl,rfl⟩|⟨g,cap,rfl,hg,hm,hr⟩
   ·exact⟨[],⟨by simp,.inl ⟨rfl,rfl⟩⟩,fun g k hg hk=>by omega⟩
   ·obtain⟨xs,hx,hc⟩:=Zx hr hm hg
    exact⟨xs,hx,fun g' k hg' hk=>by
     have:g=g':=by simpa[Value.ownBlock] using hg'
     subst this;exact hc k hk⟩
  obtain⟨xs,hown,hcell⟩:=hown
  have hsrc:∀k,k<m*4->∃u,w.cell? ((⟨b,off,el⟩:Addr).add k)=some u/\u.oneCell'=true:=by
   intro k hk;obtain⟨b',off',hA,-,-,hx⟩:=hl.addr (by omega);injection hA with hA
   injection hA with e1 e2 e3
   subst e1 e2 e3;rw[jH];obtain⟨A1,n1,c1,A2,n2,c2,p0,p1,p2,p3,-⟩:=(hx (k / 4) (by omega)).val;have hk4:k=k / 4*4+k % 4:=by omega
   have hr:k % 4=0\/k % 4=1\/k % 4=2\/k % 4=3:=by omega
   rcases hr with hr|hr|hr|hr
   ·rw[show off+k=off+k / 4*4 by omega];exact⟨_,p0,rfl⟩
   ·rw[show off+k=off+k / 4*4+1 by omega];exact⟨_,p1,rfl⟩
   ·rw[show off+k=off+k / 4*4+2 by omega];exact⟨_,p2,rfl⟩
   ·rw[show off+k=off+k / 4*4+3 by omega];exact⟨_,p3,rfl⟩
  let news:List Value:=(List.range (m*4)).map fun k=>(w.cell? ((⟨b,off,el⟩:Addr).add k)).getD undef
  have hnl:news.length=m*4:=by simp[news]
  have hnews:∀j u,news[j]?=some u->w.cell? ((⟨b,off,el⟩:Addr).add j)=some u:=by
   intro j u hj
   have hjl:j<m*4:=by
    rcases Nat.lt_or_ge j (m*4) with h|h
    ·exact h
    ·rw[List.getElem?_eq_none (by omega)] at hj;cases hj
   obtain⟨u',hu',-⟩:=hsrc j hjl;simp only[news,List.getElem?_map,List.getElem?_range hjl,Option.map_some,Option.some.injEq] at hj;rw[hu'] at hj ⊢;simpa using hj
  have hone:∀u∈news,u.oneCell'=true:=by
   intro u hu;obtain⟨k,hk,rfl⟩:=List.mem_map.1 hu;obtain⟨u',hu',h1⟩:=hsrc k (List.mem_range.1 hk);rw[hu'];exact h1
  obtain⟨v',w',hrun,ho,hgr,-,hat⟩:=run_append_own_at (P:=Tryz.prog) w base t ty 35 i0 _ 4 64 ht hi0 hz0 hz1 hz2 rfl (by omega) v n xs hown ⟨b,off,el⟩ m c news hnl hnews hone (by unfold maxLen;omega) (by omega) h2
  have hchg:∃g',base<=g'/\Chg g' (g'+1) w w'/\NoU w g':=by
   rcases h3 with ⟨rfl,rfl⟩|⟨g0,cap0,rfl,hg,hm,hr⟩
   ·exact⟨w.heap.size,h2,zT hgr (fun k hk=>by simp[Value.ownBlock] at hk) hT,hT⟩
   ·exact⟨g0,hg,zT hgr (fun k hk=>by simpa[Value.ownBlock] using hk.symm) hr.noU,hr.noU⟩
  refine⟨v',w',hrun,⟨h1,q_l h2 hgr.size,?_⟩,hchg⟩
  rcases ho.2 with ⟨hv,h0⟩|⟨g,cap,cur,hv,hbg,hh,hnc',hcm',hcs,htk⟩
  ·exact .inl ⟨hv,h0⟩
  ·refine .inr ⟨g,cap,hv,hbg,hcm',?_⟩;obtain⟨g',hg',hc,hT'⟩:=hchg;have hNg:N<=g':=by omega
   have hx:∀k,k<(n+m)*4->w'.cell? ⟨g,k,none⟩=(xs++news)[k]?:=by
    intro k hk;rw[qh hh,<-htk,List.getElem?_take,if_pos hk];simp
   have hxl:xs.length=n*4:=hown.1;refine⟨by omega,hnc',⟨cur,hh,hcs⟩,fun j hj=>?_⟩
   by_cases hjn:j<n
   ·unfold cat;rw[if_pos hjn]
    rcases h3 with ⟨rfl,rfl⟩|⟨g0,cap0,rfl,hg,hm,hr⟩
    ·omega
    ·obtain⟨s',t',d0,d1,d2,d3,g1,g2⟩:=hr.2.2.2 j (by omega)
     have hy:∀k,k<n*4->w'.cell? ⟨g,k,none⟩=w.cell? ⟨g0,k,none⟩:=fun k hk=>by
      rw[hx k (by omega),List.getElem?_append_left (by omega),hcell g0 k rfl hk]
     exact⟨s',t',(hy _ (by omega)).trans d0,(hy _ (by omega)).trans d1,(hy _ (by omega)).trans d2,(hy _ (by omega)).trans d3,g1.chg hc hNg,g2.chg hc hNg⟩
   ·unfold cat;rw[if_neg hjn];obtain⟨b',off',hA,-,-,hxx⟩:=hl.addr (by omega);injection hA with hA
    injection hA with e1 e2 e3
    subst e1 e2 e3;obtain⟨s',t',d0,d1,d2,d3,g1,g2⟩:=hxx (j-n) (by omega)
    have hy:∀k,n*4<=k->k<(n+m)*4->w'.cell? ⟨g,k,none⟩=w.cell? ⟨b,off+(k-n*4),none⟩:=fun k hk1 hk2=>by
     have hlt:k-n*4<m*4:=by omega
     rw[hx k hk2,List.getElem?_append_right (by omega),hxl];obtain⟨u',hu',-⟩:=hsrc (k-n*4) hlt;simp only[news,List.getElem?_map,List.getElem?_range hlt,Option.map_some];rw[hu',<-jH,hu'];rfl
    refine⟨s',t',?_,?_,?_,?_,g1.chg hc hNg,g2.chg hc hNg⟩
    ·rw[hy _ (by omega) (by omega),show off+(j*4-n*4)=off+(j-n)*4 by omega];exact d0
    ·rw[hy _ (by omega) (by omega),show off+(j*4+1-n*4)=off+(j-n)*4+1 by omega];exact d1
    ·rw[hy _ (by omega) (by omega),show off+(j*4+2-n*4)=off+(j-n)*4+2 by omega];exact d2
    ·rw[hy _ (by omega) (by omega),show off+(j*4+3-n*4)=off+(j-n)*4+3 by omega];exact d3
theorem Ku{o:Oper}{a:Act}{K:Act->World->Prop}{Q:Exit->Act->World->Prop}(s x:Operand) (t:TypeId) (ht:Tryz.prog.underlying t=some (.slice 35))
  (ho:o.op=.call { callee:=.builtin .append,args:=#[s,x],argTypes:=#[t,t] }){f:q_v}(hs:a.eval s=v) (h:Grow N base w v n f)
  {sv:Value}{y:q_v}(hx:a.eval x=sv) (hl:LsV N lo hi w sv m y) (hn:n+m<1000000000)
  (hK:∀A' c' w',Grow N base w' (.slice A' (n+m) c') (n+m) (cat n f y)->(∃g',base<=g'/\Chg g' (g'+1) w w'/\NoU w g')->K (a.put o.dst (.slice A' (n+m) c')) w'):o.wp Tryz.prog a w K Q:=by
 obtain⟨v',w',hrun,h1,h2⟩:=Zv t o.type ht h hl hn;unfold Oper.wp execOp;simp only[ho,resolve,invoke,builtin,Sem.run_bind,Sem.run_pure,Result.andThen_ok,List.map_toArray,List.map_cons,List.map_nil,hs,hx,hrun];obtain⟨A',c',rfl,-⟩:=h1.form;exact hK A' c' w' h1 h2
theorem vJ{ops:Array Oper}{rest:List Oper}{o:Oper}{a:Act}{Q:Exit->Act->World->Prop}(hgd:o.guard=none) (s x:Operand) (t:TypeId) (ht:Tryz.prog.underlying t=some (.slice 35))
  (ho:o.op=.call { callee:=.builtin .append,args:=#[s,x],argTypes:=#[t,t] }){f:q_v}(hs:a.eval s=v) (h:Grow N base w v n f)
  {sv:Value}{y:q_v}(hx:a.eval x=sv) (hl:LsV N lo hi w sv m y) (hn:n+m<1000000000)
  (hK:∀A' c' w',Grow N base w' (.slice A' (n+m) c') (n+m) (cat n f y)->(∃g',base<=g'/\Chg g' (g'+1) w w'/\NoU w g')->wpList Tryz.prog ops Q rest (a.put o.dst (.slice A' (n+m) c')) w'):wpList Tryz.prog ops Q (o :: rest) a w :=
 wpList_plain hgd fun _ hK'=>Ku s x t ht ho hs h hx hl hn (fun A' c' w' a1 a2=>hK' _ _ (hK A' c' w' a1 a2))
def zX (N lo hi:Nat) (w:World) (v:Value) (m n:Nat) (A:q_m):Prop :=
 N<=lo/\lo<=hi/\hi<=w.heap.size/\((v=.slice none 0 0/\m=0)\/∃h cap β κ,v=.slice (some ⟨h,0,none⟩) m cap/\cap<=maxLen/\qU N lo hi w h cap m n β κ A)
section
variable {N lo hi:Nat}{w w':World}{v:Value}{m n:Nat}{A:q_m}
theorem zX.empty(hN:N<=lo) (hb:lo<=g) (hg:g<hi) (hs:hi<=w.heap.size) (h:w.heap[g]?=some (.cells #[] 37 (0,0))) (A:q_m):zX N lo hi w (.slice (some ⟨g,0,none⟩) 0 0) 0 n A :=
 ⟨hN,by omega,hs,.inr ⟨g,0,fun _=>0,fun _=>0,rfl,Nat.zero_le _,⟨hN,⟨#[],h,rfl,fun i hi=>by omega⟩,q_r,hb,hg,hs,fun i hi=>by omega,fun i hi=>by omega,fun i hi=>by omega,fun i hi=>by omega,fun i j hi=>by omega⟩⟩⟩
theorem zX.ext (h:zX N lo hi w v m n A) (e:Ext w w'):zX N lo hi w' v m n A:=by
 obtain⟨h1,h2,h3,h4⟩:=h;refine⟨h1,h2,q_l h3 e.size,?_⟩
 rcases h4 with h4|⟨h,cap,β,κ,hv,hc,ho⟩
 ·exact .inl h4
 ·exact .inr ⟨h,cap,β,κ,hv,hc,ho.ext e⟩
theorem zX.chg (h:zX N lo hi w v m n A){l u:Nat}(c:Chg l u w w') (hN:N<=l) (hd:hi<=l\/u<=lo):zX N lo hi w' v m n A:=by
 obtain⟨h1,h2,h3,h4⟩:=h;refine⟨h1,h2,q_l h3 c.size,?_⟩
 rcases h4 with h4|⟨h,cap,β,κ,hv,hc,ho⟩
 ·exact .inl h4
 ·exact .inr ⟨h,cap,β,κ,hv,hc,ho.chg c hN hd⟩
theorem zX.congr {B:q_m}(h:zX N lo hi w v m n A) (he:∀i,i<m->∀j,j<n->A i j=B i j):zX N lo hi w v m n B:=by
 obtain⟨a1,a2,a3,h4⟩:=h;refine⟨a1,a2,a3,?_⟩
 rcases h4 with h4|⟨h,cap,β,κ,hv,hc,ho⟩
 ·exact .inl h4
 ·exact .inr ⟨h,cap,β,κ,hv,hc,ho.congr he⟩
theorem zX.own (h:zX N lo hi w v m n A) (hm:0<m):∃h cap β κ,v=.slice (some ⟨h,0,none⟩) m cap/\cap<=maxLen/\qU N lo hi w h cap m n β κ A:=by
 obtain⟨-,-,-,⟨rfl,rfl⟩|⟨h,cap,β,κ,rfl,hc,ho⟩⟩:=h
 ·omega
 ·exact⟨h,cap,β,κ,rfl,hc,ho⟩
theorem KA (t ty:TypeId) (ht:Tryz.prog.underlying t=some (.slice 37)) (h:zX N lo hi w v m n A){cap:Nat}{x:q_v}(hr:kS N w b cap n x) (hb:hi<=b) (hcm:cap<=maxLen)
  {bx:Nat}{fr:Nat×Nat}(hbx:w.heap[bx]?=some (.cells #[.slice (some ⟨b,0,none⟩) n cap] 37 fr)) (hm:m<1000000000) :
  ∃h' cap' w',(Builtin.append_ #[t,t] ty #[v,.slice (some ⟨bx,0,none⟩) 1 1]).run Tryz.prog w=.ok (.slice (some ⟨h',0,none⟩) (m+1) cap') w'/\zX N lo w'.heap.size w' (.slice (some ⟨h',0,none⟩) (m+1) cap') (m+1) n (xE A m x)/\(∃g',lo<=g'/\Chg g' (g'+1) w w'/\NoU w g'):=by
 obtain⟨i0,hi0,hz0,hz1,hz2⟩:=info_parts Jk;obtain⟨h1,h2,h3,h4⟩:=h;have hT:NoU w w.heap.size:=fun cs fr h=>by rw[Array.getElem?_eq_none (q_r)] at h;cases h
 have hown:∃xs,w.ownsRow lo 37 1 v m xs:=by
  rcases h4 with ⟨rfl,rfl⟩|⟨h,cap,β,κ,rfl,hc,ho⟩
  ·exact⟨[],by simp,.inl ⟨rfl,rfl⟩⟩
  ·obtain⟨hs,a1,a2,a3⟩:=ho.hh;have:=ho.mle;exact⟨hs.toList.take (m*1),by rw[List.length_take];simp;omega,.inr ⟨h,cap,hs,rfl,ho.hlo,a1,ho.mle,hc,by omega,rfl⟩⟩
 obtain⟨xs,hown⟩:=hown
 obtain⟨g,cap',w',hrun,ho',hgr,hat,hlt⟩:=run_append_lies (P:=Tryz.prog) w t ty lo 37 i0 _ 1 24 ht hi0 hz0 hz1 hz2 rfl (by omega) v m xs hown ⟨bx,0,none⟩ 1 1 [.slice (some ⟨b,0,none⟩) n cap] rfl
  (fun j u hj=>by
   rw[jH,Nat.zero_add,qh hbx]
   simpa using hj)
  (fun u hu=>by simp at hu;subst hu;rfl) (by omega) (by unfold maxLen;omega) (by omega) (by omega) w.heap.size rfl
 have hchg:∃g',lo<=g'/\Chg g' (g'+1) w w'/\NoU w g'/\(∀cs,w.heap[g']?≠some (.cells cs 35 (0,0))):=by
  rcases h4 with ⟨rfl,rfl⟩|⟨h,cap,β,κ,rfl,hc,ho⟩
  ·exact⟨w.heap.size,by omega,zT hgr (fun k hk=>by simp[Value.ownBlock] at hk) hT,hT,fun cs h=>by rw[Array.getElem?_eq_none (q_r)] at h;cases h⟩
  ·refine⟨h,ho.hlo,zT hgr (fun k hk=>by simpa[Value.ownBlock] using hk.symm) ho.noU,ho.noU,fun cs hcs=>?_⟩;obtain⟨hs,a1,-,-⟩:=ho.hh;rw[a1] at hcs;injection hcs with hcs
   injection hcs with _ hcs
   exact absurd hcs (by decide)
 obtain⟨g',hg',hc',hT',hty⟩:=hchg;refine⟨g,cap',w',hrun,?_,g',hg',hc',hT'⟩
 rcases ho'.2 with ⟨h,_⟩|⟨g2,cap2,cur,hv,hbg,hh,hnc,hcm',hcs,htk⟩
 ·cases h
 ·injection hv with e1 _ e3
  injection e1 with e1
  injection e1 with e1 _
  subst e1 e3
  have hrow:∀ {b k x},kS N w b k n x->kS N w' b k n x:=fun {b k x} hr=>by
   refine hr.chg hc' (by omega) ?_
   have:b≠g':=by
    rintro rfl;obtain⟨-,-,⟨cs,h5,-⟩,-⟩:=hr;exact hty cs h5
   omega
  have hxl:xs.length=m:=by have:=hown.1;omega
  have hx:∀k,k<m+1->cur[k]?=(xs ++ [.slice (some ⟨b,0,none⟩) n cap])[k]?:=by
   intro k hk;rw[<-htk,List.getElem?_take,if_pos (by omega)];simp
  have hbl:=(hrow hr).lt;have hsz:=hgr.size;refine⟨h1,by omega,q_r,?_⟩
  rcases h4 with ⟨rfl,rfl⟩|⟨h,cap0,β,κ,rfl,hc,ho⟩
  ·refine .inr ⟨g,cap',fun _=>b,fun _=>cap,rfl,hcm',⟨h1,⟨cur,hh,by omega,fun i hi'=>?_⟩,by omega,hbg,by omega,q_r,fun i _=>by omega,fun i _=>hbl,fun i _=>hcm,fun i hi'=>?_,fun i j hi' hj' hij=>by omega⟩⟩
   ·rw[hx i (by omega),List.getElem?_append_right (by omega),show i-xs.length=0 by omega];rfl
   ·obtain rfl:i=0:=by omega
    rw[xq];exact hrow hr
  ·obtain⟨hs,a1,a2,a3⟩:=ho.hh;have hme:=ho.mle
   have hxs:xs=hs.toList.take (m*1):=by
    rcases hown.2 with ⟨h9,_⟩|⟨g9,c9,cur9,hv9,_,hh9,_,_,_,ht9⟩
    ·cases h9
    ·have e1:h=g9:=Option.some.inj (congrArg Value.ownBlock hv9);clear hv9;subst e1;rw[a1] at hh9;have e2:hs=cur9:=congrArg (fun o:Option Obj=>match o with|some (.cells c _ _)=>c|_=>#[]) hh9;subst e2;exact ht9.symm
   refine .inr ⟨g,cap',fun i=>if i=m then b else β i,fun i=>if i=m then cap else κ i,rfl,hcm',⟨h1,⟨cur,hh,by omega,fun i hi'=>?_⟩,by omega,hbg,by omega,q_r,fun i hi'=>?_,fun i hi'=>?_,fun i hi'=>?_,fun i hi'=>?_,fun i j hi' hj' hij=>?_⟩⟩
   ·by_cases him:i=m
    ·subst him;rw[hx i (by omega),List.getElem?_append_right (by omega),show i-xs.length=0 by omega]
     simp
    ·rw[hx i (by omega),List.getElem?_append_left (by omega),hxs,List.getElem?_take,if_pos (by omega)];simp only[him,if_false];have h8:=a3 i (by omega);rw[Array.getElem?_toList];exact h8
   ·by_cases him:i=m
    ·simp only[him,if_true];omega
    ·simp only[him,if_false];exact ho.lo_ i (by omega)
   ·by_cases him:i=m
    ·simp only[him,if_true];exact hbl
    ·simp only[him,if_false];have:=ho.hi_ i (by omega);omega
   ·by_cases him:i=m
    ·simp only[him,if_true];exact hcm
    ·simp only[him,if_false];exact ho.cap i (by omega)
   ·by_cases him:i=m
    ·simp only[him,if_true];rw[xq];exact hrow hr
    ·simp only[him,if_false];rw[Zj A x him];exact hrow (ho.row i (by omega))
   ·by_cases him:i=m
    ·have hjm:j≠m:=by omega
     simp only[him,hjm,if_true,if_false];have:=ho.hi_ j (by omega);omega
    ·by_cases hjm:j=m
     ·simp only[him,hjm,if_true,if_false];have:=ho.hi_ i (by omega);omega
     ·simp only[him,hjm,if_false];exact ho.inj i j (by omega) (by omega) hij
end
theorem XA{A:q_m}{o:Oper}{a:Act}{K:Act->World->Prop}{Q:Exit->Act->World->Prop}(s x:Operand) (t:TypeId) (ht:Tryz.prog.underlying t=some (.slice 37))
  (ho:o.op=.call { callee:=.builtin .append,args:=#[s,x],argTypes:=#[t,t] }) (hs:a.eval s=v) (h:zX N lo hi w v m n A){bx:Nat}(hx:a.eval x=.slice (some ⟨bx,0,none⟩) 1 1){cap:Nat}{f:q_v}(hr:kS N w b cap n f) (hb:hi<=b) (hcm:cap<=maxLen)
  {fr:Nat×Nat}(hbx:w.heap[bx]?=some (.cells #[.slice (some ⟨b,0,none⟩) n cap] 37 fr)) (hm:m<1000000000)
  (hK:∀h' cap' w',zX N lo w'.heap.size w' (.slice (some ⟨h',0,none⟩) (m+1) cap') (m+1) n (xE A m f)->(∃g',lo<=g'/\Chg g' (g'+1) w w'/\NoU w g')->K (a.put o.dst (.slice (some ⟨h',0,none⟩) (m+1) cap')) w'):o.wp Tryz.prog a w K Q:=by
 obtain⟨h',cap',w',hrun,h1,h2⟩:=KA t o.type ht h hr hb hcm hbx hm;unfold Oper.wp execOp;simp only[ho,resolve,invoke,builtin,Sem.run_bind,Sem.run_pure,Result.andThen_ok,List.map_toArray,List.map_cons,List.map_nil,hs,hx,hrun];exact hK h' cap' w' h1 h2
theorem zS{A:q_m}{ops:Array Oper}{rest:List Oper}{o:Oper}{a:Act}{Q:Exit->Act->World->Prop}(hgd:o.guard=none) (s x:Operand) (t:TypeId) (ht:Tryz.prog.underlying t=some (.slice 37))
  (ho:o.op=.call { callee:=.builtin .append,args:=#[s,x],argTypes:=#[t,t] }) (hs:a.eval s=v) (h:zX N lo hi w v m n A){bx:Nat}(hx:a.eval x=.slice (some ⟨bx,0,none⟩) 1 1){cap:Nat}{f:q_v}(hr:kS N w b cap n f) (hb:hi<=b) (hcm:cap<=maxLen)
  {fr:Nat×Nat}(hbx:w.heap[bx]?=some (.cells #[.slice (some ⟨b,0,none⟩) n cap] 37 fr)) (hm:m<1000000000)
  (hK:∀h' cap' w',zX N lo w'.heap.size w' (.slice (some ⟨h',0,none⟩) (m+1) cap') (m+1) n (xE A m f)->(∃g',lo<=g'/\Chg g' (g'+1) w w'/\NoU w g')->wpList Tryz.prog ops Q rest (a.put o.dst (.slice (some ⟨h',0,none⟩) (m+1) cap')) w'):wpList Tryz.prog ops Q (o :: rest) a w :=
 wpList_plain hgd fun _ hK'=>XA s x t ht ho hs h hx hr hb hcm hbx hm (fun h' cap' w' a1 a2=>hK' _ _ (hK h' cap' w' a1 a2))
def zY (N:Nat) (w:World) (m n:Nat) (A:q_m) (e:Ending) (w':World):Prop:=∃h cap β κ,e=.returned (.slice (some ⟨h,0,none⟩) m cap)/\cap<=maxLen/\qU N w.heap.size w'.heap.size w' h cap m n β κ A/\Ext w w'
def q6w (N:Nat) (w:World) (n:Nat) (x:q_v) (e:Ending) (w':World):Prop:=∃A c,e=.returned (.slice A n c)/\LsV N w.heap.size w'.heap.size w' (.slice A n c) n x/\Ext w w'
def q46 (N:Nat) (w:World) (m n:Nat) (X:q_m) (e:Ending) (w':World):Prop:=∃A c,e=.returned (.slice A m c)/\MtV N w.heap.size w'.heap.size w' (.slice A m c) m n X/\Ext w w'
theorem zY.mt{A:q_m}{e:Ending}(h:zY N w m n A e w'):q46 N w m n A e w':=by
 obtain⟨h,cap,β,κ,he,hc,ho,hx⟩:=h;exact⟨_,_,he,ho.mtv ho.mle hc,hx⟩
theorem Z5(hN:N<=w.heap.size) (n:Int) (h1 : -9223372036854775808<=n) (h2:n<=9223372036854775807) :
  Calls Tryz.prog 25 #[.int .i64 n] w (jP N w (n:Rat)):=by
 go_enter Tryz.func25,Tryz.ntmps25;go_wp2_with (go_at_call 7;refine q_o ?_);refine qW ?_;intro W hE hsz B0;refine (kV (N:=N) (by have:=hE.size;omega) n h1 h2).mono ?_;intro e w1 hh;obtain⟨b1,A1,k1,c1,A2,k2,c2,rfl,hb1,g1,g2,e1⟩:=hh.form;have B1:=e1.block B0;obtain⟨r0,r1,r2,r3,r4,r5,r6,r7⟩:=cells4 B1;go_wp2;exact qQ rfl rfl rfl (hE.trans e1) B1 (by omega) hN g1 g2 hb1
theorem Z4(hN:N<=w.heap.size) (m n:Nat){M' N':Int}(hM':M'=(m:Int)) (hN':N'=(n:Int)) (hm:m<1000000) (hn0:0<n) (hn:n<1000000) :
  Calls Tryz.prog 24 #[.int .i64 M',.int .i64 N'] w (zY N w m n (fun _ _=>0)):=by
 subst hM' hN';go_enter Tryz.func24,Tryz.ntmps24
 go_upto_block 0 with (fail)
 refine qo ?_;intro W hE hsz B0;have hG0:zX N w.heap.size W.heap.size W (.slice (some ⟨w.heap.size,0,none⟩) 0 0) 0 n (fun _ _=>0):=zX.empty hN (q_r) (by omega) (q_r) B0 _;clear B0;go_wp2
 go_loopw [5,6] (fun v i wr=>∃k:Nat,k<=m/\i=.int .i64 k/\Ext w wr/\∃h c,v=.slice (some ⟨h,0,none⟩) k c/\zX N w.heap.size wr.heap.size wr (.slice (some ⟨h,0,none⟩) k c) k n (fun _ _=>0)) (fun _ i _=>m-(intOf i).toNat)
 case atStart=>exact⟨0,Nat.zero_le _,rfl,hE,_,_,rfl,hG0⟩
 case round =>
  clear hG0 hE hsz;obtain⟨k,hk,rfl,hE,h,c,rfl,hG⟩:=hrel;have hsz:=hE.size
  by_cases hlt:k<m
  ·go_upto_block 2 with (fail)
   refine qo ?_;intro W1 e1 hsz1 B1;have hR:Grow N wr.heap.size W1 (.slice (some ⟨wr.heap.size,0,none⟩) 0 0) 0 (fun _=>0):=Grow.empty (by omega) (q_r) B1 _;replace hG:=hG.ext e1;replace hE:=hE.trans e1;clear B1;go_wp2
   go_loopw [7,8] (fun v i ws=>∃j:Nat,j<=n/\i=.int .i64 j/\Ext w ws/\wr.heap.size<=ws.heap.size/\zX N w.heap.size wr.heap.size ws (.slice (some ⟨h,0,none⟩) k c) k n (fun _ _=>0)/\∃A' c',v=.slice A' j c'/\Grow N wr.heap.size ws (.slice A' j c') j (fun _=>0)) (fun _ i _=>n-(intOf i).toNat)
   case atStart=>exact⟨0,Nat.zero_le _,rfl,hE,by omega,hG,_,_,rfl,hR⟩
   case round =>
    clear hG hE hR hsz1 e1;obtain⟨j,hj,rfl,hE,hsz1,hG,A',c',rfl,hR⟩:=hrel
    by_cases hlt':j<n
    ·go_wp2_with (go_at_call 25;refine q_o ?_);refine (Z5 (N:=N) (by omega) 0 (by omega) (by omega)).mono ?_;intro e w1 hh;obtain⟨b1,A1,k1,c1,A2,k2,c2,rfl,hb1,g1,g2,e1⟩:=hh.form;go_wp2_with (at_builtin;refine q_o ?_);refine qo ?_;intro w2 e2 hsz2 BX;replace hE:=(hE.trans e1).trans e2;replace hG:=(hG.ext e1).ext e2;replace hR:=(hR.ext e1).ext e2;replace hsz1:=q_l hsz1 (q_l e1.size e2.size);refine zx rfl _ _ 37 Tryz.underlying37 rfl rfl hR rfl BX hb1 (g1.ext e2) (g2.ext e2) (by omega) ?_;rintro g cap w3 hR3 ⟨g',hg',c3,-⟩ hlt3;replace hE:=c3.ext hE (by omega);replace hG:=hG.chg c3 (by omega) (.inl hg');replace hR3:=hR3.congr (y:=fun _=>0) (fun i _=>by unfold upd;split<;>rfl);replace hsz1:=q_l hsz1 c3.size;clear hR c3 g1 g2 e1 e2 BX hlt3;go_wp2;go_roundw
     case rel=>exact⟨j+1,by omega,by go_num,hE,hsz1,hG,_,_,rfl,hR3⟩
     case measure=>simp[intOf];omega
    ·obtain rfl:j=n:=by omega
     obtain⟨g,cap,hv,hg,hgs,hcm,hnc,hrow⟩:=hR.some hn0;injection hv with e1 e2 e3
     subst e1 e3;go_wp2_with (at_builtin;refine q_o ?_);refine qo ?_;intro w2 e2 hsz2 BX;replace hE:=hE.trans e2;replace hG:=hG.ext e2;refine zS rfl _ _ 29 Tryz.underlying29 rfl rfl hG rfl (hrow.ext e2) hg hcm BX (by omega) ?_;rintro h' cap' w3 hG3 ⟨g',hg',c3,-⟩;replace hE:=c3.ext hE (by omega);replace hG3:=hG3.congr (B:=fun _ _=>0) (fun i _ j _=>by unfold xE;split<;>rfl);clear hG hR c3 hrow BX e2;go_wp2;go_roundw
     case rel=>exact⟨k+1,by omega,by go_num,hE,_,_,rfl,hG3⟩
     case measure=>simp[intOf];omega
  ·obtain rfl:k=m:=by omega
   obtain⟨h',cap,β,κ,hv,hc,ho⟩:∃h' cap β κ,Value.slice (some ⟨h,0,none⟩) k c=.slice (some ⟨h',0,none⟩) k cap/\cap<=maxLen/\qU N w.heap.size wr.heap.size wr h' cap k n β κ (fun _ _=>0):=by
    obtain⟨-,-,-,⟨h9,-⟩|h9⟩:=hG
    ·cases h9
    ·exact h9
   have HV:=q_h hv;clear hv;go_wp2;go_ret;exact⟨h',cap,β,κ,by rw[HV.out];rfl,hc,ho,hE⟩
theorem At4.open{o:Nat}(h:At4 N w b o (raw q)):∃(B:Bool) (A:Option Addr) (n c:Nat) (A':Option Addr) (n' c':Nat),w.cell? ⟨b,o,none⟩=some (.bool B)/\w.cell? ⟨b,o+1,none⟩=some (.slice A n c)/\w.cell? ⟨b,o+2,none⟩=some (.bool false)/\w.cell? ⟨b,o+3,none⟩=some (.slice A' n' c')/\Hid (B=decide (q.num<0))/\Gs N w (.slice A n c) (dg q.num.natAbs)/\Gs N w (.slice A' n' c') (dg q.den):=by
 obtain⟨s,t,h0,h1,h2,h3,g1,g2⟩:=h;obtain⟨A,n,c,rfl,-,-,-⟩:=g1.form;obtain⟨A',n',c',rfl,-,-,-⟩:=g2.form;exact⟨_,A,n,c,A',n',c',h0,h1,h2,h3,rfl,g1,g2⟩
theorem yu {F:World->Prop}{o0:Obj}(h:∀w1,Ext w w1->w.heap.size+1<=w1.heap.size->w1.heap[w.heap.size]?=some o0->F w1):F (w.alloc o0).drew:=by
 refine h _ ((Ext.refl w).alloc _).drew ?_ (heap_alloc_new w o0);have:=(qo (F:=fun W=>w.heap.size+1<=W.heap.size) (w:=w) (o0:=o0) (fun _ _ h _=>h))
 exact this
theorem kS.at_{x:q_v}(h:kS N w b k n x)(hi:i<n):∃(B:Bool) (A:Option Addr) (n c:Nat) (A':Option Addr) (n' c':Nat),w.cell? ⟨b,i*4,none⟩=some (.bool B)/\w.cell? ⟨b,i*4+1,none⟩=some (.slice A n c)/\w.cell? ⟨b,i*4+2,none⟩=some (.bool false)/\w.cell? ⟨b,i*4+3,none⟩=some (.slice A' n' c') /\
  w.frozen? ⟨b,i*4,none⟩=false/\w.frozen? ⟨b,i*4+1,none⟩=false/\w.frozen? ⟨b,i*4+2,none⟩=false/\w.frozen? ⟨b,i*4+3,none⟩=false/\Hid (B=decide ((x i).num<0))/\Gs N w (.slice A n c) (dg (x i).num.natAbs)/\Gs N w (.slice A' n' c') (dg (x i).den):=by
 obtain⟨B,A,n,c,A',n',c',h0,h1,h2,h3,h4,h5,h6⟩:=(h.2.2.2 i hi).open;exact⟨B,A,n,c,A',n',c',h0,h1,h2,h3,h.frozen _,h.frozen _,h.frozen _,h.frozen _,h4,h5,h6⟩
theorem LsV.addr{x:q_v}(h:LsV N lo hi w (.slice A n c) n x) (hn:0<n):∃b off,A=some ⟨b,off,none⟩/\lo<=b/\b<hi/\∀i,i<n->At4 N w b (off+i*4) (raw (x i)):=LsR.addr h hn
theorem MtV.addr{X:q_m}(h:MtV N lo hi w (.slice A m c) m n X) (hm:0<m):∃b off,A=some ⟨b,off,none⟩/\lo<=b/\b<hi/\∀i,i<m->∃(A':Option Addr) (c':Nat),w.cell? ⟨b,off+i,none⟩=some (.slice A' n c')/\n<=c'/\c'<=maxLen/\LsV N lo hi w (.slice A' n c') n (X i):=MtR.addr h hm
theorem LsV.ext{x:q_v}(h:LsV N lo hi w v n x) (e:Ext w w'):LsV N lo hi w' v n x:=LsR.ext h e
theorem MtV.ext{X:q_m}(h:MtV N lo hi w v m n X) (e:Ext w w'):MtV N lo hi w' v m n X:=MtR.ext h e
theorem LsV.congr{x y:q_v}(h:LsV N lo hi w v n x) (he:∀i,i<n->x i=y i):LsV N lo hi w v n y:=LsR.congr h (fun i hi=>by rw[he i hi])
theorem LsV.le{x:q_v}(h:LsV N lo hi w v n x):N<=w.heap.size:=LsR.le h
theorem MtV.le{X:q_m}(h:MtV N lo hi w v m n X):N<=w.heap.size:=MtR.le h
theorem LsV.form{x:q_v}(h:LsV N lo hi w v n x):∃(A:Option Addr) (c:Nat),v=.slice A n c/\n<=c/\c<=maxLen:=LsR.form h
theorem MtV.form{X:q_m}(h:MtV N lo hi w v m n X):∃(A:Option Addr) (c:Nat),v=.slice A m c/\m<=c/\c<=maxLen:=MtR.form h
theorem MtV.congr{X Y:q_m}(h:MtV N lo hi w v m n X) (he:∀i,i<m->∀j,j<n->X i j=Y i j):MtV N lo hi w v m n Y:=MtR.congr h (fun _ _=>rfl) (fun i hi j hj=>by rw[he i hi j hj])
theorem zX.own'{h:Nat}{A:q_m}(hG:zX N lo hi w (.slice (some ⟨h,0,none⟩) m c) m n A):∃β κ,c<=maxLen/\qU N lo hi w h c m n β κ A:=by
 obtain⟨-,-,-,⟨h9,-⟩|⟨h',cap,β,κ,hv,hc,ho⟩⟩:=hG
 ·cases h9
 ·have e1:h=h':=Option.some.inj (congrArg Value.ownBlock hv);have e2:c=cap:=congrArg (fun v:Value=>match v with|.slice _ _ c=>c|_=>0) hv;subst e1 e2;exact⟨β,κ,hc,ho⟩
theorem q2g{x:q_v}(h:LsV N lo hi w v n x) (hn:n<1000000) :
  Calls Tryz.prog 44 #[v] w (zY N w n 1 (fun i _=>x i)):=by
 have hN:=h.le;obtain⟨A,c,rfl,hmc,hcm⟩:=h.form;have hI:=h;clear h hcm;go_enter Tryz.func44,Tryz.ntmps44
 go_upto_block 0 with (fail)
 refine qo ?_;intro W hE hsz B0;have hG0:zX N w.heap.size W.heap.size W (.slice (some ⟨w.heap.size,0,none⟩) 0 0) 0 1 (fun i _=>x i):=zX.empty hN (q_r) (by omega) (q_r) B0 _;clear B0;go_wp2
 go_loopw [3,4] (fun v i wr=>∃k:Nat,k<=n/\i=.int .i64 k/\Ext w wr/\∃h c,v=.slice (some ⟨h,0,none⟩) k c/\zX N w.heap.size wr.heap.size wr (.slice (some ⟨h,0,none⟩) k c) k 1 (fun i _=>x i)) (fun _ i _=>n-(intOf i).toNat)
 case atStart=>exact⟨0,Nat.zero_le _,rfl,hE,_,_,rfl,hG0⟩
 case round =>
  clear hG0 hE hsz;obtain⟨k,hk,rfl,hE,h,c',rfl,hG⟩:=hrel;have hsz:=hE.size
  by_cases hlt:k<n
  ·obtain⟨b,off,rfl,-,-,hx⟩:=(hI.ext hE).addr (by omega);obtain⟨b1,A1,n1,c1,A2,n2,c2,p0,p1,p2,p3,hb1,g1,g2⟩:=(hx k hlt).open;clear hx;go_wp2_with (at_builtin;refine q_o ?_);refine kD ?_;intro W1 e1 hsz1 B1 BX
   have hrow:kS N W1 wr.heap.size 1 1 (fun _=>x k):=by
    refine⟨by omega,by omega,⟨_,B1,rfl⟩,fun j hj=>?_⟩;obtain rfl:j=0:=by omega
    obtain⟨z0,z1,z2,z3,-⟩:=cells4 B1;refine⟨_,_,?_,z1,z2,z3,g1.ext e1,g2.ext e1⟩
    show W1.cell? ⟨wr.heap.size,0,none⟩=some (.bool (decide ((x k).num<0)))
    rw[<-hb1.out];exact z0
   replace hG:=hG.ext e1;replace hE:=hE.trans e1;refine zS rfl _ _ 29 Tryz.underlying29 rfl rfl hG rfl hrow (q_r) (by unfold maxLen;omega) BX (by omega) ?_;rintro h' cap' w4 hG3 ⟨g',hg',c3,-⟩;replace hE:=c3.ext hE (by omega);replace hG3:=hG3.congr (B:=fun i _=>x i) (fun i _ j _=>by unfold xE;split<;>simp_all);clear hG c3 hrow BX e1 B1 p0 p1 p2 p3 g1 g2;go_wp2;go_roundw
   case rel=>exact⟨k+1,by omega,by go_num,hE,_,_,rfl,hG3⟩
   case measure=>simp[intOf];omega
  ·obtain rfl:k=n:=by omega
   obtain⟨β,κ,hc,ho⟩:=hG.own';go_wp2;go_ret;exact⟨h,c',β,κ,rfl,hc,ho,hE⟩
theorem q4G{X:q_m}(h:MtV N lo hi w v m n X) (hm:m<1000000) (hn0:0<n) :
  Calls Tryz.prog 42 #[v] w (q6w N w m (fun i=>X i 0)):=by
 have hN:=h.le;obtain⟨A,c,rfl,hmc,hcm⟩:=h.form;unfold maxLen at hcm;have hI:=h;clear h;go_enter Tryz.func42,Tryz.ntmps42
 go_upto_block 0 with (fail)
 refine qo ?_;intro W hE hsz B0;have hG0:Grow N w.heap.size W (.slice (some ⟨w.heap.size,0,none⟩) 0 0) 0 (fun i=>X i 0):=Grow.empty hN (q_r) B0 _;clear B0;go_wp2
 go_loopw [3,4] (fun v i wr=>∃k:Nat,k<=m/\i=.int .i64 k/\Ext w wr/\∃A c,v=.slice A k c/\Grow N w.heap.size wr (.slice A k c) k (fun i=>X i 0)) (fun _ i _=>m-(intOf i).toNat)
 case atStart=>exact⟨0,Nat.zero_le _,rfl,hE,_,_,rfl,hG0⟩
 case round =>
  clear hG0 hE hsz;obtain⟨k,hk,rfl,hE,A',c',rfl,hG⟩:=hrel;have hsz:=hE.size
  by_cases hlt:k<m
  ·obtain⟨b,off,rfl,-,-,hx⟩:=(hI.ext hE).addr (by omega);obtain⟨A1,c1,p0,-,-,hl⟩:=hx k hlt;obtain⟨b',off',rfl,-,-,hx'⟩:=hl.addr hn0;obtain⟨b1,A1,n1,c1,A2,n2,c2,q0,q1,q2,q3,hb1,g1,g2⟩:=(hx' 0 hn0).open;rw[Nat.zero_mul,Nat.add_zero] at q0 q1 q2 q3;clear hx hx' hl;go_wp2_with (at_builtin;refine q_o ?_);refine qo ?_;intro W1 e1 hsz1 BX;replace hG:=hG.ext e1;replace hE:=hE.trans e1;refine zx rfl _ _ 37 Tryz.underlying37 rfl rfl hG rfl BX hb1 (g1.ext e1) (g2.ext e1) (by omega) ?_;rintro g cap w3 hR3 ⟨g',hg',c3,-⟩ hlt3;replace hE:=c3.ext hE (by omega);replace hR3:=hR3.congr (y:=fun i=>X i 0) (fun i _=>by unfold upd;split<;>simp_all);clear hG c3 BX e1 p0 q0 q1 q2 q3 g1 g2;go_wp2;go_roundw
   case rel=>exact⟨k+1,by omega,by go_num,hE,_,_,rfl,hR3⟩
   case measure=>simp[intOf];omega
  ·obtain rfl:k=m:=by omega
   go_wp2;go_ret;exact⟨_,_,rfl,hG.lsv (q_r) rfl,hE⟩
theorem Yc{X:q_m}(h:MtV N lo hi w v m n X) (hm0:0<m) (hm:m<1000000) (hn:n<1000000) :
  Calls Tryz.prog 108 #[v] w (zY N w n m (fun i j=>X j i)):=by
 have hN:=h.le;obtain⟨A,c,rfl,hmc,hcm⟩:=h.form;unfold maxLen at hcm;have hI:=h;obtain⟨Z,hZ⟩:=qc (fun i j=>X j i);rw[<-hZ.out];obtain⟨b,off,rfl,-,-,hx⟩:=h.addr hm0;obtain⟨A1,c1,p0,hnc,hcm1,-⟩:=hx 0 hm0;rw[Nat.add_zero] at p0;unfold maxLen at hcm1;clear h hx;go_enter Tryz.func108,Tryz.ntmps108;go_wp2_with (go_at_call 24;refine q_o ?_);refine (Z4 hN n m rfl rfl hn hm0 hm).mono ?_;rintro e w1 ⟨h,cap,β,κ,rfl,hcap,ho,hE⟩;have hs1:=hE.size;clear p0;go_wp2
 go_loopw [4] (fun i wr=>∃k:Nat,k<=m/\i=.int .i64 k/\Ext w wr/\∃B,qU N w.heap.size w1.heap.size wr h cap n m β κ B/\Hid (∀i,i<k->∀j,j<n->B j i=X i j)) (fun i _=>m-(intOf i).toNat)
 case atStart=>exact⟨0,Nat.zero_le _,rfl,hE,_,ho,fun i hi=>by omega⟩
 case round =>
  clear hE ho;obtain⟨k,hk,rfl,hE,B,ho,HB⟩:=hrel
  by_cases hlt:k<m
  ·go_wp2
   go_loopw [5] (fun i ws=>∃l:Nat,l<=n/\i=.int .i64 l/\Ext w ws/\∃B,qU N w.heap.size w1.heap.size ws h cap n m β κ B/\Hid (∀i,i<k->∀j,j<n->B j i=X i j)/\Hid (∀j,j<l->B j k=X k j)) (fun i _=>n-(intOf i).toNat)
   case atStart=>exact⟨0,Nat.zero_le _,rfl,hE,B,ho,HB,fun j hj=>by omega⟩
   case round =>
    clear hE ho HB B;obtain⟨l,hl,rfl,hE,B,ho,HB,HC⟩:=hrel;obtain⟨b',off',hA,-,-,hx⟩:=(hI.ext hE).addr (by omega);obtain⟨rfl,rfl⟩:b=b'/\off=off':=by injection hA with hA;injection hA with e1 e2;exact⟨e1,e2⟩
    obtain⟨A2,c2,q0,-,-,hl2⟩:=hx k hlt;clear hx hA
    by_cases hlt':l<n
    ·obtain⟨b2,off2,rfl,-,-,hx⟩:=hl2.addr (by omega);obtain⟨n1,A3,k3,c3,A4,k4,c4,p0,p1,p2,p3,hb1,g1,g2⟩:=(hx l hlt').open;have r0:=ho.hcell hlt';obtain⟨zb,zA,zn,zc,zA2,zn2,zc2,t0,t1,t2,t3,t4,t5,t6,t7,-⟩:=(ho.row l hlt').at_ hlt;clear hx hl2;go_wp2;have eC:=(Ext.refl wr).drew;refine qw (fun w'=>w'.cell? ⟨h,l,none⟩=some (.slice (some ⟨β l,0,none⟩) m (κ l))/\w'.cell? ⟨b,off+k,none⟩=some (.slice (some ⟨b2,off2,none⟩) n c2)/\w'.cell? ⟨b2,off2+l*4,none⟩=some (.bool n1)/\w'.cell? ⟨b2,off2+l*4+1,none⟩=some (.slice A3 k3 c3)/\w'.cell? ⟨b2,off2+l*4+2,none⟩=some (.bool false)/\w'.cell? ⟨b2,off2+l*4+3,none⟩=some (.slice A4 k4 c4)) [13] (by kernel_rfl) (by exact⟨eC.cell r0,eC.cell q0,eC.cell p0,eC.cell p1,eC.cell p2,eC.cell p3⟩) (fun hHeld=>?_);refine sP 0 (h:=?_);refine sP 1 (h:=?_);refine sP 2 (h:=?_);refine sT 3 (h:=?_);refine sP 4 (h:=?_);refine sP 5 (h:=?_);refine sP 6 (h:=?_);refine sP 7 (h:=?_);refine sT 8 (h:=?_);refine sP 9 (h:=?_);refine sP 10 (h:=?_);refine sT 11 (h:=?_);refine sP 12 (h:=?_);refine qj (i:=13) rfl (by kernel_rfl) (by kernel_rfl) (fun K hK=>?_);go_simp;refine hK.out _ _ ?_;clear hK K;try simp only[nr]
     refine qg (by kernel_rfl) ?_ _;clear hHeld;obtain⟨w6,E6,C6,hs6,hr6⟩:=(ho.row l hlt').set (i:=k) (q:=X k l) (by have:=(ho.row l hlt').2.1;omega) (by omega) hb1 g1 g2;rw[E6];clear E6;have ho6:=ho.setRow hlt' C6 (hr6.less (n':=m) (by omega));replace hE:=C6.ext hE (ho.lo_ l hlt');go_wp2;go_roundw
     case rel=>exact⟨l+1,by omega,by go_num,hE.drew,_,ho6.ext (Ext.refl _).drew,fun i hi j hj=>(by
       unfold xE
       split
       ·rename_i e;subst e;rw[upd_ne _ _ (by omega)];exact HB.out i hi j hj
       ·exact HB.out i hi j hj),xn (fun j hj=>(by rw[Zj _ _ (by omega)];exact HC.out j hj)) (by rw[xq,upd_same])⟩
     case measure=>simp[intOf];omega
    ·obtain rfl:l=n:=by omega
     go_wp2;go_roundw
     case rel=>exact⟨k+1,by omega,by go_num,hE,B,ho,xn HB.out HC.out⟩
     case measure=>simp[intOf];omega
  ·obtain rfl:k=m:=by omega
   go_wp2;go_ret;exact⟨h,cap,β,κ,rfl,hcap,(ho.congr (fun i hi j hj=>by rw[hZ.out];exact HB.out j hj i hi)).wide (q_r) hN ho.his (q_r),hE⟩
theorem Vl(hN:N<=w.heap.size) (n:Nat){N':Int}(hN':N'=(n:Int)) (hn0:0<n) (hn:n<1000000) :
  Calls Tryz.prog 5 #[.int .i64 N'] w (zY N w n n dlt):=by
 subst hN';go_enter Tryz.func5,Tryz.ntmps5;go_wp2_with (go_at_call 24;refine q_o ?_);refine (Z4 hN n n rfl rfl hn hn0 hn).mono ?_;rintro e w1 ⟨h,cap,β,κ,rfl,hcap,ho,hE⟩;have hs1:=hE.size;go_wp2
 go_loopw [4] (fun i wr=>∃k:Nat,k<=n/\i=.int .i64 k/\Ext w wr/\∃B,qU N w.heap.size w1.heap.size wr h cap n n β κ B/\Hid (∀i,i<n->∀j,j<n->B i j=if i<k then dlt i j else 0)) (fun i _=>n-(intOf i).toNat)
 case atStart=>exact⟨0,Nat.zero_le _,rfl,hE,_,ho,fun i hi j hj=>by simp⟩
 case round =>
  clear hE ho;obtain⟨k,hk,rfl,hE,B,ho,HB⟩:=hrel;have hsz:=ho.his
  by_cases hlt:k<n
  ·have r0:=ho.hcell hlt;go_wp2;have eC:=(Ext.refl wr).drew;refine qw (fun w'=>w'.cell? ⟨h,k,none⟩=some (.slice (some ⟨β k,0,none⟩) n (κ k))) [7] (by kernel_rfl) (by exact eC.cell r0) (fun hHeld=>?_);refine sP 0 (h:=?_);refine sP 1 (h:=?_);refine sP 2 (h:=?_);refine sT 3 (h:=?_);refine sP 4 (h:=?_);refine qp (i:=5) rfl (by kernel_rfl) (fun K hK=>?_);go_simp;refine (Z5 (N:=N) (by show N<=wr.heap.size;omega) 1 (by omega) (by omega)).mono ?_;intro e w2 hh;obtain⟨n1,A3,k3,c3,A4,k4,c4,rfl,hb1,g1,g2,e1⟩:=hh.form;replace eC:=eC.trans e1;have ho2:=ho.ext eC;obtain⟨zb,zA,zn,zc,zA2,zn2,zc2,t0,t1,t2,t3,t4,t5,t6,t7,-⟩:=(ho2.row k hlt).at_ hlt;go_wp2_with fail;clear hHeld;refine hK.out _ _ (by exact eC.cell r0) fun hHeld=>?_
   clear hK K;try simp only[nr]
   refine sP 6 (h:=?_);refine qj (i:=7) rfl (by kernel_rfl) (by kernel_rfl) (fun K hK=>?_);go_simp;refine hK.out _ _ ?_;clear hK K;try simp only[nr]
   refine qg (by kernel_rfl) ?_ _;clear hHeld;obtain⟨w6,E6,C6,hs6,hr6⟩:=(ho2.row k hlt).set (i:=k) (q:=((1:Int):Rat)) (by have:=(ho2.row k hlt).2.1;omega) (by omega) hb1 g1 g2;rw[E6];clear E6;have ho6:=ho2.setRow hlt C6 (hr6.less (n':=n) (by omega));replace hE:=C6.ext (hE.trans eC) (ho.lo_ k hlt);go_wp2;go_roundw
   case rel=>exact⟨k+1,by omega,by go_num,hE,_,ho6,fun i hi j hj=>(by
     unfold xE
     by_cases e:i=k
     ·subst e;rw[if_pos rfl,if_pos (by omega)];unfold upd
      by_cases e2:j=i
      ·subst e2;rw[if_pos rfl,kX];rfl
      ·rw[if_neg e2,HB.out i hi j hj,if_neg (by omega),kY (by omega)]
     ·rw[if_neg e,HB.out i hi j hj]
      by_cases e2:i<k
      ·rw[if_pos e2,if_pos (by omega)]
      ·rw[if_neg e2,if_neg (by omega)])⟩
   case measure=>simp[intOf];omega
  ·obtain rfl:k=n:=by omega
   go_wp2;go_ret;exact⟨h,cap,β,κ,rfl,hcap,(ho.congr (fun i hi j hj=>by rw[HB.out i hi j hj,if_pos hi])).wide (q_r) hN ho.his (q_r),hE⟩
theorem q8y {lo' hi':Nat}{v':Value}{p:Nat}{X Y:q_m}(h:MtV N lo hi w v m n X) (h':MtV N lo' hi' w v' n p Y) (hm:m<1000000) (hn0:0<n) (hn:n<1000000) (hp0:0<p) (hp:p<1000000)
  {kx ky:Nat}(hkx:HtM m n kx X) (hky:HtM n p ky Y) (hK:n*(kx+ky+1)+1<=29000000000) :
  Calls Tryz.prog 43 #[v,v'] w (zY N w m p (mm n X Y)):=by
 have hN:=h.le
 have HZ:Hid (∀i,i<m->∀j,j<p->∀k,k<n->Sz (X i k)/\Sz (Y k j)/\Sz (X i k*Y k j)/\Sz (sum k (fun t=>X i t*Y t j))):=fun i hi j hj k hk=>by
  have h1:=Nat.le_mul_of_pos_left (kx+ky+1) (show 0<n by omega);exact⟨(hkx i hi k hk).sz (by omega),(hky k hk j hj).sz (by omega),((hkx i hi k hk).mul (hky k hk j hj)).sz (by omega),(JV (k:=kx+ky) (n:=n) (fun t ht=>(hkx i hi t ht).mul (hky t ht j hj)) (by omega) hK).sz (q_r)⟩
 obtain⟨A,c,rfl,hmc,hcm⟩:=h.form;obtain⟨A0,c0,rfl,hmc0,hcm0⟩:=h'.form;unfold maxLen at hcm hcm0;have hI:=h;have hI':=h';obtain⟨b',off',rfl,-,-,hx⟩:=h'.addr hn0;obtain⟨A1,c1,p0,hnc,hcm1,-⟩:=hx 0 hn0;rw[Nat.add_zero] at p0;unfold maxLen at hcm1;have P0:=q_h p0;clear h h' hx hkx hky hK;go_enter Tryz.func43,Tryz.ntmps43;go_wp2_with (go_at_call 24;refine q_o ?_);refine (Z4 hN m p rfl rfl hm hp0 hp).mono ?_;rintro e w1 ⟨h,cap,β,κ,rfl,hcap,ho,hE⟩;have hs1:=hE.size;clear p0;go_wp2
 go_loopw [6] (fun i wr=>∃k:Nat,k<=m/\i=.int .i64 k/\Ext w wr/\∃B,qU N w.heap.size w1.heap.size wr h cap m p β κ B/\Hid (∀i,i<k->∀j,j<p->B i j=mm n X Y i j)) (fun i _=>m-(intOf i).toNat)
 case atStart=>exact⟨0,Nat.zero_le _,rfl,hE,_,ho,fun i hi=>by omega⟩
 case round =>
  clear hE ho;obtain⟨k,hk,rfl,hE,B,ho,HB⟩:=hrel
  by_cases hlt:k<m
  ·go_wp2
   go_loopw [7] (fun i ws=>∃l:Nat,l<=p/\i=.int .i64 l/\Ext w ws/\∃B,qU N w.heap.size w1.heap.size ws h cap m p β κ B/\Hid (∀i,i<k->∀j,j<p->B i j=mm n X Y i j)/\Hid (∀j,j<l->B k j=mm n X Y k j)) (fun i _=>p-(intOf i).toNat)
   case atStart=>exact⟨0,Nat.zero_le _,rfl,hE,B,ho,HB,fun j hj=>by omega⟩
   case round =>
    clear hE ho HB B;obtain⟨l,hl,rfl,hE,B,ho,HB,HC⟩:=hrel;have p0:=hE.cell P0.out;have hsz:=ho.his
    by_cases hlt':l<p
    ·go_wp2_with (go_at_call 25;refine q_o ?_);refine (Z5 (N:=N) (by omega) 0 (by omega) (by omega)).mono ?_;intro e w2 hh;obtain⟨n1,A3,k3,c3,A4,k4,c4,rfl,hb1,g1,g2,e1⟩:=hh.form;go_upto_region 9 with (fail);refine qo ?_;intro w3 e3 hsz3 BS;have hB:je N w3 w2.heap.size (sum 0 (fun t=>X k t*Y t l)):=je.mk BS hb1 (g1.ext e3) (g2.ext e3);replace hE:=(hE.trans e1).trans e3;replace ho:=(ho.ext e1).ext e3;have hsz2:w1.heap.size<=w2.heap.size:=q_l hsz e1.size;clear g1 g2 hb1 BS e1 e3 p0;go_wp2
     go_loopw [9] (fun i wt=>∃t:Nat,t<=n/\i=.int .i64 t/\Ext w wt/\qU N w.heap.size w1.heap.size wt h cap m p β κ B/\w2.heap.size<wt.heap.size/\je N wt w2.heap.size (sum t (fun t=>X k t*Y t l))) (fun i _=>n-(intOf i).toNat)
     case atStart=>exact⟨0,Nat.zero_le _,rfl,hE,ho,by omega,hB⟩
     case round =>
      clear hE ho hB hsz3;obtain⟨t,ht,rfl,hE,ho,hsz3,hB⟩:=hrel;obtain⟨b1,A1,k1,c1,A2,k2,c2,BS,hb1,g1,g2⟩:=hB;obtain⟨s0,s1,s2,s3,s4,s5,s6,s7⟩:=cells4 BS;have hv:=qX.mk hb1 g1 g2
      by_cases hlt3:t<n
      ·obtain⟨b2,off2,rfl,-,-,hx⟩:=(hI.ext hE).addr (by omega);obtain⟨A3,c3,q0,-,-,hl2⟩:=hx k hlt;obtain⟨b3,off3,rfl,-,-,hx⟩:=hl2.addr (by omega);obtain⟨m1,A5,k5,c5,A6,k6,c6,p0,p1,p2,p3,hm1,x1,x2⟩:=(hx t hlt3).open;obtain⟨b4,off4,hA,-,-,hx⟩:=(hI'.ext hE).addr (by omega);obtain⟨rfl,rfl⟩:b'=b4/\off'=off4:=by injection hA with hA;injection hA with e1 e2;exact⟨e1,e2⟩
       obtain⟨A4,c4,r0,-,-,hl3⟩:=hx t hlt3;obtain⟨b5,off5,rfl,-,-,hx⟩:=hl3.addr (by omega);obtain⟨m2,A7,k7,c7,A8,k8,c8,o0,o1,o2,o3,hm2,y1,y2⟩:=(hx l hlt').open;clear hx hl2 hl3 hA;go_wp2;have eC:=(Ext.refl wr).drew;refine qw (fun w'=>w'.cell? ⟨w2.heap.size,0,none⟩=some (.bool b1)/\w'.cell? ⟨w2.heap.size,1,none⟩=some (.slice A1 k1 c1)/\w'.cell? ⟨w2.heap.size,2,none⟩=some (.bool false)/\w'.cell? ⟨w2.heap.size,3,none⟩=some (.slice A2 k2 c2)/\w'.cell? ⟨b2,off2+k,none⟩=some (.slice (some ⟨b3,off3,none⟩) n c3)/\w'.cell? ⟨b3,off3+t*4,none⟩=some (.bool m1)/\w'.cell? ⟨b3,off3+t*4+1,none⟩=some (.slice A5 k5 c5)/\w'.cell? ⟨b3,off3+t*4+2,none⟩=some (.bool false)/\w'.cell? ⟨b3,off3+t*4+3,none⟩=some (.slice A6 k6 c6)/\w'.cell? ⟨b',off'+t,none⟩=some (.slice (some ⟨b5,off5,none⟩) p c4)/\w'.cell? ⟨b5,off5+l*4,none⟩=some (.bool m2)/\w'.cell? ⟨b5,off5+l*4+1,none⟩=some (.slice A7 k7 c7)/\w'.cell? ⟨b5,off5+l*4+2,none⟩=some (.bool false)/\w'.cell? ⟨b5,off5+l*4+3,none⟩=some (.slice A8 k8 c8)) [17] (by kernel_rfl) (by exact⟨eC.cell s0,eC.cell s1,eC.cell s2,eC.cell s3,eC.cell q0,eC.cell p0,eC.cell p1,eC.cell p2,eC.cell p3,eC.cell r0,eC.cell o0,eC.cell o1,eC.cell o2,eC.cell o3⟩) (fun hHeld=>?_);refine sT 0 (h:=?_);refine sP 1 (h:=?_);refine sP 2 (h:=?_);refine sP 3 (h:=?_);refine sT 4 (h:=?_);refine sP 5 (h:=?_)
       refine sP 6 (h:=?_);refine sT 7 (h:=?_);refine sP 8 (h:=?_);refine sP 9 (h:=?_);refine sP 10 (h:=?_);refine sT 11 (h:=?_);refine sP 12 (h:=?_);refine sP 13 (h:=?_);refine sT 14 (h:=?_);refine qp (i:=15) rfl (by kernel_rfl) (fun K hK=>?_);go_simp;refine (Yg (x:=X k t) (y:=Y t l) (by exact (qX.mk hm1 x1 x2).ext eC) (by exact (qX.mk hm2 y1 y2).ext eC) (HZ.out k hlt l hlt' t hlt3).1 (HZ.out k hlt l hlt' t hlt3).2.1).mono ?_;rintro e w4 ⟨v4,rfl,h4,e4⟩;replace eC:=eC.trans e4;go_wp2_with fail;clear hHeld;refine hK.out _ _ (by exact⟨eC.cell s0,eC.cell s1,eC.cell s2,eC.cell s3,eC.cell q0,eC.cell p0,eC.cell p1,eC.cell p2,eC.cell p3,eC.cell r0,eC.cell o0,eC.cell o1,eC.cell o2,eC.cell o3⟩) fun hHeld=>?_
       clear hK K;try simp only[nr]
       refine qp (i:=16) rfl (by kernel_rfl) (fun K hK=>?_);go_simp;refine (WB (x:=sum t (fun t=>X k t*Y t l)) (y:=X k t*Y t l) (by exact hv.ext eC) (by exact h4) (HZ.out k hlt l hlt' t hlt3).2.2.2 (HZ.out k hlt l hlt' t hlt3).2.2.1).mono ?_;intro e w5 hh;obtain⟨b9,A9,k9,c9,A10,k10,c10,rfl,hb9,g9,g10,e5⟩:=hh.form;replace eC:=eC.trans e5;have D0:=eC.block BS;obtain⟨t0,t1,t2,t3,t4,t5,t6,t7⟩:=cells4 D0;go_wp2_with fail;clear hHeld;refine hK.out _ _ (by exact⟨eC.cell s0,eC.cell s1,eC.cell s2,eC.cell s3,eC.cell q0,eC.cell p0,eC.cell p1,eC.cell p2,eC.cell p3,eC.cell r0,eC.cell o0,eC.cell o1,eC.cell o2,eC.cell o3⟩) fun hHeld=>?_
       clear hK K;try simp only[nr]
       refine qj (i:=17) rfl (by kernel_rfl) (by kernel_rfl) (fun K hK=>?_);go_simp;refine hK.out _ _ ?_;clear hK K;try simp only[nr]
       refine qg (by kernel_rfl) ?_ _;clear hHeld;obtain⟨w6,E6,hB6,K6,hs6⟩:=Q7 D0 (by omega) (q:=sum (t+1) (fun t=>X k t*Y t l)) hb9 g9 g10;rw[E6];clear E6;have ho6:=(ho.ext eC).chg K6 (by omega) (.inl (by omega));replace hE:=K6.ext (hE.trans eC) (by omega);go_wp2;go_roundw
       case rel=>exact⟨t+1,by omega,by go_num,hE,ho6,by have:=eC.size;omega,hB6⟩
       case measure=>simp[intOf];omega
      ·obtain rfl:t=n:=by omega
       have r0:=ho.hcell hlt;obtain⟨zb,zA,zn,zc,zA2,zn2,zc2,t0,t1,t2,t3,t4,t5,t6,t7,-⟩:=(ho.row k hlt).at_ hlt';go_wp2;have eC:=(Ext.refl wr).drew;refine qw (fun w'=>w'.cell? ⟨h,k,none⟩=some (.slice (some ⟨β k,0,none⟩) p (κ k))/\w'.cell? ⟨w2.heap.size,0,none⟩=some (.bool b1)/\w'.cell? ⟨w2.heap.size,1,none⟩=some (.slice A1 k1 c1)/\w'.cell? ⟨w2.heap.size,2,none⟩=some (.bool false)/\w'.cell? ⟨w2.heap.size,3,none⟩=some (.slice A2 k2 c2)) [7] (by kernel_rfl) (by exact⟨eC.cell r0,eC.cell s0,eC.cell s1,eC.cell s2,eC.cell s3⟩) (fun hHeld=>?_);refine sP 0 (h:=?_);refine sP 1 (h:=?_);refine sP 2 (h:=?_);refine sT 3 (h:=?_);refine sP 4 (h:=?_);refine sT 5 (h:=?_);refine sP 6 (h:=?_);refine qj (i:=7) rfl (by kernel_rfl) (by kernel_rfl) (fun K hK=>?_);go_simp;refine hK.out _ _ ?_;clear hK K;try simp only[nr]
       refine qg (by kernel_rfl) ?_ _;clear hHeld;obtain⟨w6,E6,C6,hs6,hr6⟩:=(ho.row k hlt).set (i:=l) (q:=mm t X Y k l) (by have:=(ho.row k hlt).2.1;omega) (by omega) hb1 g1 g2;rw[E6];clear E6;have ho6:=ho.setRow hlt C6 (hr6.less (n':=p) (by omega));replace hE:=C6.ext hE (ho.lo_ k hlt);go_wp2;go_roundw
       case rel=>exact⟨l+1,by omega,by go_num,hE.drew,_,ho6.ext (Ext.refl _).drew,fun i hi j hj=>(by rw[Zj _ _ (by omega)];exact HB.out i hi j hj),xn (fun j hj=>(by rw[xq,upd_ne _ _ (by omega)];exact HC.out j hj)) (by rw[xq,upd_same])⟩
       case measure=>simp[intOf];omega
    ·obtain rfl:l=p:=by omega
     go_wp2;go_roundw
     case rel=>exact⟨k+1,by omega,by go_num,hE,B,ho,xn HB.out HC.out⟩
     case measure=>simp[intOf];omega
  ·obtain rfl:k=m:=by omega
   go_wp2;go_ret;exact⟨h,cap,β,κ,rfl,hcap,(ho.congr (fun i hi j hj=>HB.out i hi j hj)).wide (q_r) hN ho.his (q_r),hE⟩
end
section
def av (n:Nat) (A:q_m) (x:q_v) (i:Nat):Rat:=sum n (fun c=>A i c*x c)
def nb (m:Nat) (A:q_m) (P L:q_v) (a:Nat):Rat:=sum m (fun k=>A k a*(P k*L k))
theorem xK (a:Rat):0<=a*a:=by
 rcases Rat.le_total (a:=0) (b:=a) with h|h
 ·exact Rat.mul_nonneg h h
 ·have h1:0<=-a:=by grind
  have h2:=Rat.mul_nonneg h1 h1;have e : -a * -a=a*a:=by grind
  rwa [e] at h2
theorem XH {a:Rat}(h:a*a=0):a=0:=by grind
theorem q5a {r:Nat}{K X:q_m}(hK:∀i j,K i j=K j i) (h1:∀i,i<r->∀c,c<r->mm r K X i c=dlt i c) (h2:∀i,i<r->∀c,c<r->mm r X K i c=dlt i c):∀i,i<r->∀j,j<r->X i j=X j i:=by
 intro i hi j hj
 have a1:mm r (mm r X K) (fun a b=>X b a) i j=X j i:=by
  rw[xH (a':=dlt) (b':=fun a b=>X b a) (fun k hk=>h2 i hi k hk) (fun _ _=>rfl),WI _ hi]
 have a2:mm r (mm r X K) (fun a b=>X b a) i j=X i j:=by
  rw[jA,xH (a':=X) (b':=dlt) (fun _ _=>rfl) (fun k hk=>?_),q6e _ hj];have:=h2 j hj k hk
  have hd:dlt k j=dlt j k:=by
   by_cases h:k=j
   ·rw[h]
   ·rw[kY h,kY (fun e=>h e.symm)]
  rw[hd,<-this];exact qf fun l _=>by rw[hK k l];grind
 rw[<-a1,a2]
variable {m n:Nat}{A M X:q_m}{P:q_v}{p:List Nat}
theorem q0C{f:q_v}(hi:i<m) (h:∀k,k<m->0<=f k):f i<=sum m f:=by
 have h1:sum m f=sum m (fun k=>if k=i then f i else 0)+sum m (fun k=>if k=i then 0 else f k):=by
  rw[<-Ql];refine qf fun k _=>?_
  by_cases hk:k=i
  ·subst hk;simp<;>grind
  ·simp[hk]<;>grind
 have h2:sum m (fun k=>if k=i then f i else 0)=f i:=by
  rw[kN hi (fun k _ hk=>by simp[hk])];simp
 have h3:0<=sum m (fun k=>if k=i then 0 else f k):=KR fun k hk=>by
  by_cases hk':k=i
  ·simp[hk']<;>grind
  ·simp[hk'];exact h k hk
 grind
def skip (i j:Nat):Nat:=if j<i then j else j+1
theorem q6R (i j:Nat):skip i j≠i:=by unfold skip;split<;>omega
theorem XI(h:j<m):skip i j<m+1:=by unfold skip;split<;>omega
theorem Wq(hi:i<m+1) (f:q_v):sum m (fun j=>f (skip i j))+f i=sum (m+1) f:=by
 induction m with
 | zero =>
  obtain rfl:i=0:=by omega
  simp only[sum]
 | succ m ih =>
  rcases Nat.lt_or_ge i (m+1) with h|h
  ·have h1:=ih h;rw[qN (m+1) f,<-h1,qN];have e:skip i m=m+1:=by unfold skip;rw[if_neg (by omega)]
   rw[e];grind
  ·obtain rfl:i=m+1:=by omega
   rw[qN (m+1) f,qf (g:=f) (fun j hj=>by unfold skip;rw[if_pos hj])]
variable {m n:Nat}{A M X M':q_m}{P:q_v}{p p':List Nat}
def sgN (j:Nat):Rat:=if j % 2=0 then 1 else -1
theorem q4q (j:Nat):sgN (j+1) = - sgN j:=by
 unfold sgN
 rcases Nat.mod_two_eq_zero_or_one j with h|h
 ·rw[if_neg (by omega),if_pos h]
 ·rw[if_pos (by omega),if_neg (by omega)];grind
def det:Nat->(Nat->Nat->Rat)->Rat
 | 0,_=>1
 | n+1,A=>sum (n+1) (fun j=>sgN j*(A 0 j*det n (fun a b=>A (a+1) (skip j b))))
theorem kZ (n:Nat) (A:q_m):det (n+1) A=sum (n+1) (fun j=>sgN j*(A 0 j*det n (fun a b=>A (a+1) (skip j b)))):=rfl
theorem xw:∀(n:Nat){A B:q_m},(∀i j,i<n->j<n->A i j=B i j)->det n A=det n B
 | 0,_,_,_=>rfl
 | n+1,A,B,h=>by
  rw[kZ,kZ]
  exact qf fun j hj=>by
   rw[h 0 j (by omega) hj,xw n (fun a b ha hb=>h (a+1) (skip j b) (by omega) (XI hb))]
def swR (r:Nat) (A:q_m) (i j:Nat):Rat:=if i=r then A (r+1) j else if i=r+1 then A r j else A i j
def sg2 (j c:Nat):Rat:=if c<j then sgN j*sgN c else-(sgN j*sgN c)
def q48 (n:Nat) (A:q_m) (j c:Nat):Rat:=det n (fun a b=>A (a+2) (if c<j then skip j (skip c b) else skip j (skip (c-1) b)))
theorem Wu(h:c<j):skip j (skip c b)=skip c (skip (j-1) b):=by
 unfold skip
 repeat' split
 all_goals omega
theorem q1C (n:Nat) (A:q_m)(h:j≠c):q48 n A j c=q48 n A c j:=by
 unfold q48;refine xw n fun a b _ _=>?_
 rcases Nat.lt_or_ge c j with h1|h1
 ·rw[if_pos h1,if_neg (by omega),Wu h1]
 ·have h2:j<c:=by omega
  rw[if_neg (by omega),if_pos h2,Wu h2]
theorem q4r(h:j≠c):sg2 j c = - sg2 c j:=by
 unfold sg2
 rcases Nat.lt_or_ge c j with h1|h1
 ·rw[if_pos h1,if_neg (by omega)];grind
 ·rw[if_neg (by omega),if_pos (by omega)];grind
theorem q3A (n:Nat) (A:q_m):det (n+2) A=sum (n+2) (fun j=>sum (n+2) (fun c=>if c=j then 0 else sg2 j c*(A 0 j*A 1 c*q48 n A j c))):=by
 rw[kZ];refine qf fun j hj=>?_
 rw[kZ];have h1:=Wq (m:=n+1) (i:=j) hj (fun c=>if c=j then 0 else sg2 j c*(A 0 j*A 1 c*q48 n A j c));rw[<-h1,if_pos rfl,Rat.add_zero,<-zN,<-zN];refine qf fun l hl=>?_
 rw[if_neg (q6R j l)]
 have h2:sgN j*sgN l=sg2 j (skip j l):=by
  rcases Nat.lt_or_ge l j with h3|h3
  ·have h5:skip j l=l:=by unfold skip;rw[if_pos h3]
   rw[h5];unfold sg2;rw[if_pos h3]
  ·have h5:skip j l=l+1:=by unfold skip;rw[if_neg (by omega)]
   rw[h5];unfold sg2;rw[if_neg (by omega),q4q];grind
 have h3:det n (fun a b=>A (a+1+1) (skip j (skip l b)))=q48 n A j (skip j l):=by
  unfold q48;refine xw n fun a b _ _=>?_
  rcases Nat.lt_or_ge l j with h4|h4
  ·have h5:skip j l=l:=by unfold skip;rw[if_pos h4]
   rw[h5,if_pos h4]
  ·have h5:skip j l=l+1:=by unfold skip;rw[if_neg (by omega)]
   rw[h5,if_neg (by omega),Nat.add_sub_cancel]
 rw[<-h2,<-h3]
 show sgN j*(A 0 j*(sgN l*(A 1 (skip j l)*det n (fun a b=>A (a+1+1) (skip j (skip l b))))))=_
 grind
theorem q7P (n:Nat) (A:q_m):det (n+2) (swR 0 A) = - det (n+2) A:=by
 rw[q3A,q3A,zu,<-jV];refine qf fun c _=>?_
 rw[<-jV];refine qf fun j _=>?_
 by_cases h:c=j
 ·rw[if_pos h,if_pos h.symm];grind
 ·have h':¬j=c:=fun e=>h e.symm
  rw[if_neg h,if_neg h',q4r h',q1C n (swR 0 A) h']
  have h1:q48 n (swR 0 A) c j=q48 n A c j:=by
   unfold q48;exact xw n fun a b _ _=>by unfold swR;rw[if_neg (by omega),if_neg (by omega)]
  have h2:swR 0 A 0 j=A 1 j:=by unfold swR;rw[if_pos rfl]
  have h3:swR 0 A 1 c=A 0 c:=by unfold swR;rw[if_neg (by omega),if_pos rfl]
  rw[h1,h2,h3]
  grind
theorem VV:∀(r n:Nat) (A:q_m),r+1<n->det n (swR r A) = - det n A
 | 0,n,A,h=>by
  obtain⟨m,rfl⟩:∃m,n=m+2:=⟨n-2,by omega⟩
  exact q7P m A
 | r+1,n,A,h=>by
  obtain⟨m,rfl⟩:∃m,n=m+1:=⟨n-1,by omega⟩
  rw[kZ,kZ,<-jV];refine qf fun j _=>?_
  have h1:swR (r+1) A 0 j=A 0 j:=by unfold swR;rw[if_neg (by omega),if_neg (by omega)]
  have h2:det m (fun a b=>swR (r+1) A (a+1) (skip j b))=det m (swR r (fun a b=>A (a+1) (skip j b))):=xw m fun a b _ _=>by
   unfold swR
   by_cases ha:a=r
   ·rw[if_pos (by omega),if_pos ha]
   ·by_cases hb:a=r+1
    ·rw[if_neg (by omega),if_pos (by omega),if_neg ha,if_pos hb]
    ·rw[if_neg (by omega),if_neg (by omega),if_neg ha,if_neg hb]
  rw[h1,h2,VV r m _ (by omega)]
  grind
theorem q0h:∀(i n:Nat) (A:q_m),i+1<n->(∀j,A 0 j=A (i+1) j)->det n A=0
 | 0,n,A,h,hA=>by
  have h1:=VV 0 n A h
  have h2:det n (swR 0 A)=det n A:=xw n fun a b _ _=>by
   unfold swR
   by_cases ha:a=0
   ·rw[if_pos ha,ha,hA b]
   ·by_cases hb:a=0+1
    ·rw[if_neg ha,if_pos hb,hb,hA b]
    ·rw[if_neg ha,if_neg hb]
  rw[h2] at h1
  grind
 | i+1,n,A,h,hA=>by
  have h1:=VV (i+1) n A h
  have h2:=q0h i n (swR (i+1) A) (by omega) (fun j=>by
   unfold swR
   rw[if_neg (by omega),if_neg (by omega),if_pos rfl,hA j])
  rw[h2] at h1
  grind
def q1r (n:Nat) (A:q_m) (j:Nat):Rat:=sgN j*det n (fun a b=>A (a+1) (skip j b))
theorem q3H (n:Nat) (A:q_m):sum (n+1) (fun j=>A 0 j*q1r n A j)=det (n+1) A:=by
 rw[kZ];exact qf fun j _=>by unfold q1r;grind
theorem q3G(A:q_m)(hi:i<n):sum (n+1) (fun j=>A (i+1) j*q1r n A j)=0:=by
 have h1:=q0h i (n+1) (fun a b=>if a=0 then A (i+1) b else A a b) (by omega) (fun j=>by simp);rw[<-h1,kZ];refine qf fun j _=>?_
 unfold q1r;rw[if_pos rfl];have h2:det n (fun a b=>if a+1=0 then A (i+1) (skip j b) else A (a+1) (skip j b))=det n (fun a b=>A (a+1) (skip j b)):=xw n fun a b _ _=>by rw[if_neg (by omega)]
 rw[h2]
 grind
def V6 (n:Nat) (A:q_m):Prop:=∀x:Nat->Rat,(∃i,i<n/\x i≠0)->0<sum n (fun i=>x i*av n A x i)
theorem q2t{A:q_m}(h:V6 (n+1) A):V6 n (fun a b=>A (a+1) (b+1)):=by
 rintro x ⟨i,hi,hx⟩;have h1:=h (fun k=>if k=0 then 0 else x (k-1)) ⟨i+1,by omega,by simpa using hx⟩
 have h2:∀f:Nat->Rat,sum (n+1) f=f 0+sum n (fun k=>f (k+1)):=fun f=>by
  have:=Wq (m:=n) (i:=0) (by omega) f;rw[<-this];have h3:sum n (fun j=>f (skip 0 j))=sum n (fun k=>f (k+1)):=qf fun k _=>by unfold skip;rw[if_neg (by omega)]
  rw[h3];grind
 rw[h2] at h1;simp only[if_pos,Rat.zero_mul,Rat.zero_add] at h1
 have h3:sum n (fun k=>(if k+1=0 then 0 else x (k+1-1))*av (n+1) A (fun k=>if k=0 then 0 else x (k-1)) (k+1))=sum n (fun i=>x i*av n (fun a b=>A (a+1) (b+1)) x i):=qf fun k _=>by
  rw[if_neg (by omega),Nat.add_sub_cancel]
  congr 1
  unfold av;rw[h2];simp[Rat.zero_add]
 rw[h3] at h1;exact h1
theorem q3B:∀(n:Nat) (A:q_m),V6 n A->0<det n A
 | 0,_,_=>by show (0:Rat)<1;decide
 | n+1,A,h=>by
  have h0:0<q1r n A 0:=by
   unfold q1r;have h1:det n (fun a b=>A (a+1) (skip 0 b))=det n (fun a b=>A (a+1) (b+1)):=xw n fun a b _ _=>by unfold skip;rw[if_neg (by omega)]
   have h2:sgN 0=1:=rfl;rw[h1,h2,Rat.one_mul];exact q3B n _ (q2t h)
  have h1:=h (q1r n A) ⟨0,by omega,by grind⟩
  rw[kN (j:=0) (by omega) (fun i hi hne=>by
   obtain⟨k,rfl⟩:∃k,i=k+1:=⟨i-1,by omega⟩
   have:=q3G A (n:=n) (i:=k) (by omega);unfold av
   rw[this];grind)] at h1
  have h2:av (n+1) A (q1r n A) 0=det (n+1) A:=q3H n A;rw[h2] at h1
  have h3:0<(q1r n A 0)⁻¹:=by
   have:=Rat.inv_pos (a:=q1r n A 0)
   grind
  have h4:det (n+1) A=(q1r n A 0)⁻¹*(q1r n A 0*det (n+1) A):=by grind
  rw[h4];exact Rat.mul_pos h3 h1
end
section
open Go.RowKit
theorem q4m(h:j<c):skip c j=j:=by unfold skip;rw[if_pos h]
theorem q4n(h:c<j):skip c (j-1)=j:=by unfold skip;rw[if_neg (by omega)];omega
theorem WA(hm:m=n+1){X:q_m}(h:MtV N lo hi w v m m X) (hn0:0<n) (hn:n<1000)(hc:c<=n) :
  Calls Tryz.prog 136 #[v,.int .i64 0,.int .i64 (c:Int)] w (zY N w n n (fun a b=>X (a+1) (skip c b))):=by
 have HM:=q_h hm;have hmn:m<=n+1/\n+1<=m:=⟨by omega,by omega⟩
 have hN:=h.le;obtain⟨A,cA,rfl,hmc,hcm⟩:=h.form;unfold maxLen at hcm;have hI:=h;obtain⟨Z,hZ⟩:=qc (fun a b=>X (a+1) (skip c b));rw[<-hZ.out];obtain⟨b,off,rfl,-,-,-⟩:=h.addr (by omega);clear h hm;go_enter Tryz.func136,Tryz.ntmps136
 go_upto_block 0 with (fail)
 refine qo ?_;intro W hE hsz B0;have hG0:zX N w.heap.size W.heap.size W (.slice (some ⟨w.heap.size,0,none⟩) 0 0) 0 n Z:=zX.empty hN (q_r) (by omega) (q_r) B0 _;clear B0;go_wp2
 go_loopw [7,8] (fun v i wr=>∃k r:Nat,k<=m/\Hid (r=k-1)/\i=.int .i64 k/\Ext w wr/\∃h c,v=.slice (some ⟨h,0,none⟩) r c/\zX N w.heap.size wr.heap.size wr (.slice (some ⟨h,0,none⟩) r c) r n Z) (fun _ i _=>m-(intOf i).toNat)
 case atStart=>exact⟨0,0,Nat.zero_le _,rfl,rfl,hE,_,_,rfl,hG0⟩
 case round =>
  clear hG0 hE hsz;obtain⟨k,r,hk,HR,rfl,hE,h,cv,rfl,hG⟩:=hrel;have hr:r<=k-1/\k-1<=r:=by have:=HR.out;omega
  have hsz:=hE.size
  by_cases hlt:k<m
  case neg =>
   obtain rfl:k=m:=by omega
   obtain rfl:r=n:=by omega
   obtain⟨β,κ,hc9,ho⟩:=hG.own';go_wp2;go_ret;exact⟨h,cv,β,κ,rfl,hc9,ho,hE⟩
  by_cases hk0:k=0
  ·subst hk0;obtain rfl:r=0:=by omega
   go_wp2;go_roundw
   case rel=>exact⟨1,0,by omega,rfl,by go_num,hE,_,_,rfl,hG⟩
   case measure=>simp[intOf];omega
  have t0:((k:Int) == 0)=false:=by simp;omega
  go_upto_block 2 with (fail)
  refine qo ?_;intro W1 e1 hsz1 B1;have hR:Grow N wr.heap.size W1 (.slice (some ⟨wr.heap.size,0,none⟩) 0 0) 0 (Z r):=Grow.empty (by omega) (q_r) B1 _;replace hG:=hG.ext e1;replace hE:=hE.trans e1;clear B1;go_wp2
  go_loopw [9,10] (fun v i ws=>∃j l:Nat,j<=m/\Hid (l=(if j<=c then j else j-1))/\i=.int .i64 j/\Ext w ws/\wr.heap.size<=ws.heap.size/\zX N w.heap.size wr.heap.size ws (.slice (some ⟨h,0,none⟩) r cv) r n Z/\∃A' c',v=.slice A' l c'/\Grow N wr.heap.size ws (.slice A' l c') l (Z r)) (fun _ i _=>m-(intOf i).toNat)
  case atStart=>exact⟨0,0,Nat.zero_le _,by rw[Hid,if_pos (Nat.zero_le _)],rfl,hE,by omega,hG,_,_,rfl,hR⟩
  case round =>
   clear hG hE hR hsz1 e1;obtain⟨j,l,hj,HL,rfl,hE,hsz1,hG,A',c',rfl,hR⟩:=hrel
   by_cases hlt':j<m
   case pos =>
    by_cases hjc:j=c
    ·have t1:((j:Int) != (c:Int))=false:=by simp[hjc]
     have hl2:Hid (l=(if j+1<=c then j+1 else j+1-1)):=by rw[Hid,HL.out,if_pos (by omega),if_neg (by omega)];rfl
     go_wp2;go_roundw
     case rel=>exact⟨j+1,l,by omega,hl2,by go_num,hE,hsz1,hG,_,_,rfl,hR⟩
     case measure=>simp[intOf];omega
    have t1:((j:Int) != (c:Int))=true:=by simp;omega
    have hl:=HL.out
    have hl2:Hid (l+1=(if j+1<=c then j+1 else j+1-1)):=by
     unfold Hid
     by_cases h9:j<c
     ·rw[hl,if_pos (by omega),if_pos (by omega)]
     ·rw[hl,if_neg (by omega),if_neg (by omega)];omega
    have hln:l<n:=by
     by_cases h9:j<c
     ·rw[if_pos (by omega)] at hl;omega
     ·rw[if_neg (by omega)] at hl;omega
    have HZL:Hid (Z r l=X k j):=by
     rw[Hid,hZ.out]
     show X (r+1) (skip c l)=X k j
     rw[show r+1=k by omega]
     by_cases h9:j<c
     ·rw[if_pos (by omega)] at hl;rw[hl,q4m h9]
     ·rw[if_neg (by omega)] at hl;rw[hl,q4n (by omega)]
    obtain⟨b',off',hA,-,-,hx⟩:=(hI.ext hE).addr (by omega);obtain⟨rfl,rfl⟩:b=b'/\off=off':=by injection hA with hA;injection hA with e1 e2;exact⟨e1,e2⟩
    obtain⟨A2,c2,q0,-,-,hl3⟩:=hx k hlt;obtain⟨b2,off2,rfl,-,-,hx2⟩:=hl3.addr (by omega);obtain⟨n1,A3,k3,c3,A4,k4,c4,p0,p1,p2,p3,hb1,g1,g2⟩:=(hx2 j hlt').open;clear hx hA hl3 hx2 hl;go_wp2_with (at_builtin;refine q_o ?_);refine qo ?_;intro w2 e2 hsz2 BX;replace hE:=hE.trans e2;replace hG:=hG.ext e2;replace hR:=hR.ext e2;replace hsz1:=q_l hsz1 e2.size;refine zx rfl _ _ 37 Tryz.underlying37 rfl rfl hR rfl BX hb1 (g1.ext e2) (g2.ext e2) (by omega) ?_;rintro g cap w3 hR3 ⟨g',hg',c3',-⟩ hlt3;replace hE:=c3'.ext hE (by omega);replace hG:=hG.chg c3' (by omega) (.inl hg')
    have hR4:=hR3.congr (y:=Z r) (fun i hi=>by
     unfold upd
     split
     ·rename_i e9;subst e9;exact HZL.out.symm
     ·rfl)
    replace hsz1:=q_l hsz1 c3'.size;clear hR hR3 c3' g1 g2 e2 BX hlt3 p0 p1 p2 p3 q0;go_wp2;go_roundw
    case rel=>exact⟨j+1,l+1,by omega,hl2,by go_num,hE,hsz1,hG,_,_,rfl,hR4⟩
    case measure=>simp[intOf];omega
   obtain rfl:j=m:=by omega
   obtain rfl:l=n:=by have hl:=HL.out;rw[if_neg (by omega)] at hl;omega
   obtain⟨g,cap,hv,hg,hgs,hcm9,hnc,hrow⟩:=hR.some hn0;injection hv with e1 e2 e3
   subst e1 e3;go_wp2_with (at_builtin;refine q_o ?_);refine qo ?_;intro w2 e2 hsz2 BX;replace hE:=hE.trans e2;replace hG:=hG.ext e2;refine zS rfl _ _ 29 Tryz.underlying29 rfl rfl hG rfl (hrow.ext e2) hg hcm9 BX (by omega) ?_;rintro h' cap' w3 hG3 ⟨g',hg',c3,-⟩;replace hE:=c3.ext hE (by omega)
   have hG4:=hG3.congr (B:=Z) (fun i _ j _=>by
    unfold xE
    split
    ·rename_i e9;subst e9;rfl
    ·rfl)
   clear hG hG3 hR c3 hrow BX e2;go_wp2;go_roundw
   case rel=>exact⟨k+1,r+1,by omega,by unfold Hid;omega,by go_num,hE,_,_,rfl,hG4⟩
   case measure=>simp[intOf];omega
def dB:Nat->Nat->Nat
 | 0,_=>1
 | n+1,K=>(n+1)*(K+dB n K+1)+1
theorem q8q (j:Nat) (y:Rat):sgN j*y=y\/sgN j*y = -y:=by
 unfold sgN
 split
 ·left;grind
 ·right;grind
theorem q6i{y:Rat}(h:Ht k y):Ht k (sgN j*y):=by
 rcases q8q j y with e|e<;>rw[e]
 ·exact h
 ·exact h.neg
def dtF (n:Nat) (X:q_m) (j:Nat):Rat:=sgN j*(X 0 j*det n (fun a b=>X (a+1) (skip j b)))
theorem q0i:∀(n:Nat){K:Nat}{X:q_m},HtM n n K X->Ht (dB n K) (det n X)
 | 0,_,_,_=>Ht.one
 | n+1,K,X,h=>by
  rw[kZ];exact wR fun j hj=>q6i ((h 0 (by omega) j hj).mul (q0i n fun a ha b hb=>h (a+1) (by omega) (skip j b) (XI hb)))
theorem dt_ht{X:q_m}(h:HtM (n+1) (n+1) K X):HtL (n+1) (K+dB n K) (dtF n X):=fun j hj =>
 q6i ((h 0 (by omega) j hj).mul (q0i n fun a ha b hb=>h (a+1) (by omega) (skip j b) (XI hb)))
theorem q7Q (X:q_m):det 1 X=X 0 0:=by
 rw[kZ]
 show (0:Rat)+sgN 0*(X 0 0*1)=_
 show (0:Rat)+1*(X 0 0*1)=_
 grind
def DetC (n:Nat):Prop:=∀(N lo hi K:Nat) (w:World) (v:Value) (X:q_m),MtV N lo hi w v n n X->HtM n n K X->dB n K<=29000000000->Calls Tryz.prog 109 #[v] w (jP N w (det n X))
theorem q72:DetC 1:=by
 intro N lo hi K w v X h hk hK;have hN:=h.le;rw[q7Q];obtain⟨A,c,rfl,hmc,hcm⟩:=h.form;unfold maxLen at hcm;obtain⟨b,off,rfl,-,-,hx⟩:=h.addr (by omega);obtain⟨A2,c2,q0,hc2,hd2,hl⟩:=hx 0 (by omega);unfold maxLen at hd2;obtain⟨b2,off2,rfl,-,-,hx2⟩:=hl.addr (by omega);obtain⟨n1,A3,k3,c3,A4,k4,c4,p0,p1,p2,p3,hb1,g1,g2⟩:=(hx2 0 (by omega)).open;obtain⟨q,hq⟩:=qc (X 0 0);rw[<-hq.out] at hb1 g1 g2 ⊢;simp only[Nat.zero_mul,Nat.add_zero] at q0 p0 p1 p2 p3;clear h hx hl hx2 hk hK;go_enter Tryz.func109,Tryz.ntmps109;go_upto_region 1 with (fail);refine qo ?_;intro W hE hsz B0;have q0':=hE.cell q0;have p0':=hE.cell p0;have p1':=hE.cell p1;have p2':=hE.cell p2;have p3':=hE.cell p3;obtain⟨r0,r1,r2,r3,r4,r5,r6,r7⟩:=cells4 B0;clear q0 p0 p1 p2 p3;go_wp2;exact qQ rfl rfl rfl hE B0 (by omega) hN (g1.ext hE) (g2.ext hE) hb1
theorem q71(hm:m=n+1) (hn0:0<n) (hn:n<10) (IH:DetC n):DetC m:=by
 intro N lo hi K w v X h hk hK;have hN:=h.le;have HM:=q_h hm;have hmn:m<=n+1/\n+1<=m:=⟨by omega,by omega⟩
 obtain⟨A,c,rfl,hmc,hcm⟩:=h.form;unfold maxLen at hcm;have hI:=h;obtain⟨F,hF⟩:=qc (dtF n X);have HDT:Hid (det m X=sum m F):=by rw[Hid,hF.out,hm,kZ];rfl
 rw[HDT.out];have hKn:(n+1)*(K+dB n K+1)+1<=29000000000:=by rw[hm] at hK;exact hK
 have hKd:K+dB n K<=29000000000:=by
  have:=Nat.le_mul_of_pos_left (K+dB n K+1) (show 0<n+1 by omega);omega
 have HFH:HtL (n+1) (K+dB n K) F:=by rw[hF.out];exact dt_ht (by rw[<-hm];exact hk)
 have HFS:Hid (∀j,j<m->Sz (F j)):=fun j hj=>(HFH j (by omega)).sz hKd
 have HSS:Hid (∀j,j<=m->Sz (sum j F)):=fun j hj=>(JV HFH (by omega) hKn).sz (q_r)
 have HXS:Hid (∀j,j<m->Sz (X 0 j)):=fun j hj=>(hk 0 (by omega) j hj).sz (by omega)
 have HMH:Hid (∀j,HtM n n K (fun a b=>X (a+1) (skip j b))):=fun j a ha b hb=>hk (a+1) (by omega) (skip j b) (by have:=XI (i:=j) hb;omega)
 have HDS:Hid (∀j,Sz (det n (fun a b=>X (a+1) (skip j b)))):=fun j=>(q0i n (HMH.out j)).sz (by omega)
 have HIH:=q_h IH;have HKD:Hid (dB n K<=29000000000):=by unfold Hid;omega
 obtain⟨b,off,rfl,-,-,-⟩:=h.addr (by omega);obtain⟨Q,hQ⟩:=qc (sum m F);rw[<-hQ.out];have t0:((m:Int) == 1)=false:=by simp;omega
 clear h hm hk hK hKn HFH IH HDT hKd;go_enter Tryz.func109,Tryz.ntmps109;go_wp2_with (go_at_call 25;refine q_o ?_);refine qW ?_;intro W hE hsz B0;refine (Z5 (N:=N) (by have:=hE.size;omega) 0 (by omega) (by omega)).mono ?_;intro e w1 hh;obtain⟨b1,A1,k1,c1,A2,k2,c2,rfl,hb1,g1,g2,e1⟩:=hh.form;replace hE:=hE.trans e1;replace B0:=e1.block B0;replace hsz:=q_l hsz e1.size;go_upto_region 4 with (fail);refine qo ?_;intro w2 e2 hsz2 BS;have hB:je N w2 w1.heap.size (sum 0 F):=je.mk BS hb1 (g1.ext e2) (g2.ext e2);replace hE:=hE.trans e2;replace B0:=e2.block B0;clear g1 g2 hb1 BS e2 e1;go_wp2
 go_loopw [4] (fun i wr=>∃k:Nat,k<=m/\i=.int .i64 k/\Ext w wr/\w1.heap.size<wr.heap.size/\wr.heap[w.heap.size]?=some (.cells #[.bool false,.slice none 0 0,.bool false,.slice none 0 0] 35 (0,0))/\je N wr w1.heap.size (sum k F)) (fun i _=>m-(intOf i).toNat)
 case atStart=>exact⟨0,Nat.zero_le _,rfl,hE,by omega,B0,hB⟩
 case round =>
  clear hB hE B0 hsz2;obtain⟨k,hk,rfl,hE,hsz2,B0,hB⟩:=hrel
  by_cases hlt:k<m
  case neg =>
   obtain rfl:k=m:=by omega
   obtain⟨b1,A1,k1,c1,A2,k2,c2,BS,hb1,g1,g2⟩:=hB;obtain⟨s0,s1,s2,s3,s4,s5,s6,s7⟩:=cells4 BS;obtain⟨r0,r1,r2,r3,r4,r5,r6,r7⟩:=cells4 B0;go_wp2;rw[<-hQ.out] at hb1 g1 g2;exact qQ rfl rfl rfl hE B0 (by omega) hN g1 g2 hb1
  have t1:(k:Int)<(m:Int):=by omega
  obtain⟨b',off',hA,-,-,hx⟩:=(hI.ext hE).addr (by omega);obtain⟨rfl,rfl⟩:b=b'/\off=off':=by injection hA with hA;injection hA with e1 e2;exact⟨e1,e2⟩
  obtain⟨A2,c2,q0,hc2,hd2,hl⟩:=hx 0 (by omega);unfold maxLen at hd2;obtain⟨b2,off2,rfl,-,-,hx2⟩:=hl.addr (by omega);obtain⟨A3,n3,c3,A4,n4,c4,p0,p1,p2,p3,hv⟩:=(hx2 k hlt).val;have HV:=q_h hv;rw[Nat.add_zero] at q0
  have HSG:Hid ((X 0 k).num.sign=0->F k=0):=fun h9=>by
   have h8:X 0 k=0:=by
    have h7:=Int.sign_eq_zero_iff_zero.1 h9;exact Rat.num_eq_zero.1 h7
   rw[hF.out];unfold dtF;rw[h8];grind
  obtain⟨sg,hsg⟩:=qc (X 0 k).num.sign;have hvE:=HV.out;clear hx hA hl hx2 hv;go_wp2_with (go_at_call 56;refine q_o ?_);refine (XW hvE (HXS.out k hlt)).mono ?_;rintro e w3 ⟨rfl,e3⟩;rw[<-hsg.out];clear hvE
  by_cases hs0:sg=0
  ·have t2:(sg == 0)=true:=by simpa using hs0
   have HS1:Hid (sum (k+1) F=sum k F):=by
    show sum k F+F k=sum k F
    rw[HSG.out (by rw[<-hsg.out];exact hs0)];grind
   have hB':je N w3 w1.heap.size (sum (k+1) F):=by rw[HS1.out];exact hB.ext e3
   have B0':=e3.block B0;have hE':=hE.trans e3;have hsz3:=e3.size;clear hs0 p0 p1 p2 p3 q0 hB B0 hE;go_wp2;go_roundw
   case rel=>exact⟨k+1,by omega,by go_num,hE',by omega,B0',hB'⟩
   case measure=>simp[intOf];omega
  have t2:(sg == 0)=false:=by simpa using hs0
  obtain⟨D,hD⟩:=qc (det n (fun a b=>X (a+1) (skip k b)));have HDZ:Hid (Sz D):=by rw[hD.out];exact HDS.out k
  have HFK:Hid (F k=sgN k*(X 0 k*D)):=by rw[hF.out,hD.out];rfl
  have HE3:Hid (Ext w w3):=hE.trans e3;have HB3:=q_h (hB.ext e3);have HC3:=q_h (e3.block B0);have HV3:=q_h (HV.out.ext e3);have hs13:w1.heap.size<w3.heap.size:=by have:=e3.size;omega
  replace q0:=e3.cell q0;replace p0:=e3.cell p0;replace p1:=e3.cell p1;replace p2:=e3.cell p2;replace p3:=e3.cell p3;clear hs0 hB B0 hE e3 hsz2;go_upto_region 8 with (fail)
  go_cut [5] (fun pv wx=>∃g,pv=.pointer (some ⟨g,0,none⟩)/\w3.heap.size<=g/\je N wx g (X 0 k*D)/\Ext w3 wx)
  case first =>
   have eC:=(Ext.refl w3).drew;refine qw (fun w'=>w'.cell? ⟨b,off,none⟩=some (.slice (some ⟨b2,off2,none⟩) m c2)/\w'.cell? ⟨b2,off2+k*4,none⟩=some (.bool (raw (X 0 k)).b1)/\w'.cell? ⟨b2,off2+k*4+1,none⟩=some (.slice A3 n3 c3)/\w'.cell? ⟨b2,off2+k*4+2,none⟩=some (.bool (raw (X 0 k)).b2)/\w'.cell? ⟨b2,off2+k*4+3,none⟩=some (.slice A4 n4 c4)) [12] (by kernel_rfl) (by exact⟨eC.cell q0,eC.cell p0,eC.cell p1,eC.cell p2,eC.cell p3⟩) (fun hHeld=>?_);refine sP 0 (h:=?_);refine sP 1 (h:=?_);refine sT 2 (h:=?_);refine sP 3 (h:=?_);refine sP 4 (h:=?_);refine sT 5 (h:=?_);refine sP 6 (h:=?_);refine sP 7 (h:=?_);refine jW (i:=8) (j:=11) rfl rfl (by kernel_rfl) (fun K hK=>?_) (fun K hK=>?_)
   focus
    go_simp;refine (WA HM.out (hI.ext (HE3.out.trans eC)) hn0 (by omega) (c:=k) (by omega)).mono ?_;rintro e w5 ⟨h5,cap5,β5,κ5,rfl,hcap5,ho5,e5⟩;have hm5:=ho5.mtv ho5.mle hcap5;replace eC:=eC.trans e5;try replace BT:=e5.block BT
    go_wp2_with fail;clear hHeld;refine hK.out _ _ (by exact⟨eC.cell q0,eC.cell p0,eC.cell p1,eC.cell p2,eC.cell p3⟩) fun hHeld=>?_
    clear hK K;try simp only[nr]
    refine jW (i:=9) (j:=11) rfl rfl (by kernel_rfl) (fun K hK=>?_) (fun K hK=>?_)
    focus
     go_simp;refine (HIH.out _ _ _ _ _ _ _ (hm5.ext (Ext.refl _)) (HMH.out k) HKD.out).mono ?_;rintro e w6 hh;rw[<-hD.out] at hh;obtain⟨v6,rfl,hv6,e6⟩:=hh;replace eC:=eC.trans e6;try replace BT:=e6.block BT
     go_wp2_with fail;clear hHeld;refine hK.out _ _ (by exact⟨eC.cell q0,eC.cell p0,eC.cell p1,eC.cell p2,eC.cell p3⟩) fun hHeld=>?_
     clear hK K;try simp only[nr]
     refine jW (i:=10) (j:=11) rfl rfl (by kernel_rfl) (fun K hK=>?_) (fun K hK=>?_)
     focus
      go_simp;refine (Yg (HV3.out.ext eC) hv6 (HXS.out k hlt) HDZ.out).mono ?_;rintro e w7 hh;obtain⟨b7,A7,k7,c7,A8,k8,c8,rfl,hb7,g7,g8,e7⟩:=hh.form;replace eC:=eC.trans e7;try replace BT:=e7.block BT
      go_wp2_with fail;clear hHeld;refine hK.out _ _ (by exact⟨eC.cell q0,eC.cell p0,eC.cell p1,eC.cell p2,eC.cell p3⟩) fun hHeld=>?_
      clear hK K;try simp only[nr]
      refine qp (i:=11) rfl (by kernel_rfl) (fun K hK=>?_);go_simp
      first|refine qo ?_|refine yu ?_
      intro w10 e10 hsz10 BT;have hT9:=eC.size;try replace hm5:=hm5.ext e10
      try replace hv6:=hv6.ext e10
      try replace g7:=g7.ext e10
      try replace g8:=g8.ext e10
      replace eC:Ext w3 w10:=by first|exact eC.trans e10|exact e10
      clear hHeld;refine hK.out _ _ (by exact⟨eC.cell q0,eC.cell p0,eC.cell p1,eC.cell p2,eC.cell p3⟩) fun hHeld=>?_
      clear hK K;try simp only[nr]
     rotate_left 1
     focus
      go_simp
      first|refine qo ?_|refine yu ?_
      intro w10 e10 hsz10 BT;have hT9:=eC.size;try replace hm5:=hm5.ext e10
      try replace hv6:=hv6.ext e10
      try replace g7:=g7.ext e10
      try replace g8:=g8.ext e10
      replace eC:Ext w3 w10:=by first|exact eC.trans e10|exact e10
      clear hHeld;refine hK.out _ _ (by exact⟨eC.cell q0,eC.cell p0,eC.cell p1,eC.cell p2,eC.cell p3⟩) fun hHeld=>?_
      clear hK K;try simp only[nr]
      refine qp (i:=10) rfl (by kernel_rfl) (fun K hK=>?_);go_simp;refine (Yg (HV3.out.ext eC) hv6 (HXS.out k hlt) HDZ.out).mono ?_;rintro e w7 hh;obtain⟨b7,A7,k7,c7,A8,k8,c8,rfl,hb7,g7,g8,e7⟩:=hh.form;replace eC:=eC.trans e7;try replace BT:=e7.block BT
      go_wp2_with fail;clear hHeld;refine hK.out _ _ (by exact⟨eC.cell q0,eC.cell p0,eC.cell p1,eC.cell p2,eC.cell p3⟩) fun hHeld=>?_
      clear hK K;try simp only[nr]
     rotate_left 1
    rotate_left 2
    focus
     go_simp
     first|refine qo ?_|refine yu ?_
     intro w10 e10 hsz10 BT;have hT9:=eC.size;try replace hm5:=hm5.ext e10
     try replace hv6:=hv6.ext e10
     try replace g7:=g7.ext e10
     try replace g8:=g8.ext e10
     replace eC:Ext w3 w10:=by first|exact eC.trans e10|exact e10
     clear hHeld;refine hK.out _ _ (by exact⟨eC.cell q0,eC.cell p0,eC.cell p1,eC.cell p2,eC.cell p3⟩) fun hHeld=>?_
     clear hK K;try simp only[nr]
     refine qp (i:=9) rfl (by kernel_rfl) (fun K hK=>?_);go_simp;refine (HIH.out _ _ _ _ _ _ _ (hm5.ext (Ext.refl _)) (HMH.out k) HKD.out).mono ?_;rintro e w6 hh;rw[<-hD.out] at hh;obtain⟨v6,rfl,hv6,e6⟩:=hh;replace eC:=eC.trans e6;try replace BT:=e6.block BT
     go_wp2_with fail;clear hHeld;refine hK.out _ _ (by exact⟨eC.cell q0,eC.cell p0,eC.cell p1,eC.cell p2,eC.cell p3⟩) fun hHeld=>?_
     clear hK K;try simp only[nr]
     refine qp (i:=10) rfl (by kernel_rfl) (fun K hK=>?_);go_simp;refine (Yg (HV3.out.ext eC) hv6 (HXS.out k hlt) HDZ.out).mono ?_;rintro e w7 hh;obtain⟨b7,A7,k7,c7,A8,k8,c8,rfl,hb7,g7,g8,e7⟩:=hh.form;replace eC:=eC.trans e7;try replace BT:=e7.block BT
     go_wp2_with fail;clear hHeld;refine hK.out _ _ (by exact⟨eC.cell q0,eC.cell p0,eC.cell p1,eC.cell p2,eC.cell p3⟩) fun hHeld=>?_
     clear hK K;try simp only[nr]
    rotate_left 1
   rotate_left 3
   focus
    go_simp
    first|refine qo ?_|refine yu ?_
    intro w10 e10 hsz10 BT;have hT9:=eC.size;try replace hm5:=hm5.ext e10
    try replace hv6:=hv6.ext e10
    try replace g7:=g7.ext e10
    try replace g8:=g8.ext e10
    replace eC:Ext w3 w10:=by first|exact eC.trans e10|exact e10
    clear hHeld;refine hK.out _ _ (by exact⟨eC.cell q0,eC.cell p0,eC.cell p1,eC.cell p2,eC.cell p3⟩) fun hHeld=>?_
    clear hK K;try simp only[nr]
    refine qp (i:=8) rfl (by kernel_rfl) (fun K hK=>?_);go_simp;refine (WA HM.out (hI.ext (HE3.out.trans eC)) hn0 (by omega) (c:=k) (by omega)).mono ?_;rintro e w5 ⟨h5,cap5,β5,κ5,rfl,hcap5,ho5,e5⟩;have hm5:=ho5.mtv ho5.mle hcap5;replace eC:=eC.trans e5;try replace BT:=e5.block BT
    go_wp2_with fail;clear hHeld;refine hK.out _ _ (by exact⟨eC.cell q0,eC.cell p0,eC.cell p1,eC.cell p2,eC.cell p3⟩) fun hHeld=>?_
    clear hK K;try simp only[nr]
    refine qp (i:=9) rfl (by kernel_rfl) (fun K hK=>?_);go_simp;refine (HIH.out _ _ _ _ _ _ _ (hm5.ext (Ext.refl _)) (HMH.out k) HKD.out).mono ?_;rintro e w6 hh;rw[<-hD.out] at hh;obtain⟨v6,rfl,hv6,e6⟩:=hh;replace eC:=eC.trans e6;try replace BT:=e6.block BT
    go_wp2_with fail;clear hHeld;refine hK.out _ _ (by exact⟨eC.cell q0,eC.cell p0,eC.cell p1,eC.cell p2,eC.cell p3⟩) fun hHeld=>?_
    clear hK K;try simp only[nr]
    refine qp (i:=10) rfl (by kernel_rfl) (fun K hK=>?_);go_simp;refine (Yg (HV3.out.ext eC) hv6 (HXS.out k hlt) HDZ.out).mono ?_;rintro e w7 hh;obtain⟨b7,A7,k7,c7,A8,k8,c8,rfl,hb7,g7,g8,e7⟩:=hh.form;replace eC:=eC.trans e7;try replace BT:=e7.block BT
    go_wp2_with fail;clear hHeld;refine hK.out _ _ (by exact⟨eC.cell q0,eC.cell p0,eC.cell p1,eC.cell p2,eC.cell p3⟩) fun hHeld=>?_
    clear hK K;try simp only[nr]
   rotate_left 1
   all_goals
    refine qj (i:=12) rfl (by kernel_rfl) (by kernel_rfl) (fun K hK=>?_);obtain⟨r0,r1,r2,r3,r4,r5,r6,r7⟩:=cells4 BT;go_simp;obtain⟨w12,E12,hB12,K12,hs12⟩:=Q7 BT (by omega) (q:=X 0 k*D) hb7 g7 g8;rw[E12];clear r0 r1 r2 r3 r4 r5 r6 r7;refine hK.out _ _ ?_;clear hK K;try simp only[nr]
    refine qg (by kernel_rfl) ?_ _;clear hHeld
   all_goals
    go_wp2_with fail
    go_meet
    exact⟨_,rfl,by omega,hB12,K12.ext eC (by omega)⟩
  obtain⟨g,rfl,hg3,hB4,hcE⟩:=hcut;have HE4:Hid (Ext w wc):=HE3.out.trans hcE;have HB4':=q_h (HB3.out.ext hcE);have HC4:=q_h (hcE.block HC3.out);have hg1:w1.heap.size<g:=by omega
  clear p0 p1 p2 p3 q0 HB3 HC3 HV3 HV HE3;have HB5:=q_h hB4;clear hB4 hcE hg3 hs13
  go_upto_if 42 with (fail)
  go_cut [] (fun wx=>Hid (Ext w wx)/\Hid (je N wx w1.heap.size (sum k F))/\Hid (wx.heap[w.heap.size]?=some (.cells #[.bool false,.slice none 0 0,.bool false,.slice none 0 0] 35 (0,0)))/\Hid (je N wx g (F k)))
  case first =>
   by_cases hodd:k % 2=1
   ·have t3:((k:Int) % 2 == 1)=true:=by simp;omega
    have HFN:Hid (F k = -(X 0 k*D)):=by
     rw[Hid,HFK.out];unfold sgN;rw[if_neg (by omega)];grind
    have HTS:Hid (Sz (X 0 k*D)):=by
     have h9:=HFS.out k hlt;rw[HFN.out] at h9;have h8:=Sz.neg h9;rw[Rat.neg_neg] at h8;exact h8
    obtain⟨b5,A5,k5,c5,A6,k6,c6,BS5,hb5,g5,g6⟩:=HB5.out;obtain⟨r0,r1,r2,r3,r4,r5,r6,r7⟩:=cells4 BS5;clear hodd;go_wp2_with (go_at_call 137;refine q_o ?_);refine (q69 (qX.mk hb5 g5 g6) HTS.out).mono ?_;intro e w5 hh;obtain⟨b7,A7,k7,c7,A8,k8,c8,rfl,hb7,g7,g8,e7⟩:=hh.form;clear r0 r1 r2 r3 r4 r5 r6 r7;obtain⟨r0,r1,r2,r3,r4,r5,r6,r7⟩:=cells4 (e7.block BS5);go_wp2;obtain⟨w6,E6,hB6,K6,hs6⟩:=Q7 (N:=N) (e7.block BS5) (by omega) (q:=F k) (by rw[HFN.out];exact hb7) (by rw[HFN.out];exact g7) (by rw[HFN.out];exact g8);rw[E6]
    go_meet
    exact⟨K6.ext (HE4.out.trans e7) (by omega),(HB4'.out.ext e7).chg K6 (by omega) (.inl hg1),K6.blk (e7.block HC4.out) (.inl (by omega)),hB6⟩
   ·have t3:((k:Int) % 2 == 1)=false:=by simp;omega
    have HFN:Hid (F k=X 0 k*D):=by
     rw[Hid,HFK.out];unfold sgN;rw[if_pos (by omega)];grind
    have HB6:Hid (je N wc g (F k)):=by rw[HFN.out];exact HB5.out
    clear hodd;go_wp2
    go_meet
    exact⟨HE4.out,HB4'.out,HC4.out,HB6.out⟩
  obtain⟨HE5,HS5,HC5,HT5⟩:=hcut;clear HE4 HB4' HC4 HB5;obtain⟨b5,A5,k5,c5,A6,k6,c6,BS5,hb5,g5,g6⟩:=HS5.out;obtain⟨r0,r1,r2,r3,r4,r5,r6,r7⟩:=cells4 BS5;obtain⟨b7,A7,k7,c7,A8,k8,c8,BS7,hb7,g7,g8⟩:=HT5.out;obtain⟨s0,s1,s2,s3,s4,s5,s6,s7⟩:=cells4 BS7;go_wp2_with (go_at_call 6;refine q_o ?_);refine (WB (qX.mk hb5 g5 g6) (qX.mk hb7 g7 g8) (HSS.out k (by omega)) (HFS.out k hlt)).mono ?_;intro e w9 hh;obtain⟨b9,A9,k9,c9,A10,k10,c10,rfl,hb9,g9,g10,e9⟩:=hh.form;have hE9:=HE5.out.trans e9;have hs9:=qF (e9.block BS5);have HC9:=e9.block HC5.out;clear r0 r1 r2 r3 r4 r5 r6 r7 s0 s1 s2 s3 s4 s5 s6 s7;obtain⟨r0,r1,r2,r3,r4,r5,r6,r7⟩:=cells4 (e9.block BS5);go_wp2;obtain⟨w6,E6,hB6,K6,hs6⟩:=Q7 (N:=N) (e9.block BS5) (by omega) (q:=sum (k+1) F) hb9 g9 g10;rw[E6];clear E6 r0 r1 r2 r3 r4 r5 r6 r7;go_wp2;go_roundw
  case rel=>exact⟨k+1,by omega,by go_num,K6.ext hE9 (by omega),by omega,K6.blk HC9 (by omega),hB6⟩
  case measure=>simp[intOf];omega
theorem q68:∀n,1<=n->n<=9->DetC n
 | 0,h,_=>absurd h (by omega)
 | 1,_,_=>q72
 | n+2,_,h=>q71 rfl (by omega) (by omega) (q68 (n+1) (by omega) (by omega))
theorem q00:(Tryz.prog.info? 3).map (fun i=>(i.zero,i.size,i.bytes))=some (some (.int .i64 0),1,8):=by kernel_rfl
abbrev i64v (x:Nat):Value:=.int .i64 ((x:Nat):Int)
def IsV (lo hi:Nat) (w:World) (v:Value) (p:List Nat):Prop :=
 hi<=w.heap.size/\∃(A:Option Addr) (c:Nat),v=.slice A p.length c/\p.length<=c/\c<=maxLen /\
  (0<p.length->∃b off,A=some ⟨b,off,none⟩/\lo<=b/\b<hi/\∀i,i<p.length->w.cell? ⟨b,off+i,none⟩=some (.int .i64 ((p[i]?.getD 0:Nat):Int)))
def jm (base:Nat) (w:World) (v:Value) (p:List Nat):Prop:=base<=w.heap.size/\w.ownsRow base 3 1 v p.length (p.map i64v)
theorem jm.nil(h:base<=w.heap.size):jm base w (.slice none 0 0) []:=⟨h,by simp,.inl ⟨rfl,rfl⟩⟩
theorem jm.ext{p:List Nat}(h:jm base w v p) (e:Ext w w'):jm base w' v p:=by
 refine⟨q_l h.1 e.size,h.2.1,?_⟩
 rcases h.2.2 with h0|⟨g,cap,cur,hv,hb,hh,h1,h2,h3,h4⟩
 ·exact .inl h0
 ·exact .inr ⟨g,cap,cur,hv,hb,e.block hh,h1,h2,h3,h4⟩
theorem jm.chg {l u:Nat}{p:List Nat}(h:jm base w v p) (c:Chg l u w w') (hd:u<=base):jm base w' v p:=by
 refine⟨q_l h.1 c.size,h.2.1,?_⟩
 rcases h.2.2 with h0|⟨g,cap,cur,hv,hb,hh,h1,h2,h3,h4⟩
 ·exact .inl h0
 ·exact .inr ⟨g,cap,cur,hv,hb,c.blk hh (by omega),h1,h2,h3,h4⟩
theorem jm.isv{p:List Nat}(h:jm base w v p)(hl:lo<=base):IsV lo w.heap.size w v p:=by
 refine⟨q_r,?_⟩
 rcases h.2.2 with ⟨rfl,h0⟩|⟨g,cap,cur,rfl,hb,hh,h1,h2,h3,h4⟩
 ·exact⟨none,0,by rw[h0],by omega,Nat.zero_le _,fun h=>absurd h (by omega)⟩
 ·refine⟨_,cap,rfl,h1,h2,fun hn=>⟨g,0,rfl,by omega,qF hh,fun i hi=>?_⟩⟩;rw[Nat.zero_add,qh hh];have e1:cur[i]?=(cur.toList.take (p.length*1))[i]?:=by rw[List.getElem?_take,if_pos (by omega)];simp
  rw[e1,h4,List.getElem?_map,List.getElem?_eq_getElem (by omega)]
  simp
theorem KC(t ty:TypeId) (ht:Tryz.prog.underlying t=some (.slice 3)){p:List Nat}(h:jm base w v p)
{z:Nat}{fr:Nat×Nat}(hb:w.heap[b]?=some (.cells #[.int .i64 (z:Int)] 3 fr)) (hn:p.length<1000000000) :
  ∃g cap w',(Builtin.append_ #[t,t] ty #[v,.slice (some ⟨b,0,none⟩) 1 1]).run Tryz.prog w=.ok (.slice (some ⟨g,0,none⟩) (p.length+1) cap) w'/\jm base w' (.slice (some ⟨g,0,none⟩) (p.length+1) cap) (p ++ [z])/\(∃g',base<=g'/\Chg g' (g'+1) w w'/\NoU w g'):=by
 obtain⟨i0,hi0,hz0,hz1,hz2⟩:=info_parts q00;obtain⟨h1,hown⟩:=h
 obtain⟨g,cap,w',hrun,ho,hgr,hat,hlt⟩:=run_append_lies (P:=Tryz.prog) w t ty base 3 i0 _ 1 8 ht hi0 hz0 hz1 hz2 rfl (by omega) v p.length (p.map i64v) hown ⟨b,0,none⟩ 1 1 [.int .i64 (z:Int)] rfl
  (fun j u hj=>by
   rw[jH,Nat.zero_add,qh hb]
   simpa using hj)
  (fun u hu=>by simp at hu;subst hu;rfl) (by omega) (by unfold maxLen;omega) (by omega) h1 w.heap.size rfl
 refine⟨g,cap,w',hrun,⟨q_l h1 hgr.size,?_⟩,?_⟩
 ·rw[List.map_append,List.length_append];exact ho
 ·have hT:NoU w w.heap.size:=fun cs fr h=>by rw[Array.getElem?_eq_none (q_r)] at h;cases h
  rcases hown.2 with ⟨rfl,h0⟩|⟨g0,cap0,cur,rfl,hb0,hh,_⟩
  ·exact⟨w.heap.size,h1,zT hgr (fun k hk=>by simp[Value.ownBlock] at hk) hT,hT⟩
  ·have hT0:NoU w g0:=NoU.mk hh (by decide);exact⟨g0,hb0,zT hgr (fun k hk=>by simpa[Value.ownBlock] using hk.symm) hT0,hT0⟩
theorem XB{o:Oper}{a:Act}{K:Act->World->Prop}{Q:Exit->Act->World->Prop}(s x:Operand) (t:TypeId) (ht:Tryz.prog.underlying t=some (.slice 3))
  (ho:o.op=.call { callee:=.builtin .append,args:=#[s,x],argTypes:=#[t,t] }){p:List Nat}(hs:a.eval s=v) (h:jm base w v p)
(hx:a.eval x=.slice (some ⟨b,0,none⟩) 1 1){z:Nat}{fr:Nat×Nat}(hb:w.heap[b]?=some (.cells #[.int .i64 (z:Int)] 3 fr)) (hn:p.length<1000000000)
  (hK:∀g cap w',jm base w' (.slice (some ⟨g,0,none⟩) (p.length+1) cap) (p ++ [z])->(∃g',base<=g'/\Chg g' (g'+1) w w'/\NoU w g')->K (a.put o.dst (.slice (some ⟨g,0,none⟩) (p.length+1) cap)) w'):o.wp Tryz.prog a w K Q:=by
 obtain⟨g,cap,w',hrun,h1,h2⟩:=KC t o.type ht h hb hn;unfold Oper.wp execOp;simp only[ho,resolve,invoke,builtin,Sem.run_bind,Sem.run_pure,Result.andThen_ok,List.map_toArray,List.map_cons,List.map_nil,hs,hx,hrun];exact hK g cap w' h1 h2
theorem Qi{ops:Array Oper}{rest:List Oper}{o:Oper}{a:Act}{Q:Exit->Act->World->Prop}(hgd:o.guard=none) (s x:Operand) (t:TypeId) (ht:Tryz.prog.underlying t=some (.slice 3))
  (ho:o.op=.call { callee:=.builtin .append,args:=#[s,x],argTypes:=#[t,t] }){p:List Nat}(hs:a.eval s=v) (h:jm base w v p)
(hx:a.eval x=.slice (some ⟨b,0,none⟩) 1 1){z:Nat}{fr:Nat×Nat}(hb:w.heap[b]?=some (.cells #[.int .i64 (z:Int)] 3 fr)) (hn:p.length<1000000000)
  (hK:∀g cap w',jm base w' (.slice (some ⟨g,0,none⟩) (p.length+1) cap) (p ++ [z])->(∃g',base<=g'/\Chg g' (g'+1) w w'/\NoU w g')->wpList Tryz.prog ops Q rest (a.put o.dst (.slice (some ⟨g,0,none⟩) (p.length+1) cap)) w'):wpList Tryz.prog ops Q (o :: rest) a w :=
 wpList_plain hgd fun _ hK'=>XB s x t ht ho hs h hx hb hn (fun g cap w' a1 a2=>hK' _ _ (hK g cap w' a1 a2))
end
section
theorem q1S {M:q_m}{r:Nat}(hr:r<=m) (h:∀i,r<=i->i<m->M i j=0):XJ M m j (m-r) r=m:=by
 have s:=vV M m j (m-r) r (q_r) hr
 rcases Nat.lt_or_ge (XJ M m j (m-r) r) m with h1|h1
 ·exact absurd (h _ s.1 h1) (s.2.2.2 h1)
 ·omega
theorem q1R {M:q_m}{r a:Nat}(hr:r<=a) (ha:a<m) (h:∀i,r<=i->i<a->M i j=0) (hn:M a j≠0):XJ M m j (m-r) r=a:=by
 have s:=vV M m j (m-r) r (q_r) (by omega)
 rcases Nat.lt_trichotomy (XJ M m j (m-r) r) a with h1|h1|h1
 ·exact absurd (h _ s.1 h1) (s.2.2.2 (by omega))
 ·exact h1
 ·exact absurd (s.2.2.1 a hr h1) hn
theorem q1Z{X:q_m}(h:XJ (zI m X j).1 m j (m-(zI m X j).2.length) (zI m X j).2.length=m):zI m X (j+1)=zI m X j:=by
 show Vg m (zI m X j) j=_
 unfold Vg;simp only[h,Nat.lt_irrefl,if_false]
theorem q1Y {a:Nat}{X:q_m}(ha:a<m) (h:XJ (zI m X j).1 m j (m-(zI m X j).2.length) (zI m X j).2.length=a) :
  zI m X (j+1)=(clr (nrm (swp (zI m X j).1 (zI m X j).2.length a) (zI m X j).2.length j) (zI m X j).2.length j,(zI m X j).2 ++ [j]):=by
 show Vg m (zI m X j) j=_
 unfold Vg;simp only[h,ha,if_true]
def ZW (M:q_m) (r j i:Nat) (i' c:Nat):Rat:=if i' < i then clr M r j i' c else M i' c
theorem JX (a b:Rat):a=a-0*b:=by grind
end
section
open Go.RowKit
theorem q4H {lo' hi':Nat}{v':Value}{X:q_m}{x:q_v}(h:MtV N lo hi w v m n X) (h':LsV N lo' hi' w v' n x) (hm:m<1000000) (hn0:0<n) (hn:n<1000000)
  {kx ky:Nat}(hkx:HtM m n kx X) (hky:HtL n ky x) (hK:n*(kx+ky+1)+1<=29000000000) :
  Calls Tryz.prog 12 #[v,v'] w (q6w N w m (fun i=>sum n (fun c=>X i c*x c))):=by
 have hI:=h;have hI':=h';obtain⟨A,c,rfl,hmc,hcm⟩:=h.form;obtain⟨A0,c0,rfl,hmc0,hcm0⟩:=h'.form;have HX:=q_h hkx;have HY:=q_h hky;have HK:=q_h hK;clear h h' hkx hky hK hcm hcm0;go_enter Tryz.func12,Tryz.ntmps12;go_wp2_with (go_at_call 44;refine q_o ?_);refine (q2g hI' hn).mono ?_;intro e w1 hh;obtain⟨A2,c2,rfl,h2,e2⟩:=hh.mt;go_wp2_with (go_at_call 43;refine q_o ?_);refine (q8y (hI.ext e2) h2 hm hn0 hn (by omega) (by omega) HX.out (fun i hi j _=>HY.out i hi) HK.out).mono ?_;intro e w3 hh;obtain⟨A3,c3,rfl,h3,e3⟩:=hh.mt;go_wp2_with (go_at_call 42;refine q_o ?_);refine (q4G h3 hm (by omega)).mono ?_;rintro e w4 ⟨A4,c4,rfl,h4,e4⟩;go_wp2;go_ret;have hs2:=e2.size;have hs3:=e3.size;exact⟨A4,c4,rfl,LsR.wide h4 (by omega) (q_r) (q_r),(e2.trans e3).trans e4⟩
end
end Go.Proofs.YtflhlobiipejeaaGreat
