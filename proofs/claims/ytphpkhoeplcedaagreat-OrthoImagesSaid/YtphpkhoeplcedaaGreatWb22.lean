import Derived.Test.YtphpkhoeplcedaaGreatWb14
import Derived.Test.YtphpkhoeplcedaaGreatWb21
import Derived.ChangeKeysEq
set_option linter.all false
set_option maxHeartbeats 8000000
set_option maxRecDepth 100000
namespace Go.Proofs.YtphpkhoeplcedaaGreat
open Go.RowKit
variable {w w':World} {N n lo hi k g i m base c b j d:Nat} {v:Value} {x:Rat} {S:Sta} {R:Raw}
structure Nd where
 op:Int
 a:Int
 b:Int
 r:Raw
def q1m:Raw:=⟨false,[],false,[]⟩
def Jg (N:Nat) (w:World) (b o:Nat) (d:Nd):Prop :=
 w.cell? ⟨b,o,none⟩=some (.int .i64 d.op)/\w.cell? ⟨b,o+1,none⟩=some (.int .i64 d.a)/\w.cell? ⟨b,o+2,none⟩=some (.int .i64 d.b)/\At4 N w b (o+3) d.r
theorem Jg.ext {o:Nat} {d:Nd} (h:Jg N w b o d) (e:Ext w w'):Jg N w' b o d:=⟨e.cell h.1,e.cell h.2.1,e.cell h.2.2.1,h.2.2.2.ext e⟩
theorem q5l {o:Nat} (h:At4 N w b o R) {r:Nat} (hr:r < 4):∃ v,w.cell? ⟨b,o+r,none⟩=some v/\v.oneCell'=true:=by
 obtain⟨A,n,c,A',n',c',h0,h1,h2,h3,-⟩:=h.val;have hr':r=0\/r=1\/r=2\/r=3:=by omega
 rcases hr' with rfl | rfl | rfl | rfl
 ·exact⟨_,h0,rfl⟩
 ·exact⟨_,h1,rfl⟩
 ·exact⟨_,h2,rfl⟩
 ·exact⟨_,h3,rfl⟩
theorem Jg.one {o:Nat} {d:Nd} (h:Jg N w b o d) {r:Nat} (hr:r < 7):∃ v,w.cell? ⟨b,o+r,none⟩=some v/\v.oneCell'=true:=by
 obtain⟨h0,h1,h2,h3⟩:=h
 by_cases h9:3<=r
 ·have:=q5l h3 (r:=r - 3) (by omega);rw [show o+3+(r - 3)=o+r by omega] at this;exact this
 ·have:r=0\/r=1\/r=2:=by omega
  rcases this with rfl | rfl | rfl
  ·exact⟨_,h0,rfl⟩
  ·exact⟨_,h1,rfl⟩
  ·exact⟨_,h2,rfl⟩
def Jf (N:Nat) (w:World) (v:Value) (n:Nat) (d:Nat->Nd):Prop :=
 N<=w.heap.size/\∃ b c,v=.slice (some ⟨b,0,none⟩) n c/\n<=c/\c<=maxLen/\∀ i,i < n->Jg N w b (i*7) (d i)
theorem Jf.ext {d:Nat->Nd} (h:Jf N w v n d) (e:Ext w w'):Jf N w' v n d:=by
 obtain⟨h0,b,c,hv,h1,h2,h3⟩:=h;exact⟨q_l h0 e.size,b,c,hv,h1,h2,fun i hi=>(h3 i hi).ext e⟩
theorem Jf.cut {d:Nat->Nd} (h:Jf N w (.slice (some ⟨b,0,none⟩) n c) n d) (hm:m<=n):Jf N w (.slice (some ⟨b,0,none⟩) m c) m d:=by
 obtain⟨h0,b,c,hv,h1,h2,h3⟩:=h;simp only [Value.slice.injEq,Option.some.injEq,Addr.mk.injEq,and_true,true_and] at hv;obtain⟨rfl,rfl⟩:=hv;exact⟨h0,_,_,rfl,by omega,h2,fun i hi=>h3 i (by omega)⟩
structure Cls (ET:TypeId) (k:Nat) (z0:Value) (bz:Nat):Prop where
 inf:(Tryz.prog.info? ET).map (fun i=>(i.zero,i.size,i.bytes))=some (some z0,k,bz)
 cells:z0.cells.size=k
 pos:0 < k
 lk:k<=10
 le:bz<=100
 ne:ET≠152
def kM (ET:TypeId) (k base:Nat) (w:World) (v:Value) (n:Nat) (xs:List Value):Prop:=base<=w.heap.size/\w.ownsRow base ET k v n xs
section
variable {ET:TypeId} {k:Nat} {z0:Value} {bz:Nat}
theorem kM.empty (hb:base<=g) (h:w.heap[g]?=some (.cells #[] ET (0,0))):kM ET k base w (.slice (some ⟨g,0,none⟩) 0 0) 0 [] :=
 ⟨by have:=qI h; omega,by simp,.inr ⟨g,0,#[],rfl,hb,h,q_r,Nat.zero_le _,by simp,by simp⟩⟩
theorem kM.ext {xs:List Value} (h:kM ET k base w v n xs) (e:Ext w w'):kM ET k base w' v n xs:=by
 refine⟨q_l h.1 e.size,h.2.1,?_⟩
 rcases h.2.2 with h0 | ⟨g,cap,cur,hv,hb,hh,h1,h2,h3,h4⟩
 ·exact .inl h0
 ·exact .inr ⟨g,cap,cur,hv,hb,e.block hh,h1,h2,h3,h4⟩
theorem Xe (hc:Cls ET k z0 bz) {xs:List Value} (t ty:TypeId) (ht:Tryz.prog.underlying t=some (.slice ET)) (h:kM ET k base w v n xs) {a:Addr} {news:List Value} (hl:news.length=m*k)
  (hnews:∀ j u,news[j]?=some u->w.cell? (a.add j)=some u) (h1:∀ u∈news,u.oneCell'=true) (hn:n+m<=1000000) :
  ∃ v' w',(Builtin.append_ #[t,t] ty #[v,.slice (some a) m c]).run Tryz.prog w=.ok v' w'/\kM ET k base w' v' (n+m) (xs ++ news)/\(v'.ownBlock=v.ownBlock\/v'.ownBlock=some w.heap.size)/\(∃ g',base<=g'/\(v.ownBlock=some g'\/g'=w.heap.size)/\Chg g' (g'+1) w w'):=by
 obtain⟨i0,hi0,hz0,hz1,hz2⟩:=info_parts hc.inf;obtain⟨hb0,hown⟩:=h;have hle:=hc.le
 obtain⟨v',w',hrun,hO,hgr,-,hat⟩:=run_append_own_at (P:=Tryz.prog) w base t ty ET i0 _ k bz ht hi0 hz0 hz1 hz2 hc.cells hc.pos v n xs hown a m c news (by omega) hnews h1 (by unfold maxLen; omega)
  (q_l (Nat.mul_le_mul hn hc.le) (by decide)) hb0
 refine⟨v',w',hrun,⟨q_l hb0 hgr.size,hO⟩,hat,?_⟩;have hT:NoU w w.heap.size:=fun cs fr h=>by rw [Array.getElem?_eq_none (q_r)] at h; cases h
 rcases hown.2 with ⟨rfl,h0⟩ | ⟨g0,cap0,cur,rfl,hbb,hh,_⟩
 ·exact⟨w.heap.size,hb0,.inr rfl,zJ hgr (fun k hk=>by simp [Value.ownBlock] at hk) hT⟩
 ·have hT0:NoU w g0:=NoU.mk hh hc.ne;exact⟨g0,hbb,.inl rfl,zJ hgr (fun k hk=>by simpa [Value.ownBlock] using hk.symm) hT0⟩
theorem qY (hc:Cls ET k z0 bz) {xs:List Value} {ops:Array Oper} {rest:List Oper} {o:Oper} {a:Act} {Q:Exit->Act->World->Prop} (hgd:o.guard=none) (s x:Operand) (t:TypeId) (ht:Tryz.prog.underlying t=some (.slice ET))
  (ho:o.op=.call { callee:=.builtin .append,args:=#[s,x],argTypes:=#[t,t] }) (hs:a.eval s=v) (h:kM ET k base w v n xs) {ad:Addr} {news:List Value} (hx:a.eval x=.slice (some ad) m c) (hl:news.length=m*k)
  (hnews:∀ j u,news[j]?=some u->w.cell? (ad.add j)=some u) (h1:∀ u∈news,u.oneCell'=true) (hn:n+m<=1000000)
  (hK:∀ v' w',kM ET k base w' v' (n+m) (xs ++ news)->(v'.ownBlock=v.ownBlock\/v'.ownBlock=some w.heap.size)->(∃ g',base<=g'/\(v.ownBlock=some g'\/g'=w.heap.size)/\Chg g' (g'+1) w w')->wpList Tryz.prog ops Q rest (a.put o.dst v') w'):wpList Tryz.prog ops Q (o :: rest) a w:=by
 refine wpList_plain hgd fun _ hK'=>?_
 obtain⟨v',w',hrun,h2,h3,h4⟩:=Xe hc t o.type ht h hl hnews h1 hn (c:=c);unfold Oper.wp execOp;simp only [ho,resolve,invoke,builtin,Sem.run_bind,Sem.run_pure,Result.andThen_ok,List.map_toArray,List.map_cons,List.map_nil,hs,hx,hrun];exact hK' _ _ (hK v' w' h2 h3 h4)
theorem kM.at_ {xs:List Value} (h:kM ET k base w v n xs) (hn:0 < n):∃ g cap,v=.slice (some ⟨g,0,none⟩) n cap/\base<=g/\n<=cap/\cap<=maxLen/\∀ j u,xs[j]?=some u->w.cell? ⟨g,j,none⟩=some u:=by
 have hl:=h.2.1
 rcases h.2.2 with ⟨-,h⟩ | ⟨g,cap,cur,hv,hb,hg,hnc,hcm,hcs,htk⟩
 ·omega
 ·refine⟨g,cap,hv,hb,hnc,hcm,fun j u hj=>?_⟩;rw [qg hg]
  have hjl:j < n*k:=by
   rw [<-hl];exact (List.getElem?_eq_some_iff.1 hj).1
  have h9:(cur.toList.take (n*k))[j]?=some u:=by rw [htk]; exact hj
  rw [List.getElem?_take,if_pos hjl] at h9;simpa using h9
theorem kM.own_lt {xs:List Value} (h:kM ET k base w v n xs):∀ k,v.ownBlock=some k->base<=k/\k < w.heap.size:=by
 rcases h.2.2 with ⟨rfl,h0⟩ | ⟨g,cap,cur,rfl,hb,hh,-⟩
 ·intro k hk; simp [Value.ownBlock] at hk
 ·intro k hk;obtain rfl:g=k:=by simpa [Value.ownBlock] using hk
  exact⟨hb,qI hh⟩
theorem kM.form {xs:List Value} (h:kM ET k base w v n xs):∃ A c,v=.slice A n c:=by
 rcases h.2.2 with ⟨rfl,h0⟩ | ⟨g,cap,cur,rfl,_⟩
 ·exact⟨_,_,by rw [h0]⟩
 ·exact⟨_,_,rfl⟩
end
theorem XT:Cls 181 7 (.agg #[.int .i64 0,.int .i64 0,.int .i64 0,.bool false,.slice none 0 0,.bool false,.slice none 0 0]) 88:=⟨by kernel_rfl,rfl,by decide,by decide,by decide,by decide⟩
theorem q4T:Cls 107 3 (.agg #[.int .i64 0,.int .i64 0,.int .i64 0]) 24:=⟨by kernel_rfl,rfl,by decide,by decide,by decide,by decide⟩
theorem Jf.news {d:Nat->Nd} (h:Jf N w (.slice (some ⟨b,0,none⟩) n c) n d):∃ news:List Value,news.length=n*7/\(∀ j u,news[j]?=some u->w.cell? (Addr.add ⟨b,0,none⟩ j)=some u)/\(∀ u∈news,u.oneCell'=true)/\∀ j,j < n*7->news[j]?=w.cell? ⟨b,j,none⟩:=by
 obtain⟨h0,b',c',hv,h1,h2,h3⟩:=h;simp only [Value.slice.injEq,Option.some.injEq,Addr.mk.injEq,and_true,true_and] at hv;obtain⟨rfl,rfl⟩:=hv
 have hk:∀ k,k < n*7->∃ v,w.cell? ⟨b,k,none⟩=some v/\v.oneCell'=true:=fun k hk=>by
  have:=(h3 (k / 7) (by omega)).one (r:=k % 7) (by omega);rw [show k / 7*7+k % 7=k by omega] at this;exact this
 refine⟨(List.range (n*7)).map fun k=>(w.cell? ⟨b,k,none⟩).getD (.bool false),by simp,?_,?_,?_⟩
 ·intro j u hj;rw [List.getElem?_map] at hj
  by_cases hjn:j < n*7
  ·rw [List.getElem?_range hjn] at hj;obtain⟨v,hv,-⟩:=hk j hjn;rw [xQ,Nat.zero_add,hv];simp only [Option.map_some,Option.some.injEq,hv,Option.getD_some] at hj;rw [hj]
  ·rw [List.getElem?_eq_none (by simpa using hjn)] at hj;cases hj
 ·intro u hu;rw [List.mem_map] at hu;obtain⟨k,hk1,rfl⟩:=hu;obtain⟨v,hv,hv1⟩:=hk k (List.mem_range.1 hk1);rw [hv];exact hv1
 ·intro j hj;obtain⟨v,hv,-⟩:=hk j hj;rw [List.getElem?_map,List.getElem?_range hj,hv];simp [hv]
theorem WH {w0 w1:World} {d:Nat->Nd} (h:Jf N w0 (.slice (some ⟨b,0,none⟩) n c) n d) {news more:List Value} (hG:kM 181 7 base w1 v (n+1) (news ++ more)) (hN:∀ j,j < n*7->news[j]?=w0.cell? ⟨b,j,none⟩) (hl:news.length=n*7) (e:Ext w0 w1) {e9:Nd}
  (hm:∀ g,(∀ j u,more[j]?=some u->w1.cell? ⟨g,n*7+j,none⟩=some u)->Jg N w1 g (n*7) e9):Jf N w1 v (n+1) (fun i=>if i=n then e9 else d i):=by
 obtain⟨h0,b',c',hv,h1,h2,h3⟩:=h;simp only [Value.slice.injEq,Option.some.injEq,Addr.mk.injEq,and_true,true_and] at hv;obtain⟨rfl,rfl⟩:=hv;obtain⟨g,cap,rfl,hb,hnc,hcm,hc⟩:=hG.at_ (by omega);refine⟨q_l h0 e.size,g,cap,rfl,hnc,hcm,fun i hi=>?_⟩
 by_cases hin:i=n
 ·subst hin
  show Jg N w1 g (i*7) (if i=i then e9 else d i)
  rw [if_pos rfl];refine hm g fun j u hj=>hc _ _ ?_
  rw [List.getElem?_append_right (by omega),hl,Nat.add_sub_cancel_left];exact hj
 ·show Jg N w1 g (i*7) (if i=n then e9 else d i)
  rw [if_neg hin]
  have hcell:∀ r u,r < 7->w0.cell? ⟨b,i*7+r,none⟩=some u->w1.cell? ⟨g,i*7+r,none⟩=some u:=fun r u hr hu=>by
   refine hc _ _ ?_;have hlt:i*7+r < n*7:=by omega
   rw [List.getElem?_append_left (by omega),hN _ hlt];exact hu
  obtain⟨q0,q1,q2,s,t,q3,q4,q5,q6,g1,g2⟩:=h3 i (by omega);exact⟨hcell 0 _ (by omega) q0,hcell 1 _ (by omega) q1,hcell 2 _ (by omega) q2,s,t,hcell 3 _ (by omega) q3,hcell 4 _ (by omega) q4,hcell 5 _ (by omega) q5,hcell 6 _ (by omega) q6,g1.ext e,g2.ext e⟩
def opF (op:Int) (x y:Rat):Rat:=if op=2 then x+y else if op=3 then x - y else if op=4 then x*y else x / y
inductive vT (L:List (Rat×Nat)) (i:Nat):Nd->Rat×Nat->Prop
 | con (k:Int) : -1048576<=k->k<=1048576->vT L i ⟨0,0,0,raw (k:Rat)⟩ ((k:Rat),1)
 | var (k:Nat):k < 9->vT L i ⟨1,(k:Int),0,q1m⟩ (0,1)
 | bin (op:Int) (j k:Nat) (x y:Rat×Nat):2<=op->op<=5->j < i->k < i->L[j]?=some x->L[k]?=some y->(op=5->y.1≠0)->x.2+y.2<=400->vT L i ⟨op,(j:Int),(k:Int),q1m⟩ (opF op x.1 y.1,x.2+y.2)
 | sq (j:Nat) (x:Rat×Nat):j < i->L[j]?=some x->2*x.2<=400->vT L i ⟨7,(j:Int),0,q1m⟩ (x.1*x.1,2*x.2)
theorem vT.pre {L L':List (Rat×Nat)} {d:Nd} {e:Rat×Nat} (h:vT L i d e) (hp:L <+: L'):vT L' i d e:=by
 obtain⟨M,rfl⟩:=hp
 have hg:∀ {j:Nat} {x:Rat×Nat},L[j]?=some x->(L ++ M)[j]?=some x:=fun hj=>by
  rw [List.getElem?_append_left (List.getElem?_eq_some_iff.1 hj).1]; exact hj
 cases h with
 | con k h1 h2=>exact .con k h1 h2
 | var k h1=>exact .var k h1
 | bin op j k x y h1 h2 h3 h4 h5 h6 h7 h8=>exact .bin op j k x y h1 h2 h3 h4 (hg h5) (hg h6) h7 h8
 | sq j x h1 h2 h3=>exact .sq j x h1 (hg h2) h3
def Trm (N:Nat) (w:World) (v:Value) (L:List (Rat×Nat)):Prop:=∃ d,Jf N w v L.length d/\∀ i e,L[i]?=some e->vT L i (d i) e
theorem Trm.ext {L:List (Rat×Nat)} (h:Trm N w v L) (e:Ext w w'):Trm N w' v L:=by
 obtain⟨d,h1,h2⟩:=h;exact⟨d,h1.ext e,h2⟩
theorem Trm.form {L:List (Rat×Nat)} (h:Trm N w v L):∃ b c,v=.slice (some ⟨b,0,none⟩) L.length c:=by
 obtain⟨d,⟨h0,b,c,hv,-⟩,-⟩:=h;exact⟨b,c,hv⟩
theorem Trm.le {L:List (Rat×Nat)} (h:Trm N w v L):N<=w.heap.size:=h.elim fun _ h=>h.1.1
theorem Trm.empty (hN:N<=w.heap.size):Trm N w (.slice (some ⟨g,0,none⟩) 0 0) [] :=
 ⟨fun _=>⟨0,0,0,q1m⟩,⟨hN,g,0,rfl,q_r,Nat.zero_le _,fun i hi=>absurd hi (Nat.not_lt_zero i)⟩,fun i e h=>by simp at h⟩
theorem zO (L:List (Rat×Nat)) (e:Rat×Nat):(L ++ [e]).length=L.length+1:=by simp
theorem kP (L:List (Rat×Nat)) (e:Rat×Nat):(L ++ [e])[L.length]?=some e:=by simp
theorem Trm.snoc {L:List (Rat×Nat)} {d:Nat->Nd} (hd:∀ i e,L[i]?=some e->vT L i (d i) e) {e9:Nd} {e:Rat×Nat} (h:Jf N w v (L.length+1) (fun i=>if i=L.length then e9 else d i)) (hok:vT L L.length e9 e):Trm N w v (L ++ [e]):=by
 refine⟨_,by rw [zO]; exact h,fun i x hi=>?_⟩;have hp:L <+: L ++ [e]:=⟨[e],rfl⟩
 by_cases hil:i < L.length
 ·rw [List.getElem?_append_left hil] at hi
  show vT _ i (if i=L.length then e9 else d i) x
  rw [if_neg (by omega)];exact (hd i x hi).pre hp
 ·have:i < (L ++ [e]).length:=(List.getElem?_eq_some_iff.1 hi).1;rw [zO] at this;obtain rfl:i=L.length:=by omega
  rw [kP] at hi;obtain rfl:e=x:=by simpa using hi
  show vT _ _ (if L.length=L.length then e9 else d L.length) e
  rw [if_pos rfl];exact hok.pre hp
def Qh (N:Nat) (w:World) (L:List (Rat×Nat)) (i:Nat) (e:Ending) (w':World):Prop :=
 ∃ v,e=.returned (.tuple #[v,.int .i64 (i:Int)])/\Trm N w' v L/\Ext w w'
def q0y (N:Nat) (w:World) (L:List (Rat×Nat)) (i:Nat) (e:Ending) (w':World):Prop :=
 ∃ v,e=.returned (.tuple #[v,.int .i64 (i:Int)])/\Trm N w' v L/\(∀ g,v.ownBlock=some g->w.heap.size<=g/\g < w'.heap.size)/\Ext w w'
theorem Xg {L:List (Rat×Nat)} (h:Trm N w v L) (hl:L.length < 399) {op:Int} {a b:Int} {e:Rat×Nat} (hok:vT L L.length ⟨op,a,b,q1m⟩ e) :
  Calls Tryz.prog 138 #[v,.int .i64 op,.int .i64 a,.int .i64 b] w (q0y N w (L ++ [e]) L.length):=by
 have hN:=h.le;obtain⟨d,hd,hdo⟩:=h;have HD:=q_h hd;have HDO:=q_h hdo;obtain⟨-,gb,gc,rfl,-⟩:=hd;have HOK:=q_h hok;obtain⟨R,hR⟩:=qf (q0y N w (L ++ [e]) L.length);rw [<-hR.out];clear hdo hok;go_enter Tryz.func138,Tryz.ntmps138;go_wp2_with (at_builtin; refine q_o ?_);refine ql ?_;intro w1 hE hsz B0;obtain⟨news,hnl,hn1,hn2,hn3⟩:=HD.out.news;have HN:=q_h hn3;refine qY XT rfl _ _ 139 Tryz.underlying139 rfl (by rfl) (kM.empty (q_r) B0) (by rfl) hnl (fun j u hj=>hE.cell (hn1 j u hj)) hn2 (by omega) ?_;rintro v1 w2 hG - ⟨g1,hg1,-,C1⟩;have hE2:=C1.ext hE hg1;rw [List.nil_append,Nat.zero_add] at hG;clear hn1 hn2 hn3 B0 C1 hE;go_wp2_with (at_builtin; refine q_o ?_);refine ql ?_;intro w3 e3 hsz3 B3;refine qY XT rfl _ _ 139 Tryz.underlying139 rfl (by rfl) (hG.ext e3) (by rfl) (m:=1) (news:=[.int .i64 op,.int .i64 a,.int .i64 b,.bool false,.slice none 0 0,.bool false,.slice none 0 0]) rfl (fun j u hj=>by rw [xQ,qg B3,Nat.zero_add]; simpa using hj) (fun u hu=>by simp at hu; rcases hu with rfl | rfl | rfl | rfl | rfl | rfl | rfl <;> rfl) (by omega) ?_;rintro v4 w4 hG4 - ⟨g4,hg4,-,C4⟩;have hE4:=C4.ext (hE2.trans e3) hg4
 have hF:Jf N w4 v4 (L.length+1) (fun i=>if i=L.length then ⟨op,a,b,q1m⟩ else d i):=WH HD.out hG4 HN.out hnl hE4 fun g hg =>
  ⟨hg 0 _ rfl,hg 1 _ rfl,hg 2 _ rfl,_,_,hg 3 _ rfl,hg 4 _ rfl,hg 5 _ rfl,hg 6 _ rfl,Gs.nil (q_l hN hE4.size) _ (Nat.zero_le _),Gs.nil (q_l hN hE4.size) _ (Nat.zero_le _)⟩
 have HF:=q_h (Trm.snoc HDO.out hF HOK.out);have HH:=q_h hG4.own_lt;clear hF hG4 C4 hG B3 HD HN;go_wp2
 first | go_ret2 | skip
 rw [hR.out];exact⟨_,rfl,HF.out,HH.out,hE4⟩
theorem jV {L:List (Rat×Nat)} (h:Trm N w v L) (hl:L.length < 399) {op:Int} {a b:Int} {e:Rat×Nat} (hok:vT L L.length ⟨op,a,b,q1m⟩ e) :
  Calls Tryz.prog 138 #[v,.int .i64 op,.int .i64 a,.int .i64 b] w (Qh N w (L ++ [e]) L.length):=(Xg h hl hok).mono fun _ _ ⟨v,h1,h2,_,h3⟩=>⟨v,h1,h2,h3⟩
theorem xM {L:List (Rat×Nat)} (h:Trm N w v L) (hl:L.length < 399) {k:Int} (hk : -1048576<=k/\k<=1048576) :
  Calls Tryz.prog 137 #[v,.int .i64 k] w (Qh N w (L ++ [((k:Rat),1)]) L.length):=by
 have hN:=h.le;obtain⟨d,hd,hdo⟩:=h;have HD:=q_h hd;have HDO:=q_h hdo;obtain⟨-,gb,gc,rfl,-⟩:=hd;have HOK:Hid (vT L L.length ⟨0,0,0,raw (k:Rat)⟩ ((k:Rat),1)):=vT.con k hk.1 hk.2;obtain⟨R,hR⟩:=qf (Qh N w (L ++ [((k:Rat),1)]) L.length);rw [<-hR.out];clear hdo;go_enter Tryz.func137,Tryz.ntmps137;go_wp2_with (at_builtin; refine q_o ?_);refine ql ?_;intro w1 hE hsz B0;obtain⟨news,hnl,hn1,hn2,hn3⟩:=HD.out.news;have HN:=q_h hn3;refine qY XT rfl _ _ 139 Tryz.underlying139 rfl (by rfl) (kM.empty (q_r) B0) (by rfl) hnl (fun j u hj=>hE.cell (hn1 j u hj)) hn2 (by omega) ?_;rintro v1 w2 hG - ⟨g1,hg1,-,C1⟩;have hE2:=C1.ext hE hg1;rw [List.nil_append,Nat.zero_add] at hG;clear hn1 hn2 hn3 B0 C1 hE;have hN2:N<=w2.heap.size:=q_l hN hE2.size;go_wp2_with (go_at_call 31; refine q_o ?_);refine (Ym hN2 k (by omega) (by omega)).mono ?_;intro e w8 hh;obtain⟨n1,A1,k1,c1,A2,k2,c2,rfl,hb1,g1',g2',e8⟩:=hh.form;replace hE2:=hE2.trans e8;replace hG:=hG.ext e8;go_wp2_with (at_builtin; refine q_o ?_);refine ql ?_;intro w3 e3 hsz3 B3;refine qY XT rfl _ _ 139 Tryz.underlying139 rfl (by rfl) (hG.ext e3) (by rfl) (m:=1) (news:=[.int .i64 0,.int .i64 0,.int .i64 0,.bool n1,.slice A1 k1 c1,.bool false,.slice A2 k2 c2]) rfl (fun j u hj=>by rw [xQ,qg B3,Nat.zero_add]; simpa using hj) (fun u hu=>by simp at hu; rcases hu with rfl | rfl | rfl | rfl | rfl | rfl | rfl <;> rfl) (by omega) ?_
 rintro v4 w4 hG4 - ⟨g4,hg4,-,C4⟩;have hE4:=C4.ext (hE2.trans e3) hg4
 have hF:Jf N w4 v4 (L.length+1) (fun i=>if i=L.length then ⟨0,0,0,raw (k:Rat)⟩ else d i):=WH HD.out hG4 HN.out hnl hE4 fun g hg =>
  ⟨hg 0 _ rfl,hg 1 _ rfl,hg 2 _ rfl,_,_,by have h9:=hg 3 _ rfl; rw [hb1.out] at h9; exact h9,hg 4 _ rfl,hg 5 _ rfl,hg 6 _ rfl,(g1'.ext e3).chg C4 (by omega),(g2'.ext e3).chg C4 (by omega)⟩
 have HF:=q_h (Trm.snoc HDO.out hF HOK.out);clear hF hG4 C4 hG B3 HD HN;go_wp2
 first | go_ret2 | skip
 rw [hR.out];exact⟨_,rfl,HF.out,hE4⟩
def vP (N:Nat) (w:World) (L:List (Rat×Nat)) (m:Nat) (x:Rat×Nat) (e:Ending) (w':World):Prop :=
 ∃ (v:Value) (i:Nat) (L':List (Rat×Nat)),e=.returned (.tuple #[v,.int .i64 (i:Int)])/\Trm N w' v L'/\L <+: L'/\L'.length<=L.length+m/\L'[i]?=some x/\Ext w w'
theorem Qh.pr {L:List (Rat×Nat)} {x:Rat×Nat} {e:Ending} (h:Qh N w (L ++ [x]) L.length e w'):vP N w L 1 x e w':=by
 obtain⟨v,rfl,hT,hE⟩:=h;exact⟨v,_,_,rfl,hT,⟨[x],rfl⟩,by rw [zO]; exact q_r,kP L x,hE⟩
theorem pre_at {L L':List (Rat×Nat)} (hp:L <+: L') {x:Rat×Nat} (h:L[j]?=some x):L'[j]?=some x:=by
 obtain⟨M,rfl⟩:=hp;rw [List.getElem?_append_left (List.getElem?_eq_some_iff.1 h).1];exact h
theorem vO {L:List (Rat×Nat)} {x:Rat×Nat} (h:L[j]?=some x):j < L.length:=(List.getElem?_eq_some_iff.1 h).1
theorem yc {L:List (Rat×Nat)} (h:Trm N w v L) (hl:L.length < 399) {k:Int} (hk : -1048576<=k/\k<=1048576) :
  Calls Tryz.prog 137 #[v,.int .i64 k] w (vP N w L 1 ((k:Rat),1)):=(xM h hl hk).mono fun _ _ h=>h.pr
theorem p_var {L:List (Rat×Nat)} (h:Trm N w v L) (hl:L.length < 399) (hk:k < 9) :
  Calls Tryz.prog 138 #[v,.int .i64 1,.int .i64 (k:Int),.int .i64 0] w (vP N w L 1 (0,1)):=(jV h hl (vT.var k hk)).mono fun _ _ h=>h.pr
theorem Xw {L:List (Rat×Nat)} (h:Trm N w v L) (hl:L.length < 399) {op:Int} (h2:2<=op) (h5:op<=4) {y z:Rat} {s t:Nat} (hj:L[j]?=some (x,s)) (hk:L[k]?=some (y,t)) (h4:s+t<=400) (hz:z=opF op x y) :
  Calls Tryz.prog 138 #[v,.int .i64 op,.int .i64 (j:Int),.int .i64 (k:Int)] w (vP N w L 1 (z,s+t)):=by
 rw [hz];exact (jV h hl (vT.bin op j k (x,s) (y,t) h2 (by omega) (vO hj) (vO hk) hj hk (fun h=>absurd h (by omega)) h4)).mono fun _ _ h=>h.pr
theorem p_div {L:List (Rat×Nat)} (h:Trm N w v L) (hl:L.length < 399) {y:Rat} {s t:Nat} (hj:L[j]?=some (x,s)) (hk:L[k]?=some (y,t)) (h4:s+t<=400) (h0:y≠0) :
  Calls Tryz.prog 138 #[v,.int .i64 5,.int .i64 (j:Int),.int .i64 (k:Int)] w (vP N w L 1 (x / y,s+t)) :=
 (jV h hl (vT.bin 5 j k (x,s) (y,t) (by decide) (by decide) (vO hj) (vO hk) hj hk (fun _=>h0) h4)).mono fun _ _ h=>h.pr
theorem p_sq {L:List (Rat×Nat)} (h:Trm N w v L) (hl:L.length < 399) {s:Nat} (hj:L[j]?=some (x,s)) (h4:2*s<=400) :
  Calls Tryz.prog 138 #[v,.int .i64 7,.int .i64 (j:Int),.int .i64 0] w (vP N w L 1 (x*x,2*s)):=(jV h hl (vT.sq j (x,s) (vO hj) hj h4)).mono fun _ _ h=>h.pr
theorem kH (L:List (Rat×Nat)) (e:Rat×Nat):L <+: L ++ [e]:=⟨[e],rfl⟩
theorem ji {L:List (Rat×Nat)} (e:Rat×Nat) {x:Rat×Nat} (h:L[j]?=some x):(L ++ [e])[j]?=some x:=pre_at (kH L e) h
theorem X8 {L:List (Rat×Nat)} (h:Trm N w v L) (hl:L.length < 399) {op:Int} (h2:2<=op) (h5:op<=4) {y z:Rat} {s t:Nat} (hj:L[j]?=some (x,s)) (hk:L[k]?=some (y,t)) (h4:s+t<=400) (hz:z=opF op x y) :
  Calls Tryz.prog 138 #[v,.int .i64 op,.int .i64 (j:Int),.int .i64 (k:Int)] w (Qh N w (L ++ [(z,s+t)]) L.length):=by
 rw [hz];exact jV h hl (vT.bin op j k (x,s) (y,t) h2 (by omega) (vO hj) (vO hk) hj hk (fun h=>absurd h (by omega)) h4)
def scL (L:List (Rat×Nat)) (n:Int) (x:Rat) (s:Nat):List (Rat×Nat):=L ++ [((n:Rat),1)] ++ [((n:Rat)*0,1+1)] ++ [(x,s+(1+1))]
def coL (L:List (Rat×Nat)) (n:Int):List (Rat×Nat):=L ++ [((n:Rat),1)] ++ [(0,1)] ++ [((n:Rat),1+1)]
theorem Xb (L:List (Rat×Nat)) (a b c:Rat×Nat):(L ++ [a] ++ [b] ++ [c]).length=L.length+3:=by simp
theorem xZ (L:List (Rat×Nat)) (a b:Rat×Nat):(L ++ [a] ++ [b]).length=L.length+2:=by simp
theorem VZ (L:List (Rat×Nat)) (n:Int) (x:Rat) (s:Nat):(scL L n x s).length=L.length+3:=Xb ..
theorem VY (L:List (Rat×Nat)) (n:Int) (x:Rat) (s:Nat):L <+: scL L n x s:=((kH L _).trans (kH _ _)).trans (kH _ _)
theorem q47 (L:List (Rat×Nat)) (n:Int) (x:Rat) (s:Nat):(scL L n x s)[L.length+2]?=some (x,s+(1+1)):=by
 have:=kP (L ++ [((n:Rat),1)] ++ [((n:Rat)*0,1+1)]) (x,s+(1+1));rw [xZ] at this;exact this
theorem QX (L:List (Rat×Nat)) (n:Int):(coL L n).length=L.length+3:=Xb ..
theorem Y8 (L:List (Rat×Nat)) (n:Int):L <+: coL L n:=((kH L _).trans (kH _ _)).trans (kH _ _)
theorem q2u (L:List (Rat×Nat)) (n:Int):(coL L n)[L.length+2]?=some ((n:Rat),1+1):=by
 have:=kP (L ++ [((n:Rat),1)] ++ [((0:Rat),1)]) ((n:Rat),1+1);rw [xZ] at this;exact this
theorem Vb {L:List (Rat×Nat)} (h:Trm N w v L) (hl:L.length < 390) {op:Int} (h2:2<=op) (h3:op<=3) {s:Nat} (hj:L[j]?=some (x,s)) (hk:L[k]?=some (0,1)) (h4:s<=300) {n:Int} (hn : -1048576<=n/\n<=1048576) :
  Calls Tryz.prog 183 #[v,.int .i64 op,.int .i64 (j:Int),.int .i64 n,.int .i64 (k:Int)] w (Qh N w (scL L n x s) (L.length+2)):=by
 obtain⟨R,hR⟩:=qf (Qh N w (scL L n x s) (L.length+2));rw [<-hR.out];have HT:=q_h h;obtain⟨gb,gc,rfl⟩:=h.form
 have hz:x=opF op x ((n:Rat)*0):=by
  have:op=2\/op=3:=by omega
  rcases this with rfl | rfl
  ·show _=x+(n:Rat)*0; rw [Rat.mul_zero,Rat.add_zero]
  ·show _=x - (n:Rat)*0; rw [Rat.mul_zero,Rat.sub_eq_add_neg,Rat.neg_zero,Rat.add_zero]
 clear h;go_enter Tryz.func183,Tryz.ntmps183;go_wp2_with (go_at_call 137; refine q_o ?_);refine (xM HT.out (by omega) hn).mono ?_;rintro e w1 ⟨v1,rfl,hT1,hE1⟩;obtain⟨L1,hL1⟩:=qf (L ++ [((n:Rat),1)]);rw [<-hL1.out] at hT1;have HA:Hid (L1[L.length]?=some ((n:Rat),1)):=by rw [Hid,hL1.out]; exact kP _ _
 have HB:Hid (L1.length < 399):=by rw [Hid,hL1.out,zO]; omega
 go_wp2_with (go_at_call 138; refine q_o ?_);refine (X8 (x:=(n:Rat)) (y:=0) (z:=(n:Rat)*0) hT1 HB.out (op:=4) (by decide) (by decide) HA.out (show L1[k]?=some (0,1) by rw [hL1.out]; exact ji _ hk) (by decide) rfl).mono ?_;rintro e w2 ⟨v2,rfl,hT2,hE2⟩;obtain⟨L2,hL2⟩:=qf (L1 ++ [((n:Rat)*0,1+1)]);rw [<-hL2.out] at hT2;have HA2:Hid (L2[L1.length]?=some ((n:Rat)*0,1+1)):=by rw [Hid,hL2.out]; exact kP _ _
 have HB2:Hid (L2.length < 399):=by rw [Hid,hL2.out,hL1.out,xZ]; omega
 have HJ2:Hid (L2[j]?=some (x,s)):=by rw [Hid,hL2.out,hL1.out]; exact ji _ (ji _ hj)
 go_wp2_with (go_at_call 138; refine q_o ?_);refine (X8 hT2 HB2.out h2 (by omega) HJ2.out HA2.out (by omega) hz).mono ?_;rintro e w3 ⟨v3,rfl,hT3,hE3⟩;obtain⟨L3,hL3⟩:=qf (L2 ++ [(x,s+(1+1))]);rw [<-hL3.out] at hT3;obtain⟨q,hq⟩:=qf (L.length+2);have e9:L2.length=q:=by rw [hL2.out,hL1.out,hq.out,xZ]
 rw [e9];rw [hL3.out,hL2.out,hL1.out] at hT3;have HT3:=q_h hT3;clear hT3;go_wp2
 first | go_ret2 | skip
 rw [hR.out,<-hq.out];exact⟨_,rfl,HT3.out,(hE1.trans hE2).trans hE3⟩
theorem xx {L:List (Rat×Nat)} (h:Trm N w v L) (hl:L.length < 390) {op:Int} (h2:2<=op) (h3:op<=3) {a:Nat} {xa xb xc xd:Rat} (ha:L[a]?=some (xa,7)) (hb:L[b]?=some (xb,7)) (hc:L[c]?=some (xc,7)) (hd:L[d]?=some (xd,7)) :
  Calls Tryz.prog 187 #[v,.int .i64 op,.int .i64 (a:Int),.int .i64 (b:Int),.int .i64 (c:Int),.int .i64 (d:Int)] w (vP N w L 5 (2*opF op (xa*xb) (xc*xd),29)):=by
 obtain⟨R,hR⟩:=qf (vP N w L 5 (2*opF op (xa*xb) (xc*xd),29));rw [<-hR.out];have HT:=q_h h;obtain⟨gb,gc,rfl⟩:=h.form;clear h;go_enter Tryz.func187,Tryz.ntmps187;go_wp2_with (go_at_call 137; refine q_o ?_);refine (yc HT.out (by omega) (k:=2) (by decide)).mono ?_;rintro e w1 ⟨v1,i1,L1,rfl,hT1,hP1,hL1,hI1,hE1⟩;go_wp2_with (go_at_call 138; refine q_o ?_);refine (Xw (z:=xa*xb) hT1 (by omega) (op:=4) (by decide) (by decide) (pre_at hP1 ha) (pre_at hP1 hb) (by decide) rfl).mono ?_;rintro e w2 ⟨v2,i2,L2,rfl,hT2,hP2,hL2,hI2,hE2⟩;go_wp2_with (go_at_call 138; refine q_o ?_);refine (Xw (z:=xc*xd) hT2 (by omega) (op:=4) (by decide) (by decide) (pre_at (hP1.trans hP2) hc) (pre_at (hP1.trans hP2) hd) (by decide) rfl).mono ?_;rintro e w3 ⟨v3,i3,L3,rfl,hT3,hP3,hL3,hI3,hE3⟩;go_wp2_with (go_at_call 138; refine q_o ?_);refine (Xw (z:=opF op (xa*xb) (xc*xd)) hT3 (by omega) h2 (by omega) (pre_at hP3 hI2) hI3 (by decide) rfl).mono ?_;rintro e w4 ⟨v4,i4,L4,rfl,hT4,hP4,hL4,hI4,hE4⟩;go_wp2_with (go_at_call 138; refine q_o ?_);refine (Xw (z:=2*opF op (xa*xb) (xc*xd)) hT4 (by omega) (op:=4) (by decide) (by decide) (pre_at (hP2.trans (hP3.trans hP4)) hI1) hI4 (by decide) rfl).mono ?_;rintro e w5 ⟨v5,i5,L5,rfl,hT5,hP5,hL5,hI5,hE5⟩;go_wp2
 first | go_ret2 | skip
 rw [hR.out];exact⟨_,_,_,rfl,hT5,(hP1.trans hP2).trans (hP3.trans (hP4.trans hP5)),by omega,hI5,(hE1.trans hE2).trans (hE3.trans (hE4.trans hE5))⟩
theorem yA {L:List (Rat×Nat)} (h:Trm N w v L) (hl:L.length < 390) {n:Int} (hn : -1048576<=n/\n<=1048576) (hk:k < 9) :
  Calls Tryz.prog 188 #[v,.int .i64 n,.int .i64 (k:Int)] w (Qh N w (coL L n) (L.length+2)):=by
 obtain⟨R,hR⟩:=qf (Qh N w (coL L n) (L.length+2));rw [<-hR.out];have HT:=q_h h;obtain⟨gb,gc,rfl⟩:=h.form;have t1:decide ((k:Int) < 0)=false:=q_f (by omega);clear h;go_enter Tryz.func188,Tryz.ntmps188;go_wp2_with (go_at_call 137; refine q_o ?_);refine (xM HT.out (by omega) hn).mono ?_;rintro e w1 ⟨v1,rfl,hT1,hE1⟩;obtain⟨L1,hL1⟩:=qf (L ++ [((n:Rat),1)]);rw [<-hL1.out] at hT1;have HB:Hid (L1.length < 399):=by rw [Hid,hL1.out,zO]; omega
 go_wp2_with (go_at_call 138; refine q_o ?_);refine (jV hT1 HB.out (vT.var k hk)).mono ?_;rintro e w2 ⟨v2,rfl,hT2,hE2⟩;obtain⟨L2,hL2⟩:=qf (L1 ++ [(0,1)]);rw [<-hL2.out] at hT2;have HA2:Hid (L2[L1.length]?=some (0,1)):=by rw [Hid,hL2.out]; exact kP _ _
 have HB2:Hid (L2.length < 399):=by rw [Hid,hL2.out,hL1.out,xZ]; omega
 have HJ2:Hid (L2[L.length]?=some ((n:Rat),1)):=by rw [Hid,hL2.out,hL1.out]; exact ji _ (kP _ _)
 go_wp2_with (go_at_call 138; refine q_o ?_);refine (X8 (z:=(n:Rat)) hT2 HB2.out (op:=2) (by decide) (by decide) HJ2.out HA2.out (by decide) (by show _=(n:Rat)+0; rw [Rat.add_zero])).mono ?_;rintro e w3 ⟨v3,rfl,hT3,hE3⟩;obtain⟨L3,hL3⟩:=qf (L2 ++ [((n:Rat),1+1)]);rw [<-hL3.out] at hT3;obtain⟨q,hq⟩:=qf (L.length+2);have e9:L2.length=q:=by rw [hL2.out,hL1.out,hq.out,xZ]
 rw [e9];rw [hL3.out,hL2.out,hL1.out] at hT3;have HT3:=q_h hT3;clear hT3;go_wp2
 first | go_ret2 | skip
 rw [hR.out,<-hq.out];exact⟨_,rfl,HT3.out,(hE1.trans hE2).trans hE3⟩
theorem wG {L:List (Rat×Nat)} (h:Trm N w v L) (hl:L.length < 390) (hk:k < 9) :
  Calls Tryz.prog 181 #[v,.int .i64 (k:Int)] w (vP N w L 1 (0,1)):=by
 obtain⟨R,hR⟩:=qf (vP N w L 1 (0,1));rw [<-hR.out];have HT:=q_h h;obtain⟨gb,gc,rfl⟩:=h.form;have t1:decide ((k:Int) < 0)=false:=q_f (by omega);clear h;go_enter Tryz.func181,Tryz.ntmps181;go_wp2_with (go_at_call 138; refine q_o ?_);refine (p_var HT.out (by omega) hk).mono ?_;rintro e w1 ⟨v1,i1,L1,rfl,hT1,hP1,hL1,hI1,hE1⟩;go_wp2
 first | go_ret2 | skip
 rw [hR.out];exact⟨_,_,_,rfl,hT1,hP1,by omega,hI1,hE1⟩
def YX (N:Nat) (w:World) (m:Nat) (x:Rat×Nat) (e:Ending) (w':World):Prop :=
 ∃ (v:Value) (L':List (Rat×Nat)),e=.returned v/\Trm N w' v L'/\L'.length<=m/\0 < L'.length/\L'[L'.length - 1]?=some x/\Ext w w'
def Jc (gs gp go:Nat):Value:=.agg #[.int .i64 3,.slice (some ⟨gs,0,none⟩) 1 1,.slice (some ⟨gp,0,none⟩) 1 1,.slice (some ⟨go,0,none⟩) 1 1]
structure q0B (w:World) (gs gp go:Nat) (S:Sta) (P:Nat->Int):Prop where
 st:q51 w gs 0 S
 p0:w.cell? ⟨gp,0,none⟩=some (.int .i64 (P 0))
 p1:w.cell? ⟨gp,1,none⟩=some (.int .i64 (P 1))
 p2:w.cell? ⟨gp,2,none⟩=some (.int .i64 (P 2))
 o0:w.cell? ⟨go,0,none⟩=some (.int .i64 0)
 o1:w.cell? ⟨go,1,none⟩=some (.int .i64 0)
 o2:w.cell? ⟨go,2,none⟩=some (.int .i64 0)
 o3:w.cell? ⟨go,3,none⟩=some (.int .i64 0)
 o4:w.cell? ⟨go,4,none⟩=some (.int .i64 0)
 o5:w.cell? ⟨go,5,none⟩=some (.int .i64 0)
 o6:w.cell? ⟨go,6,none⟩=some (.int .i64 1)
theorem q0B.ext {gs gp go:Nat} {P:Nat->Int} (h:q0B w gs gp go S P) (e:Ext w w'):q0B w' gs gp go S P :=
 ⟨h.st.ext e,e.cell h.p0,e.cell h.p1,e.cell h.p2,e.cell h.o0,e.cell h.o1,e.cell h.o2,e.cell h.o3,e.cell h.o4,e.cell h.o5,e.cell h.o6⟩
def axN (what:Nat):Nat:=if what=0 then 6 else 3
def q3Q (w:World) (n:Nat) (e:Ending) (w':World):Prop:=∃ g,e=.returned (.slice (some ⟨g,0,none⟩) n n)/\(∀ i,i < n->w'.cell? ⟨g,i,none⟩=some (.int .i64 (i:Int)))/\(w.heap.size<=g/\g < w'.heap.size)/\Ext w w'
theorem ZN {what:Nat} (hw:what < 2):Calls Tryz.prog 133 #[.int .i64 3,.int .i64 (what:Int)] w (q3Q w (axN what)):=by
 have:what=0\/what=1:=by omega
 rcases this with rfl | rfl
 ·show Calls _ _ _ w (q3Q w 6)
  go_enter Tryz.func133,Tryz.ntmps133;go_wp2_with fail;go_ret;refine ql ?_;intro w1 hE hsz B0;refine⟨_,rfl,fun i hi=>?_,⟨q_r,qI B0⟩,hE⟩;rw [qg B0];have:i=0\/i=1\/i=2\/i=3\/i=4\/i=5:=by omega
  rcases this with rfl | rfl | rfl | rfl | rfl | rfl <;> rfl
 ·show Calls _ _ _ w (q3Q w 3)
  go_enter Tryz.func133,Tryz.ntmps133;go_wp2_with fail;go_ret;refine ql ?_;intro w1 hE hsz B0;refine⟨_,rfl,fun i hi=>?_,⟨q_r,qI B0⟩,hE⟩;rw [qg B0];have:i=0\/i=1\/i=2:=by omega
  rcases this with rfl | rfl | rfl <;> rfl
theorem Yk (P:Nat->Int) (hk:k < 3):Calls Tryz.prog 189 #[.agg #[.int .i64 (P 0),.int .i64 (P 1),.int .i64 (P 2)],.int .i64 (k:Int)] w (zG w (.int .i64 (P k))):=by
 have:k=0\/k=1\/k=2:=by omega
 rcases this with rfl | rfl | rfl
 all_goals
  go_enter Tryz.func189,Tryz.ntmps189;go_upto_region 1 with (fail);refine ql ?_;intro w1 hE hsz B0;obtain⟨a0,a1,a2,-⟩:=cells3 B0;go_wp2;go_ret;exact⟨rfl,hE.alloc _⟩
theorem Xh {gs gp go:Nat} {P:Nat->Int} (h:q0B w gs gp go S P) (what i axis:Int) :
  Calls Tryz.prog 240 #[Jc gs gp go,.int .i64 what,.int .i64 i,.int .i64 axis] w (zG w (.bool false)):=by
 unfold Jc;have HN:=q_h h;clear h;go_enter Tryz.func240,Tryz.ntmps240;go_upto_region 1 with (fail);refine ql ?_;intro w1 hE hsz B0;go_wp2_with fail
 go_loopw [9] (fun kv wr=>∃ k:Nat,k<=1/\kv=.int .i64 (k:Int)/\Ext w wr/\wr.heap[w.heap.size]?=some (.cells #[.int .i64 3,.slice (some ⟨gs,0,none⟩) 1 1,.slice (some ⟨gp,0,none⟩) 1 1,.slice (some ⟨go,0,none⟩) 1 1] 82 (0,0))) (fun kv _=>1 - (intOf kv).toNat)
 case atStart=>exact⟨0,Nat.zero_le _,rfl,hE,B0⟩
 case round =>
  obtain⟨k,hk,rfl,hE1,B1⟩:=hrel;obtain⟨a0,a1,a2,a3,-⟩:=cells4 B1
  by_cases hlt:k < 1
  case neg =>
   have t1:decide ((k:Int) < 1)=false:=q_f (by omega);go_wp2;go_ret;exact⟨rfl,hE1⟩
  have t1:decide ((k:Int) < 1)=true:=q_t (by omega);obtain rfl:k=0:=by omega
  have HR:=HN.out.ext hE1;obtain⟨-,-,-,-,o0,o1,o2,o3,o4,o5,o6⟩:=HR;go_upto_region 5 with (fail);refine ql ?_;intro w2 e2 hsz2 B2;clear a0 a1 a2 a3 o0 o1 o2 o3 o4 o5 o6;obtain⟨a0,a1,a2,a3,a4,a5,a6⟩:=kC B2;replace B1:=e2.block B1;go_wp2;go_roundw
  case rel=>exact⟨1,by omega,by go_num,hE1.trans e2,B1⟩
  case measure=>simp [intOf]
def VF (m:Nat):List Value:=if m < 6 then [.int .i64 0,.int .i64 0,.int .i64 (m:Int)] else [.int .i64 1,.int .i64 0,.int .i64 ((m - 6:Nat):Int)]
def q0D (m:Nat):List Value:=(List.range m).flatMap VF
theorem Qm (m:Nat):(VF m).length=3:=by unfold VF; split <;> rfl
theorem yQ (m:Nat):q0D (m+1)=q0D m ++ VF m:=by unfold q0D; rw [List.range_succ,List.flatMap_append,List.flatMap_cons,List.flatMap_nil,List.append_nil]
theorem Ql:∀ m,(q0D m).length=m*3
 | 0=>rfl
 | m+1=>by rw [yQ,List.length_append,Ql m,Qm]; omega
theorem VL {m k r:Nat}:∀ {n:Nat},n=m->k < n->r < 3->(q0D n)[k*3+r]?=(VF k)[r]?
 | 0,_,h,_=>absurd h (Nat.not_lt_zero k)
 | n+1,_,h,hr=>by
  rw [yQ]
  by_cases hk:k < n
  ·rw [List.getElem?_append_left (by rw [Ql]; omega)];exact VL (m:=n) rfl hk hr
  ·obtain rfl:k=n:=by omega
   rw [List.getElem?_append_right (by rw [Ql]; omega),Ql,Nat.add_sub_cancel_left]
def q52 (w:World) (e:Ending) (w':World):Prop:=∃ g c,e=.returned (.slice (some ⟨g,0,none⟩) 9 c)/\(∀ k r u,k < 9->(VF k)[r]?=some u->w'.cell? ⟨g,k*3+r,none⟩=some u)/\Ext w w'
theorem Yc (hk:k < 2) (hj:j < axN k):VF (k*6+j)=[.int .i64 (k:Int),.int .i64 0,.int .i64 (j:Int)]:=by
 unfold VF;unfold axN at hj;have:k=0\/k=1:=by omega
 rcases this with rfl | rfl
 ·rw [if_pos rfl] at hj;rw [Nat.zero_mul,Nat.zero_add,if_pos hj]
  rfl
 ·rw [Nat.one_mul,if_neg (by omega),Nat.add_sub_cancel_left]
  rfl
def q0Q (k:Nat):Nat:=if k=2 then 9 else k*6
theorem VM (h:k < 2):q0Q k=k*6:=if_neg (by omega)
theorem X5 (h:k < 2):q0Q (k+1)=k*6+axN k:=by
 have:k=0\/k=1:=by omega
 rcases this with rfl | rfl <;> rfl
theorem q2x (k:Nat):axN k<=6:=by unfold axN; split <;> omega
theorem Xi {gs gp go:Nat} {P:Nat->Int} (h:q0B w gs gp go S P) :
  Calls Tryz.prog 218 #[Jc gs gp go] w (q52 w):=by
 unfold Jc;have HN:=q_h h;clear h;go_enter Tryz.func218,Tryz.ntmps218;go_upto_region 1 with (fail);refine ql ?_;intro w1 hE hsz B0;go_wp2_with fail;refine ql ?_;intro w2 e2 hsz2 B2;replace hE:=hE.trans e2;replace B0:=e2.block B0
 go_loopw [4,3] (fun kv lv wr=>∃ k:Nat,k<=2/\kv=.int .i64 (k:Int)/\kM 107 3 (w.heap.size+1) wr lv (q0Q k) (q0D (q0Q k))/\Ext w wr/\wr.heap[w.heap.size]?=some (.cells #[.int .i64 3,.slice (some ⟨gs,0,none⟩) 1 1,.slice (some ⟨gp,0,none⟩) 1 1,.slice (some ⟨go,0,none⟩) 1 1] 82 (0,0))) (fun kv _ _=>2 - (intOf kv).toNat)
 case atStart=>exact⟨0,Nat.zero_le _,rfl,kM.empty (by omega) B2,hE,B0⟩
 case round =>
  obtain⟨k,hk,rfl,HG1,hE1,B1⟩:=hrel
  by_cases hlt:k < 2
  case neg =>
   have t1:decide ((k:Int) < 2)=false:=q_f (by omega);have hk2:k=2:=by omega
   rw [hk2,show q0Q 2=9 from rfl] at HG1;obtain⟨g,cap,rfl,hb,hnc,hcm,hc⟩:=kM.at_ HG1 (by decide);go_wp2;go_ret;exact⟨g,cap,rfl,fun a r u ha hu=>hc _ _ (by rw [VL rfl ha (by have:=(List.getElem?_eq_some_iff.1 hu).1; rw [Qm] at this; exact this)]; exact hu),hE1⟩
  have t1:decide ((k:Int) < 2)=true:=q_t (by omega);obtain⟨wq,hwq⟩:∃ wq,wq=wr:=⟨_,rfl⟩
  subst hwq;obtain⟨a0,a1,a2,a3,-⟩:=cells4 B1;clear B0 B2 hE e2;obtain⟨lA,lc,rfl⟩:=HG1.form
  by_cases h1:k=1
  ·have t2:((k:Int) == 1)=true:=by simp [h1]
   clear h1;go_wp2_with (go_at_call 133; refine q_o ?_);refine (ZN hlt).mono ?_;rintro e w3 ⟨ga,rfl,hax,hga,e3⟩;have HAX:=q_h hax;have HGA:Hid (ga < w3.heap.size/\(Value.slice lA (q0Q k) lc).ownBlock≠some ga):=⟨hga.2,fun h9=>by have:=(kM.own_lt HG1 ga h9).2; omega⟩
   clear hga;have HGq:=q_h (HG1.ext e3);replace hE1:=hE1.trans e3;replace B1:=e3.block B1;clear hax HG1 e3 a0 a1 a2 a3;go_wp2_with fail
   go_loopw [7,3] (fun iv lv wr=>∃ i:Nat,i<=1/\iv=.int .i64 (i:Int)/\kM 107 3 (w.heap.size+1) wr lv (k*6+i*axN k) (q0D (k*6+i*axN k))/\Ext w wr/\wr.heap[w.heap.size]?=some (.cells #[.int .i64 3,.slice (some ⟨gs,0,none⟩) 1 1,.slice (some ⟨gp,0,none⟩) 1 1,.slice (some ⟨go,0,none⟩) 1 1] 82 (0,0))/\Hid (∀ a,a < axN k->wr.cell? ⟨ga,a,none⟩=some (.int .i64 (a:Int)))/\Hid (ga < wr.heap.size/\lv.ownBlock≠some ga)) (fun iv _ _=>1 - (intOf iv).toNat)
   case atStart=>exact⟨0,Nat.zero_le _,rfl,by rw [Nat.zero_mul,Nat.add_zero,<-VM hlt]; exact HGq.out,hE1,B1,HAX,HGA⟩
   case round =>
    obtain⟨i,hi,rfl,HG2,hE2,B2,HAX2,HGA2⟩:=hrel
    by_cases hi1:i < 1
    case neg =>
     have t3:decide ((i:Int) < 1)=false:=q_f (by omega);have e9:k*6+i*axN k=q0Q (k+1):=by rw [X5 hlt,show i=1 by omega,Nat.one_mul]
     rw [e9] at HG2;go_wp2;go_roundw
     case rel=>exact⟨k+1,by omega,by go_num,HG2,hE2,B2⟩
     case measure=>simp [intOf]; omega
    have t3:decide ((i:Int) < 1)=true:=q_t (by omega);have HI0:Hid (i=0):=by rw [Hid]; omega
    rw [show k*6+i*axN k=k*6 by rw [HI0.out,Nat.zero_mul,Nat.add_zero]] at HG2;obtain⟨w4,hw4⟩:∃ w4,w4=wr:=⟨_,rfl⟩
    subst hw4;go_wp2_with fail
    go_loopw [8,3] (fun jv lv wr=>∃ j:Nat,j<=axN k/\jv=.int .i64 (j:Int)/\kM 107 3 (w.heap.size+1) wr lv (k*6+j) (q0D (k*6+j))/\Ext w wr/\wr.heap[w.heap.size]?=some (.cells #[.int .i64 3,.slice (some ⟨gs,0,none⟩) 1 1,.slice (some ⟨gp,0,none⟩) 1 1,.slice (some ⟨go,0,none⟩) 1 1] 82 (0,0))/\Hid (∀ a,a < axN k->wr.cell? ⟨ga,a,none⟩=some (.int .i64 (a:Int)))/\Hid (ga < wr.heap.size/\lv.ownBlock≠some ga)) (fun jv _ _=>axN k - (intOf jv).toNat)
    case atStart=>exact⟨0,Nat.zero_le _,rfl,HG2,hE2,B2,HAX2,HGA2⟩
    case round =>
     obtain⟨j,hj,rfl,HG3,hE3,B3,HAX3,HGA3⟩:=hrel
     by_cases hj1:j < axN k
     case neg =>
      have t4:decide ((j:Int) < (axN k:Int))=false:=q_f (by omega);obtain rfl:j=axN k:=by omega
      go_wp2;go_roundw
      case rel=>exact⟨i+1,by omega,by go_num,by rw [show (i+1)*axN k=axN k by rw [HI0.out,Nat.zero_add,Nat.one_mul]]; exact HG3,hE3,B3,HAX3,HGA3⟩
      case measure=>simp [intOf]; omega
     have t4:decide ((j:Int) < (axN k:Int))=true:=q_t (by omega);have hJ:=q2x k;obtain⟨a0,a1,a2,a3,-⟩:=cells4 B3;have hc:=HAX3.out j hj1;have HNB:=HN.out.ext hE3;obtain⟨A9,c9,rfl⟩:=HG3.form;have HG3':=q_h HG3;clear HG3;obtain⟨w5,hwx⟩:∃ w5,w5=wr:=⟨_,rfl⟩
     subst hwx;go_upto_region 15 with (fail);refine jE [Mn.eq (.agg #[.int .i64 3,.slice (some ⟨gs,0,none⟩) 1 1,.slice (some ⟨gp,0,none⟩) 1 1,.slice (some ⟨go,0,none⟩) 1 1]),Mn.i (k:Int),Mn.i (i:Int),Mn.eq (.slice (some ⟨ga,0,none⟩) (axN k) (axN k)),Mn.i (j:Int),Mn.q ga j,Mn.i (j:Int),Mn.t false,Mn.t true] (sM [37,38,39,40,41,42,43,44,45]) [] (rQ 9 0) 0 (by kernel_rfl) ?_ ?_
     ·show ∀ i,i < 9->_
      iterate 9 refine fs ?_ ?_
      ·exact fz
      all_goals intro hl; clear hl; refine stp rfl ?_; intro ac wi eI hB hA K hK
      have o1:=oOf (hB 1) rfl;have cc0:=eI.cell a0;have cc1:=eI.cell a1;have cc2:=eI.cell a2;have cc3:=eI.cell a3
      rotate_left
      have o4:=oOf (hB 4) rfl
      rotate_left
      have o7:=oOf (hB 7) rfl
      rotate_left
      have o6:=oOf (hB 6) rfl
      rotate_left
      have o8:=oOf (hB 8) rfl
      rotate_left
      obtain⟨_,s40,rfl⟩:=hA 3 40;obtain⟨_,s41,rfl⟩:=hA 4 41
      rotate_left
      obtain⟨_,s42,rfl⟩:=hA 5 42;have cc0:=eI.cell hc
      rotate_left
      obtain⟨_,s37,rfl⟩:=hA 0 37;obtain⟨_,s38,rfl⟩:=hA 1 38;obtain⟨_,s39,rfl⟩:=hA 2 39;obtain⟨_,s43,rfl⟩:=hA 6 43;clear hB hA
      ·go_simp;refine (Xh (HNB.ext eI) (k:Int) (i:Int) (j:Int)).mono ?_;rintro e wj ⟨rfl,ej⟩;go_wp2_with fail;exact hK.out _ _ ej rfl
      obtain⟨_,s44,rfl⟩:=hA 7 44
      rotate_left
      all_goals clear hB hA; go_simp; exact q_k hK rfl
     intro vals wz eZ hJ;have J45:vals 8=_:=hJ 8 (by decide) (by decide);clear hJ;simp only [pr,Nat.reduceAdd,J45];clear J45;refine qi (by kernel_rfl) ?_ _;have HG5:=HG3'.out.ext eZ;replace hc:=eZ.cell hc;clear a0 a1 a2 a3 HG3' HNB;go_wp2_with (at_builtin; refine q_o ?_);refine ql ?_;intro w6 e6 hsz6 B6;refine qY q4T rfl _ _ 244 Tryz.underlying244 rfl (by rfl) (HG5.ext e6) (by rfl) (m:=1) (news:=VF (k*6+j)) (Qm _) (fun a u hu=>by rw [Yc hlt hj1] at hu; rw [xQ,qg B6,Nat.zero_add,HI0.out]; simpa using hu) (fun u hu=>by rw [Yc hlt hj1] at hu; simp at hu; rcases hu with rfl | rfl | rfl <;> rfl) (by omega) ?_;rintro v7 w7 hG7 hv7 ⟨g7,hg7,hg7',C7⟩;rw [<-yQ] at hG7;have HG7:=q_h hG7;have e56:=eZ.trans e6;have hga:ga < w6.heap.size:=Nat.lt_of_lt_of_le HGA3.out.1 e56.size
     have hg9:g7≠ga:=by
      rcases hg7' with h9 | h9
      ·intro h8; rw [h8] at h9; exact HGA3.out.2 h9
      ·omega
     have hE7:Ext w w7:=C7.ext (hE3.trans e56) (by omega);have B7:=C7.blk (e56.block B3) (by omega);have HAX7:Hid (∀ a,a < axN k->w7.cell? ⟨ga,a,none⟩=some (.int .i64 (a:Int))):=fun a ha=>C7.cell (e56.cell (HAX3.out a ha)) (by show ga < g7\/g7+1<=ga; omega)
     have HGA7:Hid (ga < w7.heap.size/\v7.ownBlock≠some ga):=⟨Nat.lt_of_lt_of_le hga C7.size,by
      rcases hv7 with h9 | h9
      ·rw [h9]; exact HGA3.out.2
      ·rw [h9]; intro h8; injection h8; omega⟩
     clear hG7 hc B6 C7 hv7 hg7' HGA3 HAX3 B3 hg9 hga;go_wp2;go_roundw
     case rel=>exact⟨j+1,by omega,by go_num,HG7.out,hE7,B7,HAX7,HGA7⟩
     case measure=>simp [intOf]; omega
  ·have t2:((k:Int) == 1)=false:=by simp; omega
   clear h1;go_wp2_with (go_at_call 133; refine q_o ?_);refine (ZN hlt).mono ?_;rintro e w3 ⟨ga,rfl,hax,hga,e3⟩;have HAX:=q_h hax;have HGA:Hid (ga < w3.heap.size/\(Value.slice lA (q0Q k) lc).ownBlock≠some ga):=⟨hga.2,fun h9=>by have:=(kM.own_lt HG1 ga h9).2; omega⟩
   clear hga;have HGq:=q_h (HG1.ext e3);replace hE1:=hE1.trans e3;replace B1:=e3.block B1;clear hax HG1 e3 a0 a1 a2 a3;go_wp2_with fail
   go_loopw [7,3] (fun iv lv wr=>∃ i:Nat,i<=1/\iv=.int .i64 (i:Int)/\kM 107 3 (w.heap.size+1) wr lv (k*6+i*axN k) (q0D (k*6+i*axN k))/\Ext w wr/\wr.heap[w.heap.size]?=some (.cells #[.int .i64 3,.slice (some ⟨gs,0,none⟩) 1 1,.slice (some ⟨gp,0,none⟩) 1 1,.slice (some ⟨go,0,none⟩) 1 1] 82 (0,0))/\Hid (∀ a,a < axN k->wr.cell? ⟨ga,a,none⟩=some (.int .i64 (a:Int)))/\Hid (ga < wr.heap.size/\lv.ownBlock≠some ga)) (fun iv _ _=>1 - (intOf iv).toNat)
   case atStart=>exact⟨0,Nat.zero_le _,rfl,by rw [Nat.zero_mul,Nat.add_zero,<-VM hlt]; exact HGq.out,hE1,B1,HAX,HGA⟩
   case round =>
    obtain⟨i,hi,rfl,HG2,hE2,B2,HAX2,HGA2⟩:=hrel
    by_cases hi1:i < 1
    case neg =>
     have t3:decide ((i:Int) < 1)=false:=q_f (by omega);have e9:k*6+i*axN k=q0Q (k+1):=by rw [X5 hlt,show i=1 by omega,Nat.one_mul]
     rw [e9] at HG2;go_wp2;go_roundw
     case rel=>exact⟨k+1,by omega,by go_num,HG2,hE2,B2⟩
     case measure=>simp [intOf]; omega
    have t3:decide ((i:Int) < 1)=true:=q_t (by omega);have HI0:Hid (i=0):=by rw [Hid]; omega
    rw [show k*6+i*axN k=k*6 by rw [HI0.out,Nat.zero_mul,Nat.add_zero]] at HG2;obtain⟨w4,hw4⟩:∃ w4,w4=wr:=⟨_,rfl⟩
    subst hw4;go_wp2_with fail
    go_loopw [8,3] (fun jv lv wr=>∃ j:Nat,j<=axN k/\jv=.int .i64 (j:Int)/\kM 107 3 (w.heap.size+1) wr lv (k*6+j) (q0D (k*6+j))/\Ext w wr/\wr.heap[w.heap.size]?=some (.cells #[.int .i64 3,.slice (some ⟨gs,0,none⟩) 1 1,.slice (some ⟨gp,0,none⟩) 1 1,.slice (some ⟨go,0,none⟩) 1 1] 82 (0,0))/\Hid (∀ a,a < axN k->wr.cell? ⟨ga,a,none⟩=some (.int .i64 (a:Int)))/\Hid (ga < wr.heap.size/\lv.ownBlock≠some ga)) (fun jv _ _=>axN k - (intOf jv).toNat)
    case atStart=>exact⟨0,Nat.zero_le _,rfl,HG2,hE2,B2,HAX2,HGA2⟩
    case round =>
     obtain⟨j,hj,rfl,HG3,hE3,B3,HAX3,HGA3⟩:=hrel
     by_cases hj1:j < axN k
     case neg =>
      have t4:decide ((j:Int) < (axN k:Int))=false:=q_f (by omega);obtain rfl:j=axN k:=by omega
      go_wp2;go_roundw
      case rel=>exact⟨i+1,by omega,by go_num,by rw [show (i+1)*axN k=axN k by rw [HI0.out,Nat.zero_add,Nat.one_mul]]; exact HG3,hE3,B3,HAX3,HGA3⟩
      case measure=>simp [intOf]; omega
     have t4:decide ((j:Int) < (axN k:Int))=true:=q_t (by omega);have hJ:=q2x k;obtain⟨a0,a1,a2,a3,-⟩:=cells4 B3;have hc:=HAX3.out j hj1;have HNB:=HN.out.ext hE3;obtain⟨A9,c9,rfl⟩:=HG3.form;have HG3':=q_h HG3;clear HG3;obtain⟨w5,hwx⟩:∃ w5,w5=wr:=⟨_,rfl⟩
     subst hwx;go_upto_region 15 with (fail);refine jE [Mn.eq (.agg #[.int .i64 3,.slice (some ⟨gs,0,none⟩) 1 1,.slice (some ⟨gp,0,none⟩) 1 1,.slice (some ⟨go,0,none⟩) 1 1]),Mn.i (k:Int),Mn.i (i:Int),Mn.eq (.slice (some ⟨ga,0,none⟩) (axN k) (axN k)),Mn.i (j:Int),Mn.q ga j,Mn.i (j:Int),Mn.t false,Mn.t true] (sM [37,38,39,40,41,42,43,44,45]) [] (rQ 9 0) 0 (by kernel_rfl) ?_ ?_
     ·show ∀ i,i < 9->_
      iterate 9 refine fs ?_ ?_
      ·exact fz
      all_goals intro hl; clear hl; refine stp rfl ?_; intro ac wi eI hB hA K hK
      have o1:=oOf (hB 1) rfl;have cc0:=eI.cell a0;have cc1:=eI.cell a1;have cc2:=eI.cell a2;have cc3:=eI.cell a3
      rotate_left
      have o4:=oOf (hB 4) rfl
      rotate_left
      have o7:=oOf (hB 7) rfl
      rotate_left
      have o6:=oOf (hB 6) rfl
      rotate_left
      have o8:=oOf (hB 8) rfl
      rotate_left
      obtain⟨_,s40,rfl⟩:=hA 3 40;obtain⟨_,s41,rfl⟩:=hA 4 41
      rotate_left
      obtain⟨_,s42,rfl⟩:=hA 5 42;have cc0:=eI.cell hc
      rotate_left
      obtain⟨_,s37,rfl⟩:=hA 0 37;obtain⟨_,s38,rfl⟩:=hA 1 38;obtain⟨_,s39,rfl⟩:=hA 2 39;obtain⟨_,s43,rfl⟩:=hA 6 43;clear hB hA
      ·go_simp;refine (Xh (HNB.ext eI) (k:Int) (i:Int) (j:Int)).mono ?_;rintro e wj ⟨rfl,ej⟩;go_wp2_with fail;exact hK.out _ _ ej rfl
      obtain⟨_,s44,rfl⟩:=hA 7 44
      rotate_left
      all_goals clear hB hA; go_simp; exact q_k hK rfl
     intro vals wz eZ hJ;have J45:vals 8=_:=hJ 8 (by decide) (by decide);clear hJ;simp only [pr,Nat.reduceAdd,J45];clear J45;refine qi (by kernel_rfl) ?_ _;have HG5:=HG3'.out.ext eZ;replace hc:=eZ.cell hc;clear a0 a1 a2 a3 HG3' HNB;go_wp2_with (at_builtin; refine q_o ?_);refine ql ?_;intro w6 e6 hsz6 B6;refine qY q4T rfl _ _ 244 Tryz.underlying244 rfl (by rfl) (HG5.ext e6) (by rfl) (m:=1) (news:=VF (k*6+j)) (Qm _) (fun a u hu=>by rw [Yc hlt hj1] at hu; rw [xQ,qg B6,Nat.zero_add,HI0.out]; simpa using hu) (fun u hu=>by rw [Yc hlt hj1] at hu; simp at hu; rcases hu with rfl | rfl | rfl <;> rfl) (by omega) ?_;rintro v7 w7 hG7 hv7 ⟨g7,hg7,hg7',C7⟩;rw [<-yQ] at hG7;have HG7:=q_h hG7;have e56:=eZ.trans e6;have hga:ga < w6.heap.size:=Nat.lt_of_lt_of_le HGA3.out.1 e56.size
     have hg9:g7≠ga:=by
      rcases hg7' with h9 | h9
      ·intro h8; rw [h8] at h9; exact HGA3.out.2 h9
      ·omega
     have hE7:Ext w w7:=C7.ext (hE3.trans e56) (by omega);have B7:=C7.blk (e56.block B3) (by omega);have HAX7:Hid (∀ a,a < axN k->w7.cell? ⟨ga,a,none⟩=some (.int .i64 (a:Int))):=fun a ha=>C7.cell (e56.cell (HAX3.out a ha)) (by show ga < g7\/g7+1<=ga; omega)
     have HGA7:Hid (ga < w7.heap.size/\v7.ownBlock≠some ga):=⟨Nat.lt_of_lt_of_le hga C7.size,by
      rcases hv7 with h9 | h9
      ·rw [h9]; exact HGA3.out.2
      ·rw [h9]; intro h8; injection h8; omega⟩
     clear hG7 hc B6 C7 hv7 hg7' HGA3 HAX3 B3 hg9 hga;go_wp2;go_roundw
     case rel=>exact⟨j+1,by omega,by go_num,HG7.out,hE7,B7,HAX7,HGA7⟩
     case measure=>simp [intOf]; omega
theorem und_3:Tryz.prog.underlying 107=some (.array 3 3):=by kernel_rfl
theorem q3G:Tryz.prog.cellsOf 3=1:=by kernel_rfl
def eq3 (a b c a' b' c':Int):Bool:=decide (a=a'/\b=b'/\c=c')
theorem We (w:World) (a b c a' b' c':Int):(binOp .eql 107 (.agg #[.int .i64 a,.int .i64 b,.int .i64 c]) (.agg #[.int .i64 a',.int .i64 b',.int .i64 c'])).run Tryz.prog w=.ok (.bool (eq3 a b c a' b' c')) w:=by
 unfold eq3;have u3:=Tryz.underlying3
 obtain⟨i,hi⟩:∃ i,Tryz.prog.info? 3=some i:=by
  cases h:Tryz.prog.info? 3 with
  | some i=>exact⟨i,rfl⟩
  | none =>
   have:(Tryz.prog.info? 3).isSome=true:=by kernel_rfl
   rw [h] at this; cases this
 rw [run_eql_struct,show (10000:Nat)=9999+1 from rfl,run_equalIn_array w 9999 _ _ und_3 hi,q3G];simp only [List.range,List.range.loop,Op.eqItems];go_simp
 by_cases h1:a=a' <;> by_cases h2:b=b' <;> by_cases h3:c=c' <;> simp [h1,h2,h3]
def q3X (m:Nat):Int:=if m < 6 then 0 else 1
def q3W (m:Nat):Int:=if m < 6 then (m:Int) else ((m - 6:Nat):Int)
theorem Jm (m:Nat):VF m=[.int .i64 (q3X m),.int .i64 0,.int .i64 (q3W m)]:=by unfold VF q3X q3W; split <;> rfl
theorem q2E {what:Nat} (hm:m < 9) (hw:what < 2) (hk:k < axN what):(q3X m=(what:Int)/\(0:Int)=0/\q3W m=(k:Int))↔m=what*6+k:=by
 unfold q3X q3W;unfold axN at hk;have:what=0\/what=1:=by omega
 rcases this with rfl | rfl
 ·rw [if_pos rfl] at hk
  split <;> omega
 ·rw [if_neg (by decide)] at hk
  split <;> omega
theorem ja {gs gp go:Nat} {P:Nat->Int} (h:q0B w gs gp go S P) {what:Nat} (hw:what < 2) (hk:k < axN what) :
  Calls Tryz.prog 182 #[Jc gs gp go,.int .i64 (what:Int),.int .i64 0,.int .i64 (k:Int)] w (zG w (.int .i64 ((what*6+k:Nat):Int))):=by
 obtain⟨t,ht⟩:=qf (what*6+k)
 have ht9:t < 9:=by
  have:=ht.out;unfold axN at hk
  split at hk <;> omega
 have HI:Hid (∀ m,m < 9->eq3 (q3X m) 0 (q3W m) (what:Int) 0 (k:Int)=decide (m=t)):=fun m hm=>by rw [ht.out]; exact decide_eq_decide.2 (q2E hm hw hk)
 rw [<-ht.out];have HN:=q_h h;unfold Jc at *;clear h ht;have heq:=We;go_enter Tryz.func182,Tryz.ntmps182;go_wp2_with (go_at_call 218; refine q_o ?_);refine qF ?_;intro w1 hE hsz B0;refine (Xi (HN.out.ext hE)).mono ?_;rintro e w2 ⟨g,c,rfl,hc,e2⟩;have HC:=q_h hc;replace hE:=hE.trans e2;clear hc B0 e2;go_wp2_with fail
 go_loopw [10] (fun kv wr=>∃ m:Nat,m<=t/\kv=.int .i64 (m:Int)/\wr=w2) (fun kv _=>t - (intOf kv).toNat)
 case atStart=>exact⟨0,Nat.zero_le _,rfl,rfl⟩
 case round =>
  obtain⟨m,hm,rfl,rfl⟩:=hrel;have hm9:m < 9:=by omega
  have t1:decide ((m:Int) < 9)=true:=q_t (by omega);have hi:=HI.out m hm9;have c0:wr.cell? ⟨g,m*3,none⟩=some (.int .i64 (q3X m)):=HC.out m 0 _ hm9 (by rw [Jm]; rfl);have c1:wr.cell? ⟨g,m*3+1,none⟩=some (.int .i64 0):=HC.out m 1 _ hm9 (by rw [Jm]; rfl);have c2:wr.cell? ⟨g,m*3+2,none⟩=some (.int .i64 (q3W m)):=HC.out m 2 _ hm9 (by rw [Jm]; rfl)
  by_cases hlt:m=t
  ·have t2:decide (m=t)=true:=q_t hlt;rw [t2] at hi;have HLT:=q_h hlt;clear hlt t2;go_wp2;go_ret;exact⟨by rw [HLT.out]; rfl,hE⟩
  ·have t2:decide (m=t)=false:=q_f hlt;rw [t2] at hi;go_wp2;go_roundw
   case rel=>exact⟨m+1,by omega,by go_num,trivial⟩
   case measure=>simp [intOf]; omega
def Mn.trm (N:Nat) (L:List (Rat×Nat)):Mn:=⟨fun v w=>Trm N w v L,fun e h=>h.ext e⟩
def Mn.tmx (N:Nat) (L:List (Rat×Nat)) (i:Nat):Mn:=⟨fun v w=>∃ u,v=.tuple #[u,.int .i64 (i:Int)]/\Trm N w u L,fun e h=>by
 obtain⟨u,h1,h2⟩:=h
 exact⟨u,h1,h2.ext e⟩⟩
def Zb (S:Sta) (P:Nat->Int) (what:Nat) (k:Nat):Int:=if what=0 then ww S k else P k
theorem Q5 {L:List (Rat×Nat)} (h:Trm N w v L) (hl:L.length < 390) {gs gp go:Nat} {P:Nat->Int} (hn:q0B w gs gp go S P) {what:Nat} (hw:what < 2) (hk:k < 3) (hb : -1048576<=Zb S P what k/\Zb S P what k<=1048576) :
  Calls Tryz.prog 140 #[v,Jc gs gp go,.int .i64 (what:Int),.int .i64 0,.int .i64 (k:Int)] w (Qh N w (coL L (Zb S P what k)) (L.length+2)):=by
 have hk6:k < axN what:=by unfold axN; split <;> omega
 have hk9:what*6+k < 9:=by omega
 obtain⟨M,hM⟩:=qf (coL L (Zb S P what k));obtain⟨q,hq⟩:=qf (L.length+2);obtain⟨z,hz⟩:=qf (Zb S P what k);obtain⟨u,hu⟩:=qf (what*6+k);obtain⟨R,hR⟩:=qf (Qh N w M q);rw [<-hM.out,<-hq.out,<-hR.out];rw [<-hz.out] at hb;rw [<-hu.out] at hk9;have HT:=q_h h;have HN:=q_h hn;obtain⟨gb,gc,rfl⟩:=h.form;unfold Jc;clear h hn;have HM2:Hid (M=coL L z):=by rw [Hid,hM.out,hz.out]
 clear hM;have:what=0\/what=1:=by omega
 rcases this with rfl | rfl
 ·have HZ2:Hid (z=(ww S) k):=hz.out;clear hz;go_enter Tryz.func140,Tryz.ntmps140;go_upto_region 2 with (fail);refine ql ?_;intro w1 hE hsz B0;obtain⟨a0,a1,a2,a3,-⟩:=cells4 B0;obtain⟨⟨s0,s1,s2,-⟩,p0,p1,p2,-⟩:=HN.out.ext hE;refine jE [Mn.eq (.slice (some ⟨gb,0,none⟩) L.length gc),Mn.q w.heap.size 1,Mn.eq (.slice (some ⟨gs,0,none⟩) 1 1),Mn.i 0,Mn.q gs 0,Mn.q gs 0,Mn.eq (.agg #[.int .i64 S.ax,.int .i64 S.ay,.int .i64 S.az]),Mn.i (k:Int),Mn.i z,Mn.eq (.agg #[.int .i64 3,.slice (some ⟨gs,0,none⟩) 1 1,.slice (some ⟨gp,0,none⟩) 1 1,.slice (some ⟨go,0,none⟩) 1 1]),Mn.i 0,Mn.i 0,Mn.i (k:Int),Mn.i (u:Int),Mn.tmx N M q,Mn.trm N M,Mn.i (q:Int),Mn.trm N M,Mn.i (q:Int)] (sM [14,15,16,17,18,19,20,21,22,23,24,25,26,27,28,29,30,10,11]) [] (rQ 19 0) 0 (by kernel_rfl) ?_ ?_
  ·show ∀ i,i < 19->_
   iterate 19 refine fs ?_ ?_
   ·exact fz
   all_goals intro hl; clear hl; refine stp rfl ?_; intro ac wi eI hB hA K hK
   have o0:=oOf (hB 0) rfl
   rotate_left
   have o6:=oOf (hB 6) rfl
   rotate_left
   obtain⟨_,s15,rfl⟩:=hA 1 15;have cc0:=eI.cell a1
   rotate_left
   have o3:=oOf (hB 3) rfl
   rotate_left
   obtain⟨_,s16,rfl⟩:=hA 2 16;obtain⟨_,s17,rfl⟩:=hA 3 17
   rotate_left
   obtain⟨_,s18,rfl⟩:=hA 4 18
   rotate_left
   obtain⟨_,s19,rfl⟩:=hA 5 19;have cc0:=eI.cell p0;have cc1:=eI.cell p1;have cc2:=eI.cell p2;have cc3:=eI.cell s0;have cc4:=eI.cell s1;have cc5:=eI.cell s2
   rotate_left
   have o4:=oOf (hB 4) rfl
   rotate_left
   obtain⟨_,s20,rfl⟩:=hA 6 20;obtain⟨_,s21,rfl⟩:=hA 7 21;clear hB hA
   ·go_simp;refine (Yk (ww S) hk).mono ?_;rw [<-HZ2.out];rintro e wj ⟨rfl,ej⟩;go_wp2_with fail;exact hK.out _ _ ej rfl
   have o6:=oOf (hB 6) rfl;have cc0:=eI.cell a0;have cc1:=eI.cell a1;have cc2:=eI.cell a2;have cc3:=eI.cell a3
   rotate_left
   have o2:=oOf (hB 2) rfl
   rotate_left
   have o3:=oOf (hB 3) rfl
   rotate_left
   have o4:=oOf (hB 4) rfl
   rotate_left
   obtain⟨_,s23,rfl⟩:=hA 9 23;obtain⟨_,s24,rfl⟩:=hA 10 24;obtain⟨_,s25,rfl⟩:=hA 11 25;obtain⟨_,s26,rfl⟩:=hA 12 26;clear hB hA
   ·go_simp;refine (ja (HN.out.ext (hE.trans eI)) hw hk6).mono ?_;rw [<-hu.out];rintro e wj ⟨rfl,ej⟩;go_wp2_with fail;exact hK.out _ _ ej rfl
   obtain⟨_,s14,rfl⟩:=hA 0 14;obtain⟨_,s22,rfl⟩:=hA 8 22;obtain⟨_,s27,rfl⟩:=hA 13 27;clear hB hA
   ·go_simp;refine (yA (HT.out.ext (hE.trans eI)) hl hb hk9).mono ?_;rw [<-HM2.out,<-hq.out];rintro e wj ⟨vj,rfl,hj,ej⟩;go_wp2_with fail;exact hK.out _ _ ej ⟨vj,rfl,hj⟩
   obtain⟨x28,s28,j28⟩:=hA 14 28;replace j28:Mn.p (Mn.tmx N M q) x28 wi:=j28;clear hB hA
   ·obtain⟨vj,rfl,hj⟩:=j28;go_simp;exact q_k hK hj
   obtain⟨x28,s28,j28⟩:=hA 14 28;replace j28:Mn.p (Mn.tmx N M q) x28 wi:=j28;clear hB hA
   ·obtain⟨vj,rfl,hj⟩:=j28;go_simp;exact q_k hK rfl
   obtain⟨x29,s29,j29⟩:=hA 15 29;replace j29:Mn.p (Mn.trm N M) x29 wi:=j29;clear hB hA
   ·go_simp;exact q_k hK j29
   obtain⟨_,s30,rfl⟩:=hA 16 30
   rotate_left
   all_goals clear hB hA; go_simp; exact q_k hK rfl
  intro vals wz eZ hJ;have J10:Mn.p (Mn.trm N M) (vals 17) wz:=hJ 17 (by decide) (by decide);have J11:vals 18=_:=hJ 18 (by decide) (by decide);clear hJ;simp only [pr,Nat.reduceAdd,J11];clear J11
  generalize vals 17=z10 at J10 ⊢
  refine qi (by kernel_rfl) ?_ _;go_wp2
  first | go_ret2 | skip
  rw [hR.out];exact⟨_,rfl,J10,hE.trans eZ⟩
 ·have HZ2:Hid (z=(P) k):=hz.out;clear hz;go_enter Tryz.func140,Tryz.ntmps140;go_upto_region 3 with (fail);refine ql ?_;intro w1 hE hsz B0;obtain⟨a0,a1,a2,a3,-⟩:=cells4 B0;obtain⟨⟨s0,s1,s2,-⟩,p0,p1,p2,-⟩:=HN.out.ext hE;refine jE [Mn.eq (.slice (some ⟨gb,0,none⟩) L.length gc),Mn.q w.heap.size 2,Mn.eq (.slice (some ⟨gp,0,none⟩) 1 1),Mn.i 0,Mn.q gp 0,Mn.eq (.agg #[.int .i64 (P 0),.int .i64 (P 1),.int .i64 (P 2)]),Mn.i (k:Int),Mn.i z,Mn.eq (.agg #[.int .i64 3,.slice (some ⟨gs,0,none⟩) 1 1,.slice (some ⟨gp,0,none⟩) 1 1,.slice (some ⟨go,0,none⟩) 1 1]),Mn.i 1,Mn.i 0,Mn.i (k:Int),Mn.i (u:Int),Mn.tmx N M q,Mn.trm N M,Mn.i (q:Int),Mn.trm N M,Mn.i (q:Int)] (sM [31,32,33,34,35,36,37,38,39,40,41,42,43,44,45,46,10,11]) [] (rQ 18 0) 0 (by kernel_rfl) ?_ ?_
  ·show ∀ i,i < 18->_
   iterate 18 refine fs ?_ ?_
   ·exact fz
   all_goals intro hl; clear hl; refine stp rfl ?_; intro ac wi eI hB hA K hK
   have o0:=oOf (hB 0) rfl
   rotate_left
   have o6:=oOf (hB 6) rfl
   rotate_left
   obtain⟨_,s32,rfl⟩:=hA 1 32;have cc0:=eI.cell a2
   rotate_left
   have o3:=oOf (hB 3) rfl
   rotate_left
   obtain⟨_,s33,rfl⟩:=hA 2 33;obtain⟨_,s34,rfl⟩:=hA 3 34
   rotate_left
   obtain⟨_,s35,rfl⟩:=hA 4 35;have cc0:=eI.cell p0;have cc1:=eI.cell p1;have cc2:=eI.cell p2;have cc3:=eI.cell s0;have cc4:=eI.cell s1;have cc5:=eI.cell s2
   rotate_left
   have o4:=oOf (hB 4) rfl
   rotate_left
   obtain⟨_,s36,rfl⟩:=hA 5 36;obtain⟨_,s37,rfl⟩:=hA 6 37;clear hB hA
   ·go_simp;refine (Yk (P) hk).mono ?_;rw [<-HZ2.out];rintro e wj ⟨rfl,ej⟩;go_wp2_with fail;exact hK.out _ _ ej rfl
   have o6:=oOf (hB 6) rfl;have cc0:=eI.cell a0;have cc1:=eI.cell a1;have cc2:=eI.cell a2;have cc3:=eI.cell a3
   rotate_left
   have o2:=oOf (hB 2) rfl
   rotate_left
   have o3:=oOf (hB 3) rfl
   rotate_left
   have o4:=oOf (hB 4) rfl
   rotate_left
   obtain⟨_,s39,rfl⟩:=hA 8 39;obtain⟨_,s40,rfl⟩:=hA 9 40;obtain⟨_,s41,rfl⟩:=hA 10 41;obtain⟨_,s42,rfl⟩:=hA 11 42;clear hB hA
   ·go_simp;refine (ja (HN.out.ext (hE.trans eI)) hw hk6).mono ?_;rw [<-hu.out];rintro e wj ⟨rfl,ej⟩;go_wp2_with fail;exact hK.out _ _ ej rfl
   obtain⟨_,s31,rfl⟩:=hA 0 31;obtain⟨_,s38,rfl⟩:=hA 7 38;obtain⟨_,s43,rfl⟩:=hA 12 43;clear hB hA
   ·go_simp;refine (yA (HT.out.ext (hE.trans eI)) hl hb hk9).mono ?_;rw [<-HM2.out,<-hq.out];rintro e wj ⟨vj,rfl,hj,ej⟩;go_wp2_with fail;exact hK.out _ _ ej ⟨vj,rfl,hj⟩
   obtain⟨x44,s44,j44⟩:=hA 13 44;replace j44:Mn.p (Mn.tmx N M q) x44 wi:=j44;clear hB hA
   ·obtain⟨vj,rfl,hj⟩:=j44;go_simp;exact q_k hK hj
   obtain⟨x44,s44,j44⟩:=hA 13 44;replace j44:Mn.p (Mn.tmx N M q) x44 wi:=j44;clear hB hA
   ·obtain⟨vj,rfl,hj⟩:=j44;go_simp;exact q_k hK rfl
   obtain⟨x45,s45,j45⟩:=hA 14 45;replace j45:Mn.p (Mn.trm N M) x45 wi:=j45;clear hB hA
   ·go_simp;exact q_k hK j45
   obtain⟨_,s46,rfl⟩:=hA 15 46
   rotate_left
   all_goals clear hB hA; go_simp; exact q_k hK rfl
  intro vals wz eZ hJ;have J10:Mn.p (Mn.trm N M) (vals 16) wz:=hJ 16 (by decide) (by decide);have J11:vals 17=_:=hJ 17 (by decide) (by decide);clear hJ;simp only [pr,Nat.reduceAdd,J11];clear J11
  generalize vals 16=z10 at J10 ⊢
  refine qi (by kernel_rfl) ?_ _;go_wp2
  first | go_ret2 | skip
  rw [hR.out];exact⟨_,rfl,J10,hE.trans eZ⟩
def izL (z:Nat->Int) (n:Nat):List Value:=(List.range n).map fun k=>.int .i64 (z k)
theorem q1r (z:Nat->Int) (n:Nat):izL z (n+1)=izL z n ++ [.int .i64 (z n)]:=by unfold izL; rw [List.range_succ,List.map_append]; rfl
theorem q3h (z:Nat->Int) (n:Nat):(izL z n).length=n:=by unfold izL; rw [List.length_map,List.length_range]
theorem Jg.chg {o:Nat} {d:Nd} (h:Jg N w b o d) (c:Chg lo hi w w') (hN:N<=lo) (hb:b < lo\/hi<=b):Jg N w' b o d :=
 ⟨c.cell h.1 hb,c.cell h.2.1 hb,c.cell h.2.2.1 hb,h.2.2.2.chg c hN hb⟩
theorem Trm.chg {L:List (Rat×Nat)} (h:Trm N w (.slice (some ⟨b,0,none⟩) n c) L) (C:Chg g (g+1) w w') (hN:N<=g) (hb:b≠g):Trm N w' (.slice (some ⟨b,0,none⟩) n c) L:=by
 obtain⟨d,⟨h0,b',c',hv,h1,h2,h3⟩,hd⟩:=h;simp only [Value.slice.injEq,Option.some.injEq,Addr.mk.injEq,and_true] at hv;obtain⟨rfl,rfl,rfl⟩:=hv;exact⟨d,⟨q_l h0 C.size,_,_,rfl,h1,h2,fun i hi=>(h3 i hi).chg C hN (by omega)⟩,hd⟩
theorem Trm.lt {L:List (Rat×Nat)} (h:Trm N w (.slice (some ⟨b,0,none⟩) n c) L) (h0:0 < L.length):b < w.heap.size:=by
 obtain⟨d,⟨-,b',c',hv,-,-,h3⟩,-⟩:=h;simp only [Value.slice.injEq,Option.some.injEq,Addr.mk.injEq,and_true] at hv;obtain⟨rfl,-,-⟩:=hv;exact cell_lt (h3 0 h0).1
theorem q3g (ix:Nat->Nat) (k i:Nat):izL (fun j=>((if j=k then i else ix j:Nat):Int)) (k+1)=izL (fun j=>(ix j:Int)) k ++ [.int .i64 (i:Int)]:=by
 rw [q1r,if_pos rfl]
 congr 1
 unfold izL;refine List.map_congr_left fun j hj=>?_
 show Value.int IntKind.i64 ((if j=k then i else ix j:Nat):Int)=_
 rw [if_neg (by have:=List.mem_range.1 hj; omega)]
theorem VO {L:List (Rat×Nat)} (h:Trm N w v L) (hl:L.length < 399) {op:Int} (h2:2<=op) (h5:op<=4) {y z:Rat} {s t:Nat} (hj:L[j]?=some (x,s)) (hk:L[k]?=some (y,t)) (h4:s+t<=400) (hz:z=opF op x y) :
  Calls Tryz.prog 138 #[v,.int .i64 op,.int .i64 (j:Int),.int .i64 (k:Int)] w (q0y N w (L ++ [(z,s+t)]) L.length):=by
 rw [hz];exact Xg h hl (vT.bin op j k (x,s) (y,t) h2 (by omega) (vO hj) (vO hk) hj hk (fun h=>absurd h (by omega)) h4)
def VB (S:Sta) (P:Nat->Int) (k:Nat):Rat:=(Zb S P 1 k:Rat) - (Zb S P 0 k:Rat)
def q5b (N:Nat) (w:World) (L:List (Rat×Nat)) (S:Sta) (P:Nat->Int) (e:Ending) (w':World):Prop :=
 ∃ (v:Value) (g c:Nat) (ix:Nat->Nat) (L':List (Rat×Nat)),e=.returned (.tuple #[v,.slice (some ⟨g,0,none⟩) 3 c])/\Trm N w' v L'/\L <+: L'/\L'.length<=L.length+21 /\
  (∀ k,k < 3->w'.cell? ⟨g,k,none⟩=some (.int .i64 (ix k:Int))/\L'[ix k]?=some (VB S P k,2+2))/\Ext w w'
theorem Jz {L:List (Rat×Nat)} (h:Trm N w v L) (hl0:0 < L.length) (hl:L.length < 360) {gs gp go:Nat} {P:Nat->Int} (hn:q0B w gs gp go S P) (hb:∀ what k,-1048576<=Zb S P what k/\Zb S P what k<=1048576) :
  Calls Tryz.prog 141 #[v,Jc gs gp go,.int .i64 1,.int .i64 0,.int .i64 0,.int .i64 0] w (q5b N w L S P):=by
 obtain⟨R,hR⟩:=qf (q5b N w L S P);rw [<-hR.out];have HT:=q_h h;have HN:=q_h hn;have HB:=q_h hb;have hNw:=h.le;obtain⟨gb,gc,rfl⟩:=h.form;have hgb:=h.lt hl0;unfold Jc;clear h hn hb;go_enter Tryz.func141,Tryz.ntmps141;go_wp2_with (go_at_call 133; refine q_o ?_);refine kL ?_;intro w1 hE hsz B0 B1;refine (ZN (w:=w1) (what:=1) (by decide)).mono ?_;rintro e w2 ⟨ga,rfl,hax,hga,e2⟩;rw [show axN 1=3 from rfl] at hax ⊢;have HAX:=q_h hax;replace hE:=hE.trans e2;replace B0:=e2.block B0;replace B1:=e2.block B1;have hs2:=e2.size;clear hax e2;go_wp2_with fail
 go_loopw [16,14,0] (fun kv lv tv wr=>∃ (k:Nat) (ix:Nat->Nat) (b c:Nat) (M:List (Rat×Nat)),k<=3/\kv=.int .i64 (k:Int)/\tv=.slice (some ⟨b,0,none⟩) M.length c/\zh 3 (w.heap.size+1) wr lv (izL (fun j=>(ix j:Int)) k)/\Trm N wr tv M/\Hid (L <+: M)/\M.length<=L.length+k*7/\Hid (∀ j,j < k->M[ix j]?=some (VB S P j,2+2))/\Ext w wr/\wr.heap[w.heap.size]?=some (.cells #[.int .i64 3,.slice (some ⟨gs,0,none⟩) 1 1,.slice (some ⟨gp,0,none⟩) 1 1,.slice (some ⟨go,0,none⟩) 1 1] 82 (0,0))/\Hid (∀ a,a < 3->wr.cell? ⟨ga,a,none⟩=some (.int .i64 (a:Int)))/\Hid (ga < wr.heap.size/\lv.ownBlock≠some ga)) (fun kv _ _ _=>3 - (intOf kv).toNat)
 case atStart =>
  refine⟨0,fun _=>0,gb,gc,L,Nat.zero_le _,rfl,rfl,zh.empty (by omega) B1,HT.out.ext hE,List.prefix_refl L,by omega,fun j hj=>absurd hj (Nat.not_lt_zero j),hE,B0,HAX,⟨hga.2,?_⟩⟩;intro h9;simp [Value.ownBlock] at h9
  omega
 case round =>
  obtain⟨k,ix,b,c,M,hk,rfl,rfl,HG1,HT1,HP1,hM,HI1,hE1,B2,HAX1,HGA1⟩:=hrel;obtain⟨A1,c1,rfl,-⟩:=HG1.form;have hl1:(izL (fun j=>(ix j:Int)) k).length=k:=q3h _ k
  by_cases hlt:k < 3
  case neg =>
   obtain rfl:k=3:=by omega
   have t1:decide (((3:Nat):Int) < 3)=false:=by decide
   obtain⟨g,cap,hv,hbg,hgs,hcm,hnc,-,hc⟩:=HG1.at_ (by rw [hl1]; omega);rw [hl1] at hv ⊢
   have HC:Hid (∀ j,j < 3->wr.cell? ⟨g,j,none⟩=some (.int .i64 (ix j:Int))/\M[ix j]?=some (VB S P j,2+2)):=fun j hj=>⟨by
    have:=hc j (by rw [hl1]; omega);rw [this];unfold izL
    simp,HI1.out j (by omega)⟩
   rw [hv];clear hv hc HG1 HGA1 hlt;go_wp2
   first | go_ret2 | skip
   rw [hR.out];exact⟨_,g,cap,ix,M,rfl,HT1,HP1.out,by omega,HC.out,hE1⟩
  have t1:decide ((k:Int) < 3)=true:=q_t (by omega);have hk3:(k:Int) < 3:=by omega
  rw [hl1] at HG1 HGA1 ⊢;obtain⟨M1,hM1⟩:=qf (coL M (Zb S P 1 k));obtain⟨q1,hq1⟩:=qf (M.length+2);have hMl:M.length < 390:=by omega
  have HTM:=q_h HT1;obtain⟨a0,a1,a2,a3,-⟩:=cells4 B2;have hc:=HAX1.out k hlt;have HGq:=q_h HG1;clear HT1 B0 B1 HAX HG1;obtain⟨w3,hwx⟩:∃ w3,w3=wr:=⟨_,rfl⟩
  subst hwx;go_upto_region 7 with (fail);refine Wh [Mn.eq (.slice (some ⟨b,0,none⟩) M.length c),Mn.eq (.agg #[.int .i64 3,.slice (some ⟨gs,0,none⟩) 1 1,.slice (some ⟨gp,0,none⟩) 1 1,.slice (some ⟨go,0,none⟩) 1 1]),Mn.i 1,Mn.i 0,Mn.eq (.slice (some ⟨ga,0,none⟩) 3 3),Mn.i (k:Int),Mn.q ga k,Mn.i (k:Int),Mn.tmx N M1 q1,Mn.tmx N M1 q1,Mn.trm N M1,Mn.i (q1:Int),Mn.any,Mn.any] (sM [31,32,33,34,35,36,37,38,39,30,40,41,0,17]) [12,13] [11] (rQ 12 2) 2 (by kernel_rfl) ?_ ?_ ?_
  ·show ∀ i,i < 14->_
   iterate 14 refine fs ?_ ?_
   ·exact fz
   all_goals intro hl hs; first | exact absurd hl (by decide) | exact absurd hs (by decide) | (clear hl hs; refine stp rfl ?_; intro ac wi eI hB hA K hK)
   have o0:=oOf (hB 0) rfl
   rotate_left
   have o7:=oOf (hB 7) rfl;have cc0:=eI.cell a0;have cc1:=eI.cell a1;have cc2:=eI.cell a2;have cc3:=eI.cell a3
   rotate_left
   have o2:=oOf (hB 2) rfl
   rotate_left
   have o3:=oOf (hB 3) rfl
   rotate_left
   have o15:=oOf (hB 15) rfl
   rotate_left
   have o16:=oOf (hB 16) rfl
   rotate_left
   obtain⟨_,s35,rfl⟩:=hA 4 35;obtain⟨_,s36,rfl⟩:=hA 5 36
   rotate_left
   obtain⟨_,s37,rfl⟩:=hA 6 37;have cc0:=eI.cell hc
   rotate_left
   obtain⟨_,s31,rfl⟩:=hA 0 31;obtain⟨_,s32,rfl⟩:=hA 1 32;obtain⟨_,s33,rfl⟩:=hA 2 33;obtain⟨_,s34,rfl⟩:=hA 3 34;obtain⟨_,s38,rfl⟩:=hA 7 38;clear hB hA
   ·go_simp;refine (Q5 (what:=1) (HTM.out.ext eI) hMl (HN.out.ext (hE1.trans eI)) (by decide) hlt (HB.out 1 k)).mono ?_;rw [<-hM1.out,<-hq1.out];rintro e wj ⟨vj,rfl,hj,ej⟩;go_wp2_with fail;exact hK.out _ _ ej ⟨vj,rfl,hj⟩
   obtain⟨x39,s39,j39⟩:=hA 8 39;replace j39:Mn.p (Mn.tmx N M1 q1) x39 wi:=j39;clear hB hA
   ·go_simp;exact q_k hK j39
   obtain⟨x30,s30,j30⟩:=hA 9 30;replace j30:Mn.p (Mn.tmx N M1 q1) x30 wi:=j30;clear hB hA
   ·obtain⟨vj,rfl,hj⟩:=j30;go_simp;exact q_k hK hj
   all_goals clear hB hA; go_simp; exact q_k hK rfl
  ·intro i hs;have hi':i=11:=by simpa using hs
   clear hs
   rcases hi' with rfl
   ·refine sft rfl (fun _ _ _ _ h=>h) ?_;intro ac wi eI hB hA;obtain⟨x30,s30,j30⟩:=hA 9 30;replace j30:Mn.p (Mn.tmx N M1 q1) x30 wi:=j30;clear hB hA;obtain⟨vj,rfl,hj⟩:=j30;refine⟨(.int .i64 (q1:Int)),.inl ⟨rfl,fun w9 _=>?_⟩,rfl⟩;go_simp
  intro vals wz eZ hJ;have J40:Mn.p (Mn.trm N M1) (vals 10) wz:=hJ 10 (by decide) (by decide);have J41:vals 11=_:=hJ 11 (by decide) (by decide);clear hJ;simp only [pr,Nat.reduceAdd,J41];clear J41
  generalize vals 10=z40 at J40 ⊢
  refine qh (i:=12) rfl (by kernel_rfl) (by kernel_rfl) (fun K hK=>?_);go_simp;refine hK.out _ _ ?_;clear hK K;try simp only [nr]
  refine qh (i:=13) rfl (by kernel_rfl) (by kernel_rfl) (fun K hK=>?_);go_simp;refine hK.out _ _ ?_;clear hK K;try simp only [nr]
  refine qi (by kernel_rfl) ?_ _;have HT2:=q_h J40;have HE2:=q_h eZ;obtain⟨b4,c4,rfl⟩:=HT2.out.form;obtain⟨M2,hM2⟩:=qf (coL M1 (Zb S P 0 k));obtain⟨q2,hq2⟩:=qf (M1.length+2);have hMl1:M1.length < 390:=by rw [hM1.out,QX]; omega
  have hE4:=hE1.trans eZ;replace hc:=eZ.cell hc;replace a0:=eZ.cell a0;replace a1:=eZ.cell a1;replace a2:=eZ.cell a2;replace a3:=eZ.cell a3;clear J40 eZ;obtain⟨w4,hwx⟩:∃ w4,w4=wz:=⟨_,rfl⟩
  subst hwx;go_upto_region 8 with (fail);refine Wh [Mn.eq (.slice (some ⟨b4,0,none⟩) M1.length c4),Mn.eq (.agg #[.int .i64 3,.slice (some ⟨gs,0,none⟩) 1 1,.slice (some ⟨gp,0,none⟩) 1 1,.slice (some ⟨go,0,none⟩) 1 1]),Mn.i 0,Mn.i 0,Mn.eq (.slice (some ⟨ga,0,none⟩) 3 3),Mn.i (k:Int),Mn.q ga k,Mn.i (k:Int),Mn.tmx N M2 q2,Mn.tmx N M2 q2,Mn.trm N M2,Mn.i (q2:Int),Mn.any,Mn.any] (sM [43,44,45,46,47,48,49,50,51,42,52,53,0,18]) [12,13] [11] (rQ 12 2) 2 (by kernel_rfl) ?_ ?_ ?_
  ·show ∀ i,i < 14->_
   iterate 14 refine fs ?_ ?_
   ·exact fz
   all_goals intro hl hs; first | exact absurd hl (by decide) | exact absurd hs (by decide) | (clear hl hs; refine stp rfl ?_; intro ac wi eI hB hA K hK)
   have o0:=oOf (hB 0) rfl
   rotate_left
   have o7:=oOf (hB 7) rfl;have cc0:=eI.cell a0;have cc1:=eI.cell a1;have cc2:=eI.cell a2;have cc3:=eI.cell a3
   rotate_left
   have o4:=oOf (hB 4) rfl
   rotate_left
   have o5:=oOf (hB 5) rfl
   rotate_left
   have o15:=oOf (hB 15) rfl
   rotate_left
   have o16:=oOf (hB 16) rfl
   rotate_left
   obtain⟨_,s47,rfl⟩:=hA 4 47;obtain⟨_,s48,rfl⟩:=hA 5 48
   rotate_left
   obtain⟨_,s49,rfl⟩:=hA 6 49;have cc0:=eI.cell hc
   rotate_left
   obtain⟨_,s43,rfl⟩:=hA 0 43;obtain⟨_,s44,rfl⟩:=hA 1 44;obtain⟨_,s45,rfl⟩:=hA 2 45;obtain⟨_,s46,rfl⟩:=hA 3 46;obtain⟨_,s50,rfl⟩:=hA 7 50;clear hB hA
   ·go_simp;refine (Q5 (what:=0) (HT2.out.ext eI) hMl1 (HN.out.ext (hE4.trans eI)) (by decide) hlt (HB.out 0 k)).mono ?_;rw [<-hM2.out,<-hq2.out];rintro e wj ⟨vj,rfl,hj,ej⟩;go_wp2_with fail;exact hK.out _ _ ej ⟨vj,rfl,hj⟩
   obtain⟨x51,s51,j51⟩:=hA 8 51;replace j51:Mn.p (Mn.tmx N M2 q2) x51 wi:=j51;clear hB hA
   ·go_simp;exact q_k hK j51
   obtain⟨x42,s42,j42⟩:=hA 9 42;replace j42:Mn.p (Mn.tmx N M2 q2) x42 wi:=j42;clear hB hA
   ·obtain⟨vj,rfl,hj⟩:=j42;go_simp;exact q_k hK hj
   all_goals clear hB hA; go_simp; exact q_k hK rfl
  ·intro i hs;have hi':i=11:=by simpa using hs
   clear hs
   rcases hi' with rfl
   ·refine sft rfl (fun _ _ _ _ h=>h) ?_;intro ac wi eI hB hA;obtain⟨x42,s42,j42⟩:=hA 9 42;replace j42:Mn.p (Mn.tmx N M2 q2) x42 wi:=j42;clear hB hA;obtain⟨vj,rfl,hj⟩:=j42;refine⟨(.int .i64 (q2:Int)),.inl ⟨rfl,fun w9 _=>?_⟩,rfl⟩;go_simp
  intro vals wz eZ hJ;have J52:Mn.p (Mn.trm N M2) (vals 10) wz:=hJ 10 (by decide) (by decide);have J53:vals 11=_:=hJ 11 (by decide) (by decide);clear hJ;simp only [pr,Nat.reduceAdd,J53];clear J53
  generalize vals 10=z52 at J52 ⊢
  refine qh (i:=12) rfl (by kernel_rfl) (by kernel_rfl) (fun K hK=>?_);go_simp;refine hK.out _ _ ?_;clear hK K;try simp only [nr]
  refine qh (i:=13) rfl (by kernel_rfl) (by kernel_rfl) (fun K hK=>?_);go_simp;refine hK.out _ _ ?_;clear hK K;try simp only [nr]
  refine qi (by kernel_rfl) ?_ _;have HT3:=q_h J52;have HE3:=q_h (HE2.out.trans eZ);have hE5:=hE4.trans eZ;clear J52 eZ a0 a1 a2 a3 hc;obtain⟨w5,hwx⟩:∃ w5,w5=wz:=⟨_,rfl⟩
  subst hwx;have HQ1:Hid (M2[q1]?=some ((Zb S P 1 k:Rat),1+1)):=by rw [Hid,hM2.out]; exact pre_at (Y8 _ _) (by rw [hM1.out,hq1.out]; exact q2u _ _)
  have HQ2:Hid (M2[q2]?=some ((Zb S P 0 k:Rat),1+1)):=by rw [Hid,hM2.out,hq2.out]; exact q2u _ _
  have hMl2:M2.length < 399:=by rw [hM2.out,QX,hM1.out,QX]; omega
  have HL2:Hid (M2.length=M.length+6):=by rw [Hid,hM2.out,QX,hM1.out,QX]
  have HP2:Hid (M <+: M2):=by rw [Hid,hM2.out,hM1.out]; exact (Y8 _ _).trans (Y8 _ _)
  clear hM1 hM2 hq1 hq2 HTM HT2;go_wp2_with (go_at_call 138; refine q_o ?_);refine (VO (z:=VB S P k) HT3.out hMl2 (op:=3) (by decide) (by decide) HQ1.out HQ2.out (by decide) rfl).mono ?_;rintro e w6 ⟨v6,rfl,hT6,hN6,e6⟩;obtain⟨M3,hM3⟩:=qf (M2 ++ [(VB S P k,1+1+(1+1))]);rw [<-hM3.out] at hT6;obtain⟨b6,c6,rfl⟩:=hT6.form;have hb6:=hN6 b6 rfl;have HT6:=q_h hT6;have hE6:=hE5.trans e6;have E36:=q_h (HE3.out.trans e6);have hs35:=HE3.out.size;obtain⟨q6,hq6⟩:=qf M2.length;rw [<-hq6.out];clear hT6 hN6 e6;obtain⟨lx,hlx⟩:=qf (izL (fun j=>(ix j:Int)) k);have HLX:Hid (lx.length=k):=by rw [Hid,hlx.out]; exact hl1
  have HNX:Hid (lx ++ [.int .i64 (q6:Int)]=izL (fun j=>((if j=k then q6 else ix j:Nat):Int)) (k+1)):=by rw [Hid,hlx.out]; exact (q3g ix k q6).symm
  rw [<-hlx.out] at HGq;clear hl1 hlx;go_wp2_with (at_builtin; refine q_o ?_);refine ql ?_;intro w7 e7 hsz7 B7;have hs6:b6 < w7.heap.size:=by have:=hb6.2; omega
  refine kG ZV rfl _ _ 22 Tryz.underlying22 rfl rfl ((HGq.out.ext E36.out).ext e7) (m:=1) (c:=1) (news:=[.int .i64 (q6:Int)]) (by rfl) rfl (QH B7) (fun u hu=>by rw [List.mem_singleton.1 hu]; rfl) (by omega) (by rw [HLX.out]; omega) ?_;rintro g8 cap w8 hG8 hat8 ⟨g9,hlo,hw9,C8,-⟩;rw [HLX.out] at hG8 ⊢;rw [HNX.out] at hG8;have hown:=zh.own_lt HGq.out
  have hg9:b6≠g9:=by
   rcases hw9 with h9 | h9
   ·have:=(hown g9 h9).2; omega
   ·omega
  have hga9:ga≠g9/\ga < w7.heap.size:=by
   have h7:ga < w7.heap.size:=by have:=HGA1.out.1; omega
   refine⟨?_,h7⟩
   rcases hw9 with h9 | h9
   ·intro h8; rw [<-h8] at h9; exact HGA1.out.2 h9
   ·omega
  have hE8:Ext w w8:=C8.ext (hE6.trans e7) (by omega);have E37:=E36.out.trans e7;have B8:=C8.blk (E37.block B2) (by omega);have HT8:=(HT6.out.ext e7).chg C8 (by omega) hg9;have HG8:=q_h hG8;have HAX8:Hid (∀ a,a < 3->w8.cell? ⟨ga,a,none⟩=some (.int .i64 (a:Int))):=fun a ha=>C8.cell (E37.cell (HAX1.out a ha)) (by show ga < g9\/g9+1<=ga; omega)
  have HGA8:Hid (ga < w8.heap.size/\(Value.slice (some ⟨g8,0,none⟩) (k+1) cap).ownBlock≠some ga):=⟨Nat.lt_of_lt_of_le hga9.2 C8.size,by
   intro h8;obtain rfl:g8=ga:=by simpa [Value.ownBlock] using h8
   rcases hat8 with h9 | h9
   ·exact HGA1.out.2 h9
   ·omega⟩
  have HI8:Hid (∀ j,j < k+1->M3[(if j=k then q6 else ix j)]?=some (VB S P j,2+2)):=fun j hj=>by
   rw [hM3.out]
   by_cases hjk:j=k
   ·rw [if_pos hjk,hq6.out,hjk]; exact kP _ _
   ·rw [if_neg hjk]; exact ji _ (pre_at HP2.out (HI1.out j (by omega)))
  have HP8:Hid (L <+: M3):=by rw [Hid,hM3.out]; exact (HP1.out.trans HP2.out).trans (kH _ _)
  have HL8:Hid (M3.length<=L.length+(k+1)*7):=by rw [Hid,hM3.out,zO,HL2.out]; omega
  clear hG8 C8 B7 hat8 hw9 hga9 hg9 HT6 hs6 E37 hs35 hown;go_wp2;go_roundw
  case rel=>exact⟨k+1,fun j=>if j=k then q6 else ix j,b6,c6,M3,by omega,by go_num,rfl,HG8.out,HT8,HP8,HL8.out,HI8,hE8,B8,HAX8,HGA8⟩
  case measure=>simp [intOf]; omega
def sqV (o:Nat->Int) (x:Nat->Rat):Nat->Rat
 | 0=>x 0*x 0
 | k+1=>opF (o k) (sqV o x k) (x (k+1)*x (k+1))
theorem yI {L:List (Rat×Nat)} (h:Trm N w v L) (hl:L.length < 380) {q:Nat->Nat} {x:Nat->Rat} {o:Nat->Int} (hq:∀ j,j < 4->L[q j]?=some (x j,7)) (ho:∀ j,j < 3->2<=o j/\o j<=3) :
  Calls Tryz.prog 186 #[v,.agg #[.int .i64 (q 0:Int),.int .i64 (q 1:Int),.int .i64 (q 2:Int),.int .i64 (q 3:Int)],.agg #[.int .i64 (o 0),.int .i64 (o 1),.int .i64 (o 2)]] w (vP N w L 7 (sqV o x 3,56)):=by
 obtain⟨R,hR⟩:=qf (vP N w L 7 (sqV o x 3,56));rw [<-hR.out];have HT:=q_h h;have HQ:=q_h hq;have HO:=q_h ho;obtain⟨gb,gc,rfl⟩:=h.form;clear h hq ho;go_enter Tryz.func186,Tryz.ntmps186;go_upto_region 1 with (fail);refine zT ?_;intro W0 hE hsz B0 B1;obtain⟨a0,a1,a2,a3,-⟩:=cells4 B0;go_wp2_with (go_at_call 138; refine q_o ?_);refine (p_sq (HT.out.ext hE) (by omega) (HQ.out 0 (by decide)) (by decide)).mono ?_;rintro e w1 ⟨v1,i1,L1,rfl,hT1,hP1,hL1,hI1,hE1⟩;have hE1':=hE.trans hE1
 have HC:Hid (∀ j,j < 4->W0.cell? ⟨w.heap.size,j,none⟩=some (.int .i64 (q j:Int))):=fun j hj=>by
  have:j=0\/j=1\/j=2\/j=3:=by omega
  rcases this with rfl | rfl | rfl | rfl <;> assumption
 have HD:Hid (∀ j,j < 3->W0.cell? ⟨w.heap.size+1,j,none⟩=some (.int .i64 (o j))):=fun j hj=>by
  obtain⟨b0,b1,b2,-⟩:=cells3 B1;have:j=0\/j=1\/j=2:=by omega
  rcases this with rfl | rfl | rfl <;> assumption
 clear a0 a1 a2 a3 B0 B1;obtain⟨b1,c1,rfl⟩:=hT1.form;go_wp2_with fail
 go_loopw [9,8,0] (fun kv sv tv wr=>∃ (k i b c:Nat) (M:List (Rat×Nat)),k<=3/\kv=.int .i64 (k:Int)/\sv=.int .i64 (i:Int)/\tv=.slice (some ⟨b,0,none⟩) M.length c/\Trm N wr tv M/\Hid (L <+: M)/\M.length<=L.length+1+k*2/\Hid (M[i]?=some (sqV o x k,14+k*14))/\Ext W0 wr) (fun kv _ _ _=>3 - (intOf kv).toNat)
 case atStart=>exact⟨0,i1,b1,c1,L1,Nat.zero_le _,rfl,rfl,rfl,hT1,hP1,by omega,hI1,hE1⟩
 case round =>
  obtain⟨k,i,b,c,M,hk,rfl,rfl,rfl,HT2,HP2,hM,HI2,hE2⟩:=hrel
  by_cases hlt:k < 3
  case neg =>
   obtain rfl:k=3:=by omega
   have t1:decide (((3:Nat):Int) < 3)=false:=by decide
   go_wp2
   first | go_ret2 | skip
   rw [hR.out];exact⟨_,i,M,rfl,HT2,HP2.out,by omega,HI2.out,hE.trans hE2⟩
  have t1:decide ((k:Int) < 3)=true:=q_t (by omega);have hk3:(k:Int) < 3:=by omega
  have hk4:(k:Int)+1 < 4:=by omega
  have c0:=hE2.cell (HC.out (k+1) (by omega));have HX:=HQ.out (k+1) (by omega);have HX':=pre_at HP2.out HX;have HXX:=q_h HX';have HO2:=q_h (HO.out k hlt);clear HX HX' hT1 hP1 hI1 hE1 hE1';go_wp2_with (go_at_call 138; refine q_o ?_);refine (p_sq HT2 (by omega) HXX.out (by decide)).mono ?_;rintro e w3 ⟨v3,i3,L3,rfl,hT3,hP3,hL3,hI3,hE3⟩;have c1:=(hE2.trans hE3).cell (HD.out k hlt);clear c0;go_wp2_with (go_at_call 138; refine q_o ?_);refine (Xw (z:=sqV o x (k+1)) hT3 (by omega) HO2.out.1 (by have:=HO2.out.2; omega) (pre_at hP3 HI2.out) hI3 (by omega) rfl).mono ?_;rintro e w4 ⟨v4,i4,L4,rfl,hT4,hP4,hL4,hI4,hE4⟩;obtain⟨b4,c4,rfl⟩:=hT4.form;have HE:=q_h (hE2.trans (hE3.trans hE4));have HP4:=q_h (HP2.out.trans (hP3.trans hP4));rw [show 14+k*14+2*7=14+(k+1)*14 by omega] at hI4;have HI4:=q_h hI4;clear c1 hI4 hP3 hP4 hI3 HI2 HXX;go_wp2;go_roundw
  case rel=>exact⟨k+1,i4,b4,c4,L4,by omega,by go_num,rfl,rfl,hT4,HP4,by omega,HI4,HE.out⟩
  case measure=>simp [intOf]; omega
end Go.Proofs.YtphpkhoeplcedaaGreat
