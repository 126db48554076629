import Derived.Test.YtdeeekdbhhenpaaGreatDoorWc05
import Derived.Lib.AppendZerosOnto
import Derived.Laws.CopyOwn
set_option linter.all false
set_option maxHeartbeats 8000000
set_option maxRecDepth 100000
namespace Go.Proofs.YtdeeekdbhhenpaaGreatDoor
variable {w w':World} {N n lo hi k g i m base c:Nat} {v:Value} {z:Int} {A:Option Addr}
section
open Go.RowKit
theorem wC:One 9 (.string ⟨#[]⟩) 16:=⟨by kernel_rfl,rfl,by omega,by decide⟩
theorem wF:One 27 (.slice none 0 0) 24:=⟨by kernel_rfl,rfl,by omega,by decide⟩
def AppE (ET:TypeId) (base:Nat) (w:World) (v:Value) (xs:List Value) (v':Value) (w':World):Prop:=qw ET base w' v' xs/\(∀k,v'.ownBlock=some k->v.ownBlock=some k\/k=w.heap.size)/\∃g',base<=g'/\(v.ownBlock=some g'\/w.heap.size<=g')/\Chg g' (g'+1) w w'
theorem ve {ET:TypeId}{z0:Value}{bz:Nat}(ho:One ET z0 bz) (t ty:TypeId) (ht:Tryz.prog.underlying t=some (.slice ET)){xs:List Value}(h:qw ET base w v xs){news:List Value}(hl:news.length=m)
  (hnews:0<m->∃b off,A=some ⟨b,off,none⟩/\∀j u,news[j]?=some u->w.cell? ⟨b,off+j,none⟩=some u) (h1:∀u∈news,u.oneCell'=true) (hn:xs.length+m<=1000000000) :
  ∃v' w',(Builtin.append_ #[t,t] ty #[v,.slice A m c]).run Tryz.prog w=.ok v' w'/\AppE ET base w v (xs++news) v' w':=by
 rcases Nat.eq_zero_or_pos m with h0|h0
 ·subst h0;have hq:news=[]:=List.eq_nil_of_length_eq_zero hl;subst hq;obtain⟨i0,hi0,-⟩:=info_parts ho.inf;obtain⟨B,k,rfl,hk⟩:=h.form;refine⟨_,w,kw ht hi0 B xs.length k hk A c w,by rw[List.append_nil];exact h,fun k hk=>.inl hk,?_⟩
  rcases h.2.2 with ⟨h2,h3⟩|⟨g,cap,cur,hv,hb,-⟩
  ·exact⟨w.heap.size,h.1,.inr (q_r),Chg.refl _ _ _⟩
  ·exact⟨g,hb,.inl (by rw[hv];rfl),Chg.refl _ _ _⟩
 ·obtain⟨b,off,rfl,hc⟩:=hnews h0;obtain⟨g,cap,w',hrun,hG,hat,g',hg',ho',hC,-⟩:=xN ho t ty ht h hl hc h1 h0 hn (c:=c);refine⟨_,w',hrun,hG,fun k hk=>?_,g',hg',ho'.imp id (fun h=>by omega),hC⟩;obtain rfl:g=k:=by simpa[Value.ownBlock] using hk
  exact hat
theorem vO {ET:TypeId}{z0:Value}{bz:Nat}(h0:One ET z0 bz){o:Oper}{a:Act}{K:Act->World->Prop}{Q:Exit->Act->World->Prop}(s x:Operand) (t:TypeId) (ht:Tryz.prog.underlying t=some (.slice ET))
  (ho:o.op=.call { callee:=.builtin .append,args:=#[s,x],argTypes:=#[t,t] }){xs:List Value}(hs:a.eval s=v) (h:qw ET base w v xs){news:List Value}(hx:a.eval x=.slice A m c) (hl:news.length=m)
  (hnews:0<m->∃b off,A=some ⟨b,off,none⟩/\∀j u,news[j]?=some u->w.cell? ⟨b,off+j,none⟩=some u) (h1:∀u∈news,u.oneCell'=true) (hn:xs.length+m<=1000000000)
  (hK:∀v' w',AppE ET base w v (xs++news) v' w'->K (a.put o.dst v') w'):o.wp Tryz.prog a w K Q:=by
 obtain⟨v',w',hrun,h2⟩:=ve h0 t o.type ht h hl hnews h1 hn (c:=c);unfold Oper.wp execOp;simp only[ho,resolve,invoke,builtin,Sem.run_bind,Sem.run_pure,Result.andThen_ok,List.map_toArray,List.map_cons,List.map_nil,hs,hx,hrun];exact hK v' w' h2
theorem qX {ET:TypeId}{z0:Value}{bz:Nat}(h0:One ET z0 bz){ops:Array Oper}{rest:List Oper}{o:Oper}{a:Act}{Q:Exit->Act->World->Prop}(hgd:o.guard=none) (s x:Operand) (t:TypeId) (ht:Tryz.prog.underlying t=some (.slice ET))
  (ho:o.op=.call { callee:=.builtin .append,args:=#[s,x],argTypes:=#[t,t] }){xs:List Value}(hs:a.eval s=v) (h:qw ET base w v xs){news:List Value}(hx:a.eval x=.slice A m c) (hl:news.length=m)
  (hnews:0<m->∃b off,A=some ⟨b,off,none⟩/\∀j u,news[j]?=some u->w.cell? ⟨b,off+j,none⟩=some u) (h1:∀u∈news,u.oneCell'=true) (hn:xs.length+m<=1000000000)
  (hK:∀v' w',AppE ET base w v (xs++news) v' w'->wpList Tryz.prog ops Q rest (a.put o.dst v') w'):wpList Tryz.prog ops Q (o :: rest) a w :=
 wpList_plain hgd fun _ hK'=>vO h0 s x t ht ho hs h hx hl hnews h1 hn (fun v' w' a1=>hK' _ _ (hK v' w' a1))
theorem KW (l:List Byt):∀u∈l.map sV,u.oneCell'=true:=by
 intro u hu;obtain⟨b,-,rfl⟩:=List.mem_map.1 hu
 rfl
theorem zF.news{l:List Byt}(h:zF w (.slice A n c) l) (hn:n=l.length):0<n->∃b off,A=some ⟨b,off,none⟩/\∀j u,(l.map sV)[j]?=some u->w.cell? ⟨b,off+j,none⟩=some u:=by
 intro h0;subst hn;obtain⟨g,off,h1,h2⟩:=jT.addr h h0;refine⟨g,off,h1,fun j u hj=>?_⟩;rw[List.getElem?_map,Option.map_eq_some_iff] at hj;obtain⟨b,hb,rfl⟩:=hj;obtain⟨x,h3,rfl⟩:=h2 j (List.getElem?_eq_some_iff.1 hb).1;rw[h3,List.getD_eq_getElem?_getD,hb]
 rfl
theorem ByV.news{l:Byt}(h:ByV w (.slice A n c) l) (hn:n=l.length):0<n->∃b off,A=some ⟨b,off,none⟩/\∀j u,(byC l)[j]?=some u->w.cell? ⟨b,off+j,none⟩=some u:=by
 intro h0;obtain⟨g,off,h1,h2⟩:=h.addr h0;refine⟨g,off,h1,fun j u hj=>?_⟩
 have hjl:j<l.length:=by
  have:=(List.getElem?_eq_some_iff.1 hj).1
  rwa [qA] at this
 rw[h2 j (by omega)];have:=zh hjl;rw[this] at hj;exact hj
def GrS (base:Nat) (w:World) (v:Value) (l:List Byt):Prop:=qw 9 base w v (l.map sV)
theorem qw.cap {ET:TypeId}{base:Nat}{w:World}{v:Value}{xs:List Value}(h:qw ET base w v xs) (hn:xs.length<=maxLen):∃A c,v=.slice A xs.length c/\xs.length<=c/\c<=maxLen:=by
 rcases h.2.2 with ⟨h2,h3⟩|⟨g,cap,cur,hv,hb,-,h3,h4,-⟩
 ·exact⟨none,0,by rw[h3];exact h2,by omega,Nat.zero_le _⟩
 ·exact⟨_,cap,hv,h3,h4⟩
theorem qw.l1 {ET:TypeId}{xs:List Value}(h:qw ET base w v xs) (R:Nat->Value->Prop) (hR:∀i (hi:i<xs.length),R i xs[i]):jT R w v xs.length:=by
 rcases Nat.eq_zero_or_pos xs.length with h0|h0
 ·obtain⟨A,c,h1,h2,h3⟩:=h.cap (by omega);exact⟨A,c,h1,h2,h3,fun h=>by omega⟩
 ·obtain⟨g,cap,h1,h2,h3,h4,h5,-,h6⟩:=h.at_ h0;exact⟨_,cap,h1,h5,h4,fun _=>⟨g,0,rfl,fun i hi=>⟨_,by rw[Nat.zero_add];exact h6 i hi,hR i hi⟩⟩⟩
theorem GrS.strs{l:List Byt}(h:GrS base w v l):zF w v l:=by
 have h9:=qw.l1 h (fun i x=>x=sV (l.getD i [])) (fun i hi=>by
  rw[List.getElem_map,List.getD_eq_getElem?_getD,List.getElem?_eq_getElem (by simpa using hi)]
  rfl)
 rw[List.length_map] at h9;exact h9
def RetS (w:World) (l:List Byt) (e:Ending) (w':World):Prop:=∃v,e=.returned v/\GrS w.heap.size w' v l/\Ext w w'
def Y0 (w:World) (l:Byt) (e:Ending) (w':World):Prop:=∃v,e=.returned v/\GrB w.heap.size w' v l/\Ext w w'
theorem Zl{l:List Byt}(h:zF w v l) (hl:l.length<=1000000):Calls Tryz.prog 114 #[v] w (RetS w l):=by
 obtain⟨Rf,hRf⟩:=qc (RetS w l);rw[<-hRf.out];obtain⟨A,c,rfl,hnc,hcm⟩:=h.form;have HS:=q_h h;obtain⟨n,hn⟩:=qc l.length;rw[<-hn.out] at hnc HS ⊢;clear h;have HL:=q_h hl;clear hl hcm;have hnl:=fun (w:World) (a:Option Addr) (n c:Nat)=>Lib.run_eql_slice_nil (P:=Tryz.prog) w 26 9 a n c 0 0 Tryz.underlying26
 rcases A with _|ad
 ·have h0:n=0:=by
   rcases Nat.eq_zero_or_pos n with h0|h0
   ·exact h0
   ·obtain⟨b,off,h1,-⟩:=zF.news HS.out hn.out h0;cases h1
  have h1:l=[]:=List.eq_nil_of_length_eq_zero (by have:=hn.out;omega);subst h1;go_enter Tryz.func114,Tryz.ntmps114;go_wp2
  first|go_ret|skip
  rw[hRf.out];exact⟨_,rfl,qw.nil (q_r),Ext.refl w⟩
 ·go_enter Tryz.func114,Tryz.ntmps114;go_wp2_with (at_builtin;refine q_o ?_);refine qo ?_;intro W hE hsz B0;refine qX wC rfl _ _ 26 Tryz.underlying26 rfl (by rfl) (qw.empty (q_r) B0) (by rfl) (news:=l.map sV) (by rw[List.length_map];exact hn.out.symm) (zF.news (HS.out.ext hE) hn.out) (KW l) (by have:=HL.out;have:=hn.out;simp;omega) ?_;rintro v2 w2 ⟨hG,-,g',hg',-,C2⟩;have hE2:=C2.ext hE (by omega)
  have HG:Hid (GrS w.heap.size w2 v2 l):=by
   have h9:qw 9 w.heap.size w2 v2 (l.map sV):=by simpa using hG
   exact h9
  clear hG;go_wp2
  first|go_ret|skip
  rw[hRf.out];exact⟨_,rfl,HG.out,hE2⟩
theorem xu{l:Byt}(h:ByV w v l) (hl:l.length<=1000000):Calls Tryz.prog 92 #[v] w (Y0 w l):=by
 obtain⟨Rf,hRf⟩:=qc (Y0 w l);rw[<-hRf.out];obtain⟨A,c,rfl,hnc,hcm⟩:=h.form;have HS:=q_h h;obtain⟨n,hn⟩:=qc l.length;rw[<-hn.out] at hnc HS ⊢;clear h;have HL:=q_h hl;clear hl hcm;have hnl:=fun (w:World) (a:Option Addr) (n c:Nat)=>Lib.run_eql_slice_nil (P:=Tryz.prog) w 27 5 a n c 0 0 Tryz.underlying27
 rcases A with _|ad
 ·have h0:n=0:=by
   rcases Nat.eq_zero_or_pos n with h0|h0
   ·exact h0
   ·obtain⟨b,off,h1,-⟩:=ByV.news HS.out hn.out h0;cases h1
  have h1:l=[]:=List.eq_nil_of_length_eq_zero (by have:=hn.out;omega);subst h1;go_enter Tryz.func92,Tryz.ntmps92;go_wp2
  first|go_ret|skip
  rw[hRf.out];exact⟨_,rfl,qw.nil (q_r),Ext.refl w⟩
 ·go_enter Tryz.func92,Tryz.ntmps92;go_wp2_with (at_builtin;refine q_o ?_);refine qo ?_;intro W hE hsz B0;refine qX jE rfl _ _ 27 Tryz.underlying27 rfl (by rfl) (qw.empty (q_r) B0) (by rfl) (news:=byC l) (by rw[qA];exact hn.out.symm) (ByV.news (HS.out.ext hE) hn.out) (kR l) (by have:=HL.out;have:=hn.out;simp;omega) ?_;rintro v2 w2 ⟨hG,-,g',hg',-,C2⟩;have hE2:=C2.ext hE (by omega)
  have HG:Hid (GrB w.heap.size w2 v2 l):=by
   have h9:qw 5 w.heap.size w2 v2 (byC l):=by simpa using hG
   exact h9
  clear hG;go_wp2
  first|go_ret|skip
  rw[hRf.out];exact⟨_,rfl,HG.out,hE2⟩
theorem GbB.upd{l:Byt}(h:GbB base w v l) (U:Upd g w w'){cs:Array Value}{t:TypeId}{fr:Nat×Nat}(hb:w.heap[g]?=some (.cells cs t fr)) (ht:t≠5):GbB base w' v l:=by
 obtain⟨g0,cap,rfl,h1,⟨cs',fr',h2⟩,h3,h4,h5,h6⟩:=h
 have hne:g0≠g:=by
  rintro rfl;rw[hb] at h2;injection h2 with h2
  injection h2 with h7 h8 h9
  exact ht h8
 have hq:w'.heap[g0]?=w.heap[g0]?:=U.block g0 hne;refine⟨g0,cap,rfl,h1,⟨cs',fr',hq.trans h2⟩,h3,h4,fun i hi=>?_,fun j hj=>?_⟩
 ·rw[World.cell?_of_block (w:=w) hq];exact h5 i hi
 ·rw[World.cell?_of_block (w:=w) hq];refine⟨(h6 j hj).1,?_⟩;have h9:=(h6 j hj).2;unfold World.frozen? at h9 ⊢;rw[hq];exact h9
def YH (w:World) (l:Byt) (e:Ending) (w':World):Prop:=∃c,e=.returned (.agg #[.int .i64 1,.bool false,.slice none 0 0,c,.slice none 0 0])/\GbB w.heap.size w' c l/\Ext w w'
def RetNu (N:Nat) (w:World) (n:Int) (e:Ending) (w':World):Prop:=∃b A m k,e=.returned (.agg #[.int .i64 0,.bool b,.slice A m k,.slice none 0 0,.slice none 0 0])/\xZ N w' (.agg #[.bool b,.slice A m k]) n/\Ext w w'
theorem ku {l:Byt}(hl:l.length<=65536):Calls Tryz.prog 73 #[sV l] w (YH w l):=by
 have hcv:=Jc l;obtain⟨s0,hs0⟩:=qc (sV l);rw[<-hs0.out] at hcv ⊢;go_enter Tryz.func73,Tryz.ntmps73;go_upto_region 1 with (fail);refine qo ?_;intro w1 hE hsz B0;have HG:=q_h (GbB.cnv (base:=w1.heap.size) (w:=w1) (q_r) hl);obtain⟨w2,hw2⟩:=qc (Yz l w1);have HX2:Hid (Ext w1 w2):=by rw[hw2.out];exact JB l w1
 obtain⟨n,hn⟩:=qc l.length;obtain⟨k,hk⟩:=qc (Qq l w1);have hcw:=hcv w1;rw[<-hw2.out,<-hk.out,<-hn.out] at hcw;rw[<-hw2.out,<-hk.out,<-hn.out] at HG;have b0:=HX2.out.block B0;clear hcv;refine wp_region_lit ?_;refine wpList_plain rfl (fun K hK=>?_);go_simp;refine hK _ _ ?_;clear hK K;try simp only[nr]
 refine wpList_plain rfl (fun K hK=>?_);go_simp;refine hK _ _ ?_;clear hK K;try simp only[nr]
 refine wpList_plain rfl (fun K hK=>?_);go_simp;refine hK _ _ ?_;clear hK K;try simp only[nr]
 skip
 refine qf rfl 117 _ _ rfl (by rfl) (by rfl) b0 zy (by rfl) (by rfl) (by rfl) ?_;intro w9 B9 U9;go_wp2;refine bodyPost_ret (results_cell_row rfl _ _ _ _ _ _ _ rfl B9 Tryz.underlying117 rfl zy) rfl ?_;have C9:=U9.chg (NoU.mk b0 (by decide));exact⟨_,rfl,(HG.out.upd U9 b0 (by decide)).mono (by omega),C9.ext (hE.trans HX2.out) (q_r)⟩
theorem kZ:Calls Tryz.prog 71 #[.slice A n k] w (qR w (.agg #[.int .i64 2,.bool false,.slice none 0 0,.slice none 0 0,.slice A n k])):=by
 go_enter Tryz.func71,Tryz.ntmps71;go_upto_region 1 with (fail);refine qo ?_;intro w1 hE hsz B0;refine wp_region_lit ?_;refine wpList_plain rfl (fun K hK=>?_);go_simp;refine hK _ _ ?_;clear hK K;try simp only[nr]
 refine wpList_plain rfl (fun K hK=>?_);go_simp;refine hK _ _ ?_;clear hK K;try simp only[nr]
 refine qf rfl 117 _ _ rfl (by rfl) (by rfl) B0 zy (by rfl) (by rfl) (by rfl) ?_;intro w9 B9 U9;go_wp2;refine bodyPost_ret (results_cell_row rfl _ _ _ _ _ _ _ rfl B9 Tryz.underlying117 rfl zy) rfl ?_;have C9:=U9.chg (NoU.mk B0 (by decide));exact⟨rfl,C9.ext hE (q_r)⟩
theorem jv(hN:N<=w.heap.size) (n:Int) (h1 : -9223372036854775808<=n) (h2:n<=9223372036854775807):Calls Tryz.prog 129 #[.int .i64 n] w (RetNu N w n):=by
 go_enter Tryz.func129,Tryz.ntmps129;go_upto_region 1 with (fail);refine qo ?_;intro w1 hE hsz B0;refine wp_region_lit ?_;refine wpList_plain rfl (fun K hK=>?_);go_simp;refine hK _ _ ?_;clear hK K;try simp only[nr]
 refine wpList_plain rfl (fun K hK0=>?_);have hK:=q_h hK0;clear hK0;go_simp;refine (i_of (N:=N) (q_l hN hE.size) n h1 h2).mono ?_;rintro e w2 ⟨v2,rfl,hI,e2⟩;obtain⟨nb,A,m,c,rfl,hnb,hG,-⟩:=hI.parts;go_wp2_with fail;refine hK.out _ _ ?_;clear hK K;try simp only[nr]
 have b0:=e2.block B0;refine wpList_plain rfl (fun K hK=>?_);go_simp;refine hK _ _ ?_;clear hK K;try simp only[nr]
 refine qf rfl 117 _ _ rfl (by rfl) (by rfl) b0 zy (by rfl) (by rfl) (by rfl) ?_;intro w9 B9 U9;go_wp2;refine bodyPost_ret (results_cell_row rfl _ _ _ _ _ _ _ rfl B9 Tryz.underlying117 rfl zy) rfl ?_;have C9:=U9.chg (NoU.mk b0 (by decide));have HE9:Ext w w9:=C9.ext (hE.trans e2) (q_r);exact⟨_,_,_,_,rfl,hI.upd U9 hN (NoU.mk b0 (by decide)),HE9⟩
end
section
open Go.RowKit
theorem ZW:Cls 117 5 (.agg #[.int .i64 0,.bool false,.slice none 0 0,.slice none 0 0,.slice none 0 0]) 88:=⟨by kernel_rfl,rfl,by omega,by omega,by omega,by decide⟩
section
variable {ET:TypeId}{k:Nat}{z0:Value}{bz:Nat}
theorem qY (hc:Cls ET k z0 bz){xs:List Value}{ops:Array Oper}{o:Oper}{a:Act}{K:Act->World->Prop}{Q:Exit->Act->World->Prop}{E:Prop}(hgd:o.guard=none) (s x:Operand) (t:TypeId) (ht:Tryz.prog.underlying t=some (.slice ET))
  (ho:o.op=.call { callee:=.builtin .append,args:=#[s,x],argTypes:=#[t,t] }) (hs:a.eval s=v) (h:qy ET k base w v n xs){ad:Addr}{news:List Value}(hx:a.eval x=.slice (some ad) m c) (hl:news.length=m*k)
  (hnews:∀j u,news[j]?=some u->w.cell? (ad.add j)=some u) (h1:∀u∈news,u.oneCell'=true) (hn:n+m<=1000000)
  (hK:∀v' w',qy ET k base w' v' (n+m) (xs++news)->(v'.ownBlock=v.ownBlock\/v'.ownBlock=some w.heap.size)->(∃g',base<=g'/\(v.ownBlock=some g'\/g'=w.heap.size)/\Chg g' (g'+1) w w')->K (a.put o.dst v') w') :
  if Region.wanted o (yielded ops a.tmps)=true then Oper.wp Tryz.prog o a w K Q else E:=by
 have hw:Region.wanted o (yielded ops a.tmps)=true:=by simp[Region.wanted,hgd]
 rw[if_pos hw];obtain⟨v',w',hrun,h2,h3,h4⟩:=xO hc t o.type ht h hl hnews h1 hn (c:=c);unfold Oper.wp execOp;simp only[ho,resolve,invoke,builtin,Sem.run_bind,Sem.run_pure,Result.andThen_ok,List.map_toArray,List.map_cons,List.map_nil,hs,hx,hrun];exact hK v' w' h2 h3 h4
theorem qy.ne {q:Nat}{xs:List Value}(h:qy ET k base w v n xs) (hw:v.ownBlock=some g\/g=w.heap.size){cs:Array Value}{t:TypeId}{fr:Nat×Nat}(hk:w.heap[q]?=some (.cells cs t fr)) (ht:t≠ET):q≠g:=by
 rintro rfl;have h9:=qE hk
 rcases hw with hw|hw
 ·rcases h.2.2 with ⟨rfl,h0⟩|⟨g0,cap,cur,rfl,hb,hh,-⟩
  ·simp[Value.ownBlock] at hw
  ·obtain rfl:g0=q:=by simpa[Value.ownBlock] using hw
   rw[hk] at hh;injection hh with hh
   injection hh with h3 h4 h5
   exact ht h4
 ·omega
theorem qy.upd{xs:List Value}(h:qy ET k base w v n xs) (U:Upd g w w') (hg:g<base):qy ET k base w' v n xs:=by
 refine⟨by rw[U.size];exact h.1,h.2.1,?_⟩
 rcases h.2.2 with h0|⟨g0,cap,cur,hv,hb,hh,h1⟩
 ·exact .inl h0
 ·exact .inr ⟨g0,cap,cur,hv,hb,(U.block g0 (by omega)).trans hh,h1⟩
end
theorem GbB.app {ET:TypeId}{b0:Nat}{u:Value}{xs:List Value}{l:Byt}(h:GbB b0 w u l) (hG:qy ET k base w v n xs) (ht:5≠ET) (hw:v.ownBlock=some g\/g=w.heap.size) (C:Chg g (g+1) w w'):GbB b0 w' u l:=by
 obtain⟨g0,cap,rfl,h1,⟨cs',fr',h2⟩,h3,h4,h5,h6⟩:=h;have hne:=hG.ne hw h2 ht;have h9:w'.heap[g0]?=w.heap[g0]?:=C.block g0 (qE h2) (by omega);refine⟨g0,cap,rfl,h1,⟨cs',fr',h9.trans h2⟩,h3,h4,fun i hi=>?_,fun j hj=>?_⟩
 ·rw[World.cell?_of_block (w:=w) h9];exact h5 i hi
 ·rw[World.cell?_of_block (w:=w) h9];refine⟨(h6 j hj).1,?_⟩;have h8:=(h6 j hj).2;unfold World.frozen? at h8 ⊢;rw[h9];exact h8
def txC (C:Nat->Value) (i:Nat):List Value:=(List.range i).flatMap fun j=>[.int .i64 1,.bool false,.slice none 0 0,C j,.slice none 0 0]
def upC (C:Nat->Value) (i:Nat) (c:Value) (j:Nat):Value:=if j=i then c else C j
theorem Q7 (C:Nat->Value) (i:Nat) (c:Value):txC C i ++ [.int .i64 1,.bool false,.slice none 0 0,c,.slice none 0 0]=txC (upC C i c) (i+1):=by
 unfold txC;rw[List.range_succ,List.flatMap_append]
 congr 1
 ·unfold List.flatMap;rw[List.map_congr_left (fun j hj=>?_)];unfold upC;rw[if_neg (by have:=List.mem_range.1 hj;omega)]
 ·unfold upC
  simp
theorem yu (C:Nat->Value):∀n,(txC C n).length=n*5
 | 0=>rfl
 | n+1=>by
  unfold txC;rw[List.range_succ,List.flatMap_append,List.length_append];have:=yu C n;unfold txC at this;rw[this]
  simp
  omega
theorem Za (C:Nat->Value) (q:Nat) (hq:q<5):∀n i,i<n->(txC C n)[i*5+q]?=[Value.int .i64 1,.bool false,.slice none 0 0,C i,.slice none 0 0][q]?
 | n+1,i,h=>by
  have e:=Q7 C n (C n)
  have e2:upC C n (C n)=C:=by
   funext j
   unfold upC
   by_cases h:j=n
   ·rw[if_pos h,h]
   ·rw[if_neg h]
  rw[e2] at e;rw[<-e]
  by_cases h2:i<n
  ·rw[List.getElem?_append_left (by rw[yu];omega)];exact Za C q hq n i h2
  ·obtain rfl:i=n:=by omega
   rw[List.getElem?_append_right (by rw[yu];omega),yu,Nat.add_sub_cancel_left]
theorem VlL.of {nn:Bool}:∀(vs:List Vl) (g off:Nat),(∀i,i<vs.length->∃c0 c1 c2 c3 c4,w.cell? ⟨g,off+i*5,none⟩=some c0/\w.cell? ⟨g,off+i*5+1,none⟩=some c1/\w.cell? ⟨g,off+i*5+2,none⟩=some c2/\w.cell? ⟨g,off+i*5+3,none⟩=some c3/\w.cell? ⟨g,off+i*5+4,none⟩=some c4/\VlV nn N w (vs[i]?.getD default) (.agg #[c0,c1,c2,c3,c4]))->VlL nn N w vs g off
 | [],_,_,_=>by unfold VlL;trivial
 | v :: r,g,off,h=>by
  unfold VlL;refine⟨?_,VlL.of r g (off+5) (fun i hi=>?_)⟩
  ·have:=h 0 (by simp);simpa using this
  ·have:=h (i+1) (by simp;omega);have e:off+(i+1)*5=off+5+i*5:=by omega
   rw[e] at this;simpa using this
def TxL (b3 i:Nat) (l:List Byt) (A:Option Addr) (k:Nat) (w:World):Prop:=w.heap[b3]?=some (.cells #[.int .i64 2,.bool false,.slice none 0 0,.slice none 0 0,.slice A i k] 117 (0,0))/\∃C:Nat->Value,qy 117 5 (b3+1) w (.slice A i k) i (txC C i)/\∀j,j<i->GbB 0 w (C j) (l.getD j [])
theorem TxL.done {b3:Nat}{l:List Byt}(h:TxL b3 n l A k w) (hn:n=l.length):VlV true N w (.lst (l.map .txt)) (.agg #[.int .i64 2,.bool false,.slice none 0 0,.slice none 0 0,.slice A n k]):=by
 obtain⟨h1,C,h2,h3⟩:=h
 have hcap:n<=k/\k<=maxLen:=by
  rcases h2.2.2 with ⟨h4,h5⟩|⟨g,cap,cur,hv,hb,-,h4,h5,-⟩
  ·injection h4 with _ _ h6
   subst h6;exact⟨by omega,Nat.zero_le _⟩
  ·injection hv with _ _ h6
   subst h6;exact⟨h4,h5⟩
 unfold VlV;refine⟨_,_,A,k,by rw[List.length_map,<-hn],⟨_,_,rfl⟩,⟨_,_,rfl⟩,by rw[List.length_map,<-hn];exact hcap.1,hcap.2,fun h0=>?_⟩;rw[List.length_map,<-hn] at h0;obtain⟨g,cap,hv,hb,hnc,hcm,hcell⟩:=h2.at_ h0;injection hv with e1 e2 e3
 refine⟨g,0,e1,VlL.of _ g 0 (fun i hi=>?_)⟩;rw[List.length_map,<-hn] at hi
 have hc:∀q,q<5->∀u,[Value.int .i64 1,.bool false,.slice none 0 0,C i,.slice none 0 0][q]?=some u->w.cell? ⟨g,0+i*5+q,none⟩=some u:=fun q hq u hu=>by
  rw[Nat.zero_add];exact hcell _ u ((Za C q hq n i hi).trans hu)
 refine⟨_,_,_,_,_,hc 0 (by omega) _ rfl,hc 1 (by omega) _ rfl,hc 2 (by omega) _ rfl,hc 3 (by omega) _ rfl,hc 4 (by omega) _ rfl,?_⟩;have hg:=h3 i hi;obtain⟨g0,cap0,hv0,-,hlt,-⟩:=hg.form;rw[List.getElem?_map,List.getElem?_eq_getElem (by omega)];rw[List.getD_eq_getElem?_getD,List.getElem?_eq_getElem (by omega)] at hg hv0
 show VlV true N w (.txt l[i]) _
 unfold VlV;exact⟨_,_,_,rfl,⟨_,_,rfl⟩,⟨hg.by,fun _=>⟨_,_,hv0,hlt⟩⟩,⟨_,_,rfl⟩⟩
theorem TxL.upd {b3:Nat}{l:List Byt}(h:TxL b3 i l A k w) (U:Upd g w w'){cs:Array Value}{fr:Nat×Nat}(hb:w.heap[g]?=some (.cells cs 117 fr)) (hg:g<b3):TxL b3 i l A k w':=by
 obtain⟨h1,C,h2,h3⟩:=h;exact⟨(U.block b3 (by omega)).trans h1,C,h2.upd U (by omega),fun j hj=>(h3 j hj).upd U hb (by decide)⟩
theorem zF.at_{l:List Byt}(h:zF w (.slice A n c) l) (hn:n=l.length) (h0:0<n):∃g off,A=some ⟨g,off,none⟩/\∀i,i<n->w.cell? ⟨g,off+i,none⟩=some (sV (l.getD i [])):=by
 subst hn;obtain⟨g,off,h1,h2⟩:=jT.addr h h0;exact⟨g,off,h1,fun i hi=>by obtain⟨x,h3,rfl⟩:=h2 i hi;exact h3⟩
theorem zO{cs:Array Value}{t:TypeId}{fr:Nat×Nat}(h:w.heap[g]?=some (.cells cs t fr)) (j:Nat):w.cell? ((⟨g,0,none⟩:Addr).add j)=cs[j]?:=by
 rw[qP,Nat.zero_add,qh h]
def RetLk (w:World) (l:List Byt) (e:Ending) (w':World):Prop:=∃A n k,e=.returned (.agg #[.int .i64 2,.bool false,.slice none 0 0,.slice none 0 0,.slice A n k])/\(∀N,VlV true N w' (.lst (l.map .txt)) (.agg #[.int .i64 2,.bool false,.slice none 0 0,.slice none 0 0,.slice A n k]))/\Ext w w'
theorem yV {o:Ob}{x y:Value}(h:ObR w x y o) (hl:o.links.length<=1000) (hb:∀s∈o.links,s.length<=65536):Calls Tryz.prog 72 #[.agg #[x,y]] w (RetLk w o.links):=by
 obtain⟨hS,hD⟩:=h;obtain⟨l,hll⟩:=qc o.links;rw[<-hll.out] at hS hl hb ⊢;obtain⟨A0,c0,rfl,hnc,-⟩:=hS.form;obtain⟨A9,c9,rfl,-⟩:=hD.form;obtain⟨n,hn⟩:=qc l.length;rw[<-hn.out] at hS hnc;have HS:=q_h hS;have HB:=q_h hb;have HL:Hid (n<=1000):=by rw[Hid,hn.out];exact hl
 clear hS hb hl;rw[<-hn.out];go_enter Tryz.func72,Tryz.ntmps72;go_upto_region 1 with (fail);refine zk ?_;intro w1 hE hsz B0 B1;obtain⟨p0,p1,-⟩:=cells2 B0;have HB0:=q_h B0;go_wp2_with (go_at_call 71;refine q_o ?_);refine kZ.mono ?_;rintro e w2 ⟨rfl,e2⟩;clear p0 p1;obtain⟨p0,p1,-⟩:=cells2 (e2.block HB0.out);go_upto_region 2 with (fail);refine qo ?_;intro w3 hE3 hsz3 B3;obtain⟨b3,hb3⟩:=qc w2.heap.size;obtain⟨b2,hb2⟩:=qc (w.heap.size+1);rw[<-hb3.out] at B3 ⊢;rw[<-hb2.out];clear p0 p1;obtain⟨p0,p1,-⟩:=cells2 (hE3.block (e2.block HB0.out))
 have HB2:Hid (w3.heap[b2]?=some (.cells #[.int .i64 0,.bool false,.slice none 0 0,.slice none 0 0,.slice none 0 0] 117 (0,0))):=by
  rw[Hid,hb2.out];exact hE3.block (e2.block B1)
 have H23:Hid (b2<b3/\w.heap.size<=b2/\b3<w3.heap.size):=by
  have:=e2.size;have:=hb2.out;have:=hb3.out;rw[Hid];omega
 have HX0:=q_h ((hE.trans e2).trans hE3);have HL0:Hid (TxL b3 0 l none 0 w3):=⟨B3,fun _=>.int .i64 0,⟨by have:=H23.out;omega,rfl,.inl ⟨rfl,rfl⟩⟩,fun j hj=>by omega⟩
 clear B0 B1 HB0 e2 hE hE3 B3 hsz hsz3;go_wp2_with fail;clear p0 p1
 go_loopw [10] (fun iv wr=>∃(i:Nat) (A:Option Addr) (k:Nat),i<=n/\iv=.int .i64 (i:Int)/\Hid (TxL b3 i l A k wr)/\Hid (Ext w wr)/\Hid (wr.heap[b2]?=some (.cells #[.int .i64 0,.bool false,.slice none 0 0,.slice none 0 0,.slice none 0 0] 117 (0,0)))) (fun iv _=>n-(intOf iv).toNat)
 case atStart=>exact⟨0,none,0,Nat.zero_le _,rfl,HL0,HX0,HB2⟩
 case round =>
  clear HL0 HX0 HB2;obtain⟨i,A,k,hi9,rfl,HLI,HX,HB2⟩:=hrel
  by_cases hlt:i<n
  case neg =>
   have u1:decide ((i:Int)<(n:Int))=false:=q_f (by omega);have u1':decide (i<n)=false:=q_f hlt
   have HLN:Hid (TxL b3 n l A k wr):=by
    rw[show n=i by omega];exact HLI.out
   have B3:=HLN.out.1;obtain⟨q0,q1,q2,q3,q4⟩:=qC B3;go_upto_region 7 with (fail);refine wp_region_lit ?_;refine wpList_plain rfl (fun K hK=>?_);go_simp;refine hK _ _ ?_;clear hK K;try simp only[nr]
   refine qf rfl 117 _ _ rfl (by rfl) (by rfl) HB2.out zy (by rfl) (by rfl) (by rfl) ?_;intro w9 B9 U9;go_wp2;refine bodyPost_ret (results_cell_row rfl _ _ _ _ _ _ _ rfl B9 Tryz.underlying117 rfl zy) rfl ?_;have C9:=U9.chg (NoU.mk HB2.out (by decide));exact⟨A,n,k,rfl,fun N=>(HLN.out.upd U9 HB2.out H23.out.1).done hn.out,C9.ext HX.out H23.out.2.1⟩
  have u1:decide ((i:Int)<(n:Int))=true:=q_t (by omega);have u1':decide (i<n)=true:=q_t hlt;have u2:(i:Int)<(n:Int):=by omega
  have hil:i<l.length:=by have:=hn.out;omega
  obtain⟨g,off,rfl,hx⟩:=zF.at_ (HS.out.ext HX.out) hn.out (by omega);have k0:=hx i hlt;obtain⟨s0,hs0⟩:=qc (sV (l.getD i []));rw[<-hs0.out] at k0
  have HW:Hid (∀w5,Calls Tryz.prog 73 #[s0] w5 (YH w5 (l.getD i []))):=fun w5=>by
   rw[hs0.out];refine ku ?_;rw[List.getD_eq_getElem?_getD,List.getElem?_eq_getElem hil];exact HB.out _ (List.getElem_mem hil)
  obtain⟨B3,C,hG,hC⟩:=HLI.out;have HG:=q_h hG;have HC:=q_h hC;have HB3:=q_h B3;have q4:wr.cell? ⟨b3,4,none⟩=some (.slice A i k):=(qh B3 4).trans rfl;obtain⟨wq,hwq⟩:∃wq,wq=wr:=⟨_,rfl⟩
  subst hwq;clear hx hG hC B3 HLI hil;go_upto_region 5 with (fail);have eC:=(Ext.refl wq).drew.cell q4;refine qj (fun w'=>w'.cell? ⟨b3,4,none⟩=some (.slice A i k)) [7] (by kernel_rfl) (by exact eC) (fun hHeld=>?_);refine sP 0 (h:=?_);refine sT 1 (h:=?_);refine sP 2 (h:=?_);refine qg (i:=3) rfl (by kernel_rfl) (fun K hK=>?_);go_simp;refine (HW.out _).mono ?_;rintro e w5 ⟨c,rfl,hG5,e5⟩;have HG5:=q_h (hG5.mono (Nat.zero_le _));obtain⟨g5,cap5,rfl,-⟩:=hG5.form;have HE5:Hid (Ext wq w5):=(Ext.refl wq).drew.trans e5;replace eC:=e5.cell eC;clear hG5 e5;go_wp2_with fail;clear hHeld;refine hK.out _ _ (by exact eC) fun hHeld=>?_
  clear hK K;try simp only[nr]
  refine qg (i:=4) rfl (by kernel_rfl) (fun K hK=>?_);go_simp
  first|refine qo ?_|refine qU ?_
  intro w6 e6 hsz6 BJ;have HE6:=q_h (HE5.out.trans e6);have HG6:=q_h (HG5.out.ext e6);replace eC:=e6.cell eC;clear HG5;clear hHeld;refine hK.out _ _ (by exact eC) fun hHeld=>?_
  clear hK K;try simp only[nr]
  refine qg (i:=5) rfl (by kernel_rfl) (fun K hK=>?_);refine qY ZW rfl _ _ 115 Tryz.underlying115 rfl (by rfl) (HG.out.ext HE6.out) (by rfl) (news:=[.int .i64 1,.bool false,.slice none 0 0,_,.slice none 0 0]) rfl (fun j u hj=>(zO BJ j).trans (by simpa using hj)) (by simp[Value.oneCell']) (by have:=HL.out;omega) ?_;rintro v7 w7 hG7 - ⟨g7,hg7,hw7,C7⟩;obtain⟨A7,c7,rfl⟩:=hG7.form;replace eC:=C7.cell eC (.inl (by show b3<g7;omega));have HB7:=q_h (C7.blk (HE6.out.block HB3.out) (.inl (by omega)));have HG7:=q_h hG7
  have HC7:Hid (∀j,j<i+1->GbB 0 w7 (upC C i _ j) (l.getD j [])):=fun j hj=>by
   unfold upC
   by_cases h9:j=i
   ·rw[if_pos h9,h9];exact HG6.out.app (HG.out.ext HE6.out) (by decide) hw7 C7
   ·rw[if_neg h9];exact ((HC.out j (by omega)).ext HE6.out).app (HG.out.ext HE6.out) (by decide) hw7 C7
  have HX7:Hid (Ext w w7):=C7.ext (HX.out.trans HE6.out) (by have:=H23.out;omega);have HB27:=q_h (C7.blk (HE6.out.block HB2.out) (.inl (by have:=H23.out;omega)));clear hG7 hw7 C7 BJ;clear hHeld;refine hK.out _ _ (by exact eC) fun hHeld=>?_
  clear hK K;try simp only[nr]
  refine sP 6 (h:=?_);refine qF (i:=7) rfl (by kernel_rfl) (by kernel_rfl) (fun K hK=>?_);obtain⟨w8,E8,B8,U8⟩:=qI HB7.out 4 (.slice A7 (i+1) c7);have f0:=qm HB7.out 4;go_simp
  (try rw[E8])
  refine hK.out _ _ ?_;clear hK K;try simp only[nr]
  refine ql (by kernel_rfl) ?_ _;clear hHeld
  have HL8:Hid (TxL b3 (i+1) l A7 c7 w8):=by
   refine⟨B8,_,(Q7 C i _) ▸ (HG7.out.upd U8 (by omega)),fun j hj=>(HC7.out j hj).upd U8 HB7.out (by decide)⟩
  have HX8:Hid (Ext w w8):=(U8.chg (NoU.mk HB7.out (by decide))).ext HX7.out (by have:=H23.out;omega);have HB28:Hid (w8.heap[b2]?=some (.cells #[.int .i64 0,.bool false,.slice none 0 0,.slice none 0 0,.slice none 0 0] 117 (0,0))):=(U8.block b2 (by have:=H23.out;omega)).trans HB27.out;clear HG7 HC7 HX7 HB27 HB7 B8 U8 E8 HG6 HE6 HE5 HW k0 q4
  (try clear eC)
  have hL9:=HL.out;go_wp2;go_roundw
  case rel=>exact⟨i+1,A7,c7,by omega,by go_num,HL8,HX8,HB28⟩
  case measure=>simp[intOf];omega
end
section
open Go.RowKit
theorem zG{l:Byt}(h:ByV w v l) (hl:l.length<=1000000):Calls Tryz.prog 121 #[v] w (qR w (.int .i64 (pgN l:Int))):=by
 obtain⟨A,c,rfl,-⟩:=h;obtain⟨n,hn⟩:=qc l.length;obtain⟨r,hr⟩:=qc ((pgN l:Int));rw[<-hn.out,<-hr.out];have hnl:n<=1000000:=by rw[hn.out];exact hl
 have t1:IntKind.i64.wrap (4+(n:Int))=4+(n:Int):=wrp (by omega) (by omega);have t2:IntKind.i64.wrap (4+(n:Int)+64)=4+(n:Int)+64:=wrp (by omega) (by omega);have t3:IntKind.i64.wrap (4+(n:Int)+64-1)=4+(n:Int)+64-1:=wrp (by omega) (by omega);have t4:(4+(n:Int)+64-1) / 64=r:=by rw[hr.out,hn.out];unfold pgN;omega
 have t5:(4+(n:Int)+64-1).tdiv 64=r:=by rw[Int.tdiv_eq_ediv_of_nonneg (by omega)];exact t4
 have t6:IntKind.i64.wrap r=r:=wrp (by omega) (by omega);clear hr;go_enter Tryz.func121,Tryz.ntmps121;go_wp2
 first|go_ret|skip
 exact⟨rfl,Ext.refl _⟩
theorem wR {n:Int}(h1:0<=n) (h2:n<=1000000) : -1<=qV n/\qV n<=1000000:=by
 unfold qV
 by_cases h:2<=n
 ·rw[Int.tdiv_eq_ediv_of_nonneg (by omega)];omega
 ·have:n=0\/n=1:=by omega
  rcases this with rfl|rfl<;>decide
theorem KZ {n:Int}(h1:0<=n) (h2:n<=1000000) (w:World):Calls Tryz.prog 87 #[.int .i64 n] w (qR w (.int .i64 (qV n))):=by
 obtain⟨r,hr⟩:=qc (qV n);rw[<-hr.out];have t1:IntKind.i64.wrap (n-2)=n-2:=wrp (by omega) (by omega);have t2:(n-2).tdiv 2=r:=hr.out.symm;have hb:=wR h1 h2;have t3:IntKind.i64.wrap r=r:=wrp (by rw[hr.out];omega) (by rw[hr.out];omega);clear hb;clear hr;go_enter Tryz.func87,Tryz.ntmps87;go_wp2
 first|go_ret|skip
 exact⟨rfl,Ext.refl _⟩
theorem Y7 {l:Byt}(hz:z=chZ l i):KJ (l.getD i 0)=((decide (97<=z)&&decide (z<=122))||(decide (48<=z)&&decide (z<=57))||decide (z=46)||decide (z=45)):=by
 unfold chZ at hz;unfold KJ isLow;rw[hz,Bool.eq_iff_iff];simp only[Bool.or_eq_true,Bool.and_eq_true,decide_eq_true_eq,beq_iff_eq];omega
def tgB0 (l:Byt):Bool:=match l with|[]=>false|c :: _=>isLow c&&(l.length<=24&&l.all KJ)
theorem Jp (l:Byt):XX l=(QS l||tgB0 l):=by
 unfold XX tgB0;cases l<;>rfl
theorem KU {l:Byt}(h:0<l.length):tgB0 l=(isLow (l.getD 0 0)&&(decide (l.length<=24)&&l.all KJ)):=by
 cases l with
 | nil=>exact absurd h (Nat.not_lt_zero 0)
 | cons c r=>rfl
theorem Zc (s:ByteArray):s.toList.isEmpty=decide (s.size=0):=by
 rw[ByteArray.toList_eq,Bool.eq_iff_iff,decide_eq_true_eq,List.isEmpty_iff_length_eq_zero,Array.length_toList]
 rfl
theorem vU (s:ByteArray) (hs:s.size<=9223372036854775807) (w:World):Calls Tryz.prog 115 #[.string s] w (qR w (.bool (XX (xC s)))):=by
 rw[Jp];obtain⟨a,ha⟩:=qc (QS (xC s));obtain⟨r,hr⟩:=qc (tgB0 (xC s));rw[<-ha.out,<-hr.out];have hem:=Zc s;obtain⟨n,hn⟩:=qc s.size;have HN:Hid ((xC s).length=n):=by rw[Hid,hn.out];exact kY s
 go_enter Tryz.func115,Tryz.ntmps115;go_wp2_with (go_at_call 68;refine q_o ?_);refine (vJ s hs w).mono ?_;rintro e w1 ⟨rfl,e1⟩;rw[<-ha.out];cases a with
 | true =>
  go_wp2
  first|go_ret|skip
  exact⟨rfl,e1⟩
 | false =>
 by_cases h0:s.size=0
 ·have u0:decide (s.size=0)=true:=q_t h0;rw[u0] at hem
  have HR:Hid (r=false):=by
   rw[Hid,hr.out];have e9:xC s=[]:=List.eq_nil_of_length_eq_zero (by rw[kY];exact h0);rw[e9];rfl
  clear u0 h0;go_wp2
  first|go_ret|skip
  rw[HR.out];exact⟨rfl,e1⟩
 have u0:decide (s.size=0)=false:=q_f h0;rw[u0] at hem;have hpos:0<s.size:=by omega
 have HR:Hid (r=(isLow ((xC s).getD 0 0)&&(decide (n<=24)&&(xC s).all KJ))):=by
  rw[Hid,hr.out,KU (by rw[kY];exact hpos),HN.out]
 obtain⟨c,hc⟩:=qc (chZ (xC s) 0)
 have hix0:∀w,(Instr.index 9 (.string s) (.int .i64 0)).run Tryz.prog w=.ok (.int .u8 c) w:=by
  have h9:=y9 (s:=s) (i:=0) (k:=.i64) hpos;rw[<-hc.out] at h9;exact h9
 have HLW:Hid (isLow ((xC s).getD 0 0)=(decide (97<=c)&&decide (c<=122))):=by
  rw[Hid,hc.out];unfold isLow chZ;rw[Bool.eq_iff_iff];simp only[Bool.and_eq_true,decide_eq_true_eq];omega
 rw[HLW.out] at HR;have hnn:n=s.size:=hn.out;clear u0 h0 hr hn
 by_cases h24:24<s.size
 ·have u1:decide ((24:Int)<(s.size:Int))=true:=q_t (by omega);have u1':decide (24<s.size)=true:=q_t h24;have HX:Hid (r=false):=by rw[Hid,HR.out,(q_f (by omega):decide (n<=24)=false),Bool.false_and,Bool.and_false]
  clear h24 hnn;go_wp2
  first|go_ret|skip
  rw[HX.out];exact⟨rfl,e1⟩
 have u1:decide ((24:Int)<(s.size:Int))=false:=q_f (by omega);have u1':decide (24<s.size)=false:=q_f h24
 by_cases hl1:c<97
 ·have u2:decide (c<97)=true:=q_t hl1;have HX:Hid (r=false):=by rw[Hid,HR.out,(q_f (by omega):decide (97<=c)=false),Bool.false_and,Bool.false_and]
  clear h24 hnn hl1;go_wp2
  first|go_ret|skip
  rw[HX.out];exact⟨rfl,e1⟩
 have u2:decide (c<97)=false:=q_f hl1
 by_cases hl2:122<c
 ·have u3:decide (122<c)=true:=q_t hl2;have HX:Hid (r=false):=by rw[Hid,HR.out,(q_f (by omega):decide (c<=122)=false),Bool.and_false,Bool.false_and]
  clear h24 hnn hl1 hl2;go_wp2
  first|go_ret|skip
  rw[HX.out];exact⟨rfl,e1⟩
 have u3:decide (122<c)=false:=q_f hl2
 have HA:Hid (r=(xC s).all KJ):=by
  rw[Hid,HR.out,(q_t (by omega):decide (97<=c)=true),(q_t (by omega):decide (c<=122)=true),(q_t (by omega):decide (n<=24)=true)]
  rfl
 have hn24:s.size<=24:=by omega
 clear h24 hl1 hl2 HR HLW;go_wp2_with fail
 go_loopw [26] (fun iv wr=>∃i:Nat,i<=s.size/\iv=.int .i64 (i:Int)/\Hid (∀j,j<i->KJ ((xC s).getD j 0)=true)/\wr=w1) (fun iv _=>s.size-(intOf iv).toNat)
 case atStart=>exact⟨0,Nat.zero_le _,rfl,fun j hj=>absurd hj (Nat.not_lt_zero j),rfl⟩
 case round =>
  clear hix0;obtain⟨i,hi9,rfl,HI,rfl⟩:=hrel
  by_cases hlt:i<s.size
  case neg =>
   have v1:decide ((i:Int)<(s.size:Int))=false:=q_f (by omega);have v1':decide (i<s.size)=false:=q_f hlt
   have HX:Hid (r=true):=by
    rw[Hid,HA.out];exact QC (n:=i) HI.out (by rw[HN.out];omega)
   go_wp2
   first|go_ret|skip
   rw[HX.out];exact⟨rfl,e1⟩
  have v1:decide ((i:Int)<(s.size:Int))=true:=q_t (by omega);have v1':decide (i<s.size)=true:=q_t hlt;obtain⟨z,hz⟩:=qc (chZ (xC s) i);have hix:=y9 (s:=s) (i:=i) (k:=.i64) hlt;rw[<-hz.out] at hix;have HH:=q_h (Y7 hz.out)
  by_cases hhx:KJ ((xC s).getD i 0)=true
  case neg =>
   have HX:Hid (r=false):=by
    rw[Hid,HA.out];exact KF (i:=i) (by rw[HN.out];omega) (by simpa using hhx)
   rw[HH.out] at hhx;simp only[Bool.or_eq_true,Bool.and_eq_true,decide_eq_true_eq] at hhx;have w5:(z != 46)=true:=by simp;omega
   have w6:(z != 45)=true:=by simp;omega
   by_cases h1:z<97
   ·have x1:decide (z<97)=true:=q_t h1
    by_cases h3:z<48
    ·have x3:decide (z<48)=true:=q_t h3;clear hhx h1 h3;go_wp2
     first|go_ret|skip
     rw[HX.out];exact⟨rfl,e1⟩
    have x3:decide (z<48)=false:=q_f h3;have x4:decide (57<z)=true:=q_t (by omega);clear hhx h1 h3;go_wp2
    first|go_ret|skip
    rw[HX.out];exact⟨rfl,e1⟩
   have x1:decide (z<97)=false:=q_f h1;have x2:decide (122<z)=true:=q_t (by omega);have x3:decide (z<48)=false:=q_f (by omega);have x4:decide (57<z)=true:=q_t (by omega);clear hhx h1;go_wp2
   first|go_ret|skip
   rw[HX.out];exact⟨rfl,e1⟩
  have HI2:Hid (∀j,j<i+1->KJ ((xC s).getD j 0)=true):=fun j hj=>by
   by_cases hji:j=i
   ·rw[hji];exact hhx
   ·exact HI.out j (by omega)
  rw[HH.out] at hhx;simp only[Bool.or_eq_true,Bool.and_eq_true,decide_eq_true_eq] at hhx
  by_cases h1:z<97
  ·have x1:decide (z<97)=true:=q_t h1
   by_cases h3:z<48
   ·have x3:decide (z<48)=true:=q_t h3
    by_cases h5:z=46
    ·have x5:(z != 46)=false:=by simp[h5]
     clear hhx h1 h3 h5;go_wp2;go_roundw
     case rel=>exact⟨i+1,by omega,by go_num,HI2,trivial⟩
     case measure=>simp[intOf];omega
    have x5:(z != 46)=true:=by simp[h5]
    have x6:(z != 45)=false:=by simp;omega
    clear hhx h1 h3 h5;go_wp2;go_roundw
    case rel=>exact⟨i+1,by omega,by go_num,HI2,trivial⟩
    case measure=>simp[intOf];omega
   have x3:decide (z<48)=false:=q_f h3;have x4:decide (57<z)=false:=q_f (by omega);clear hhx h1 h3;go_wp2;go_roundw
   case rel=>exact⟨i+1,by omega,by go_num,HI2,trivial⟩
   case measure=>simp[intOf];omega
  have x1:decide (z<97)=false:=q_f h1;have x2:decide (122<z)=false:=q_f (by omega);clear hhx h1;go_wp2;go_roundw
  case rel=>exact⟨i+1,by omega,by go_num,HI2,trivial⟩
  case measure=>simp[intOf];omega
theorem lst2V {nn:Bool}{V1 V2:Vl}{a0 a1 a2 a3 a4 b0 b1 b2 b3 b4:Value}{t:TypeId}{fr:Nat×Nat}(hb:w.heap[g]?=some (.cells #[a0,a1,a2,a3,a4,b0,b1,b2,b3,b4] t fr))
  (h1:VlV nn N w V1 (.agg #[a0,a1,a2,a3,a4])) (h2:VlV nn N w V2 (.agg #[b0,b1,b2,b3,b4])):VlV nn N w (.lst [V1,V2]) (.agg #[.int .i64 2,.bool false,.slice none 0 0,.slice none 0 0,.slice (some ⟨g,0,none⟩) 2 2]):=by
 have hc:∀j,w.cell? ⟨g,j,none⟩=(#[a0,a1,a2,a3,a4,b0,b1,b2,b3,b4]:Array Value)[j]?:=qh hb;unfold VlV;refine⟨_,_,_,2,rfl,⟨_,_,rfl⟩,⟨_,_,rfl⟩,q_r,by unfold maxLen;omega,fun _=>⟨g,0,rfl,?_⟩⟩;unfold VlL;refine⟨⟨a0,a1,a2,a3,a4,hc 0,hc 1,hc 2,hc 3,hc 4,h1⟩,?_⟩;unfold VlL;refine⟨⟨b0,b1,b2,b3,b4,hc 5,hc 6,hc 7,hc 8,hc 9,h2⟩,?_⟩;unfold VlL
 trivial
theorem Yh {nn:Bool}{V1 V2 V3:Vl}{a0 a1 a2 a3 a4 b0 b1 b2 b3 b4 c0 c1 c2 c3 c4:Value}{t:TypeId}{fr:Nat×Nat}(hb:w.heap[g]?=some (.cells #[a0,a1,a2,a3,a4,b0,b1,b2,b3,b4,c0,c1,c2,c3,c4] t fr))
  (h1:VlV nn N w V1 (.agg #[a0,a1,a2,a3,a4])) (h2:VlV nn N w V2 (.agg #[b0,b1,b2,b3,b4])) (h3:VlV nn N w V3 (.agg #[c0,c1,c2,c3,c4])):VlV nn N w (.lst [V1,V2,V3]) (.agg #[.int .i64 2,.bool false,.slice none 0 0,.slice none 0 0,.slice (some ⟨g,0,none⟩) 3 3]):=by
 have hc:∀j,w.cell? ⟨g,j,none⟩=(#[a0,a1,a2,a3,a4,b0,b1,b2,b3,b4,c0,c1,c2,c3,c4]:Array Value)[j]?:=qh hb;unfold VlV;refine⟨_,_,_,3,rfl,⟨_,_,rfl⟩,⟨_,_,rfl⟩,q_r,by unfold maxLen;omega,fun _=>⟨g,0,rfl,?_⟩⟩;unfold VlL;refine⟨⟨a0,a1,a2,a3,a4,hc 0,hc 1,hc 2,hc 3,hc 4,h1⟩,?_⟩;unfold VlL;refine⟨⟨b0,b1,b2,b3,b4,hc 5,hc 6,hc 7,hc 8,hc 9,h2⟩,?_⟩;unfold VlL;refine⟨⟨c0,c1,c2,c3,c4,hc 10,hc 11,hc 12,hc 13,hc 14,h3⟩,?_⟩;unfold VlL
 trivial
theorem txV{l:Byt}{c:Value}(h:GbB base w c l):VlV true N w (.txt l) (.agg #[.int .i64 1,.bool false,.slice none 0 0,c,.slice none 0 0]):=by
 obtain⟨g0,cap0,hv0,-,hlt,-⟩:=h.form;unfold VlV;exact⟨_,_,_,rfl,⟨_,_,rfl⟩,⟨h.by,fun _=>⟨_,_,hv0,hlt⟩⟩,⟨_,_,rfl⟩⟩
theorem nuV{n:Int}{b:Bool}(h:xZ N w (.agg #[.bool b,.slice A m k]) n):VlV true N w (.int n) (.agg #[.int .i64 0,.bool b,.slice A m k,.slice none 0 0,.slice none 0 0]):=by
 unfold VlV;exact⟨_,_,_,_,rfl,h,⟨_,_,rfl⟩,⟨_,_,rfl⟩⟩
theorem zq {s:Byt}(h:s.length<=65536):(enc (.txt s)).length<=s.length+7:=by
 have:=jI h;unfold enc
 simp
 omega
theorem zQ {l:List Vl}(h:l.length<=65536):(enc (.lst l)).length<=(zA l).length+7:=by
 have:=jI h;unfold enc
 simp
 omega
theorem xP {B:Nat}(hB:B<=65536):∀l:List Byt,(∀s∈l,s.length<=B)->(zA (l.map .txt)).length<=l.length*(B+7)
 | [],_=>by unfold zA;simp
 | s :: l,h=>by
  have h1:=xP hB l (fun s hs=>h s (.tail _ hs));have h2:=h s (.head _);have h3:=zq (s:=s) (by omega);rw[List.map_cons];unfold zA;rw[List.length_append,List.length_cons,Nat.add_mul];omega
theorem Qa:∀l:List Byt,(∀s∈l,s.length<=65536)->QZ (l.map .txt)
 | [],_=>by unfold QZ;trivial
 | s :: l,h=>by
  rw[List.map_cons];unfold QZ y7;exact⟨h s (.head _),Qa l (fun s hs=>h s (.tail _ hs))⟩
theorem Qp:∀l:List Byt,QW (l.map .txt)=0
 | []=>by unfold QW;rfl
 | s :: l=>by
  rw[List.map_cons];unfold QW kL;rw[Qp l]
  rfl
theorem Zb:∀l:List Byt,szL (l.map .txt)=l.length
 | []=>by unfold szL;rfl
 | s :: l=>by
  rw[List.map_cons];unfold szL szV;rw[Zb l,List.length_cons];omega
def okO (o:Ob):Prop:=o.links.length<=16/\o.data.length<=1024/\∀s∈o.links,s.length<=100
theorem Zz {o:Ob}(h:obC o=0):okO o:=by
 unfold obC at h
 split at h
 ·cases h
 ·rename_i h1
  split at h
  ·rename_i h2
   refine⟨by omega,by omega,fun s hs=>?_⟩;have h3:=List.all_eq_true.1 h2 s hs;unfold QS at h3;rw[Bool.and_eq_true] at h3;have:=h3.1;simp at this
   omega
  ·cases h
def Fits (V:Vl):Prop:=kL V<=8/\y7 V/\(enc V).length<=65536/\szV V<=1000000
theorem okO.lnk {o:Ob}(h:okO o):kL (wH o)=1/\y7 (wH o)/\(enc (wH o)).length<=2000/\szV (wH o)<=100:=by
 obtain⟨h1,h2,h3⟩:=h;unfold wH;refine⟨?_,?_,?_,?_⟩
 ·unfold kL;rw[Qp]
 ·unfold y7;exact⟨by rw[List.length_map];omega,Qa _ (fun s hs=>by have:=h3 s hs;omega)⟩
 ·have e1:=zQ (l:=o.links.map .txt) (by rw[List.length_map];omega);have e2:=xP (B:=100) (by omega) o.links h3;have e3:o.links.length*(100+7)<=16*107:=Nat.mul_le_mul h1 (by omega);omega
 ·unfold szV;rw[Zb];omega
theorem Zy (z:Int) (h0:0<=z) (h9:z<10):(enc (.int z)).length=3:=by
 unfold enc;rw[Xh h0 h9]
 rfl
theorem okO.fits {o:Ob}(h:okO o) (z:Int) (h0:0<=z) (h9:z<10):Fits (.lst [.int z,wH o,.txt o.data])/\(enc (.lst [.int z,wH o,.txt o.data])).length<=4000:=by
 obtain⟨h1,h2,h3,h4⟩:=h.lnk;have h5:=h.2.1
 have h6:(enc (.lst [.int z,wH o,.txt o.data])).length<=4000:=by
  have e1:=zQ (l:=[.int z,wH o,.txt o.data]) (by simp);have e2:=zq (s:=o.data) (by omega);have e3:=Zy z h0 h9;simp only[zA,List.length_append,List.length_nil] at e1;omega
 refine⟨⟨?_,?_,by omega,?_⟩,h6⟩
 ·simp only[kL,QW,h1];omega
 ·simp only[y7,QZ];exact⟨by simp,⟨h0,h9⟩,h2,by omega,trivial⟩
 ·simp only[szV,szL];omega
theorem okO.fits2 {o:Ob}(h:okO o):Fits (.lst [wH o,.txt o.data]):=by
 obtain⟨h1,h2,h3,h4⟩:=h.lnk;have h5:=h.2.1;refine⟨?_,?_,?_,?_⟩
 ·simp only[kL,QW,h1];omega
 ·simp only[y7,QZ];exact⟨by simp,h2,by omega,trivial⟩
 ·have e1:=zQ (l:=[wH o,.txt o.data]) (by simp);have e2:=zq (s:=o.data) (by omega);simp only[zA,List.length_append,List.length_nil] at e1;omega
 ·simp only[szV,szL];omega
def okT (t:Tg):Prop:=t.name.length<=300/\t.target.length<=300
theorem okT.fits {t:Tg}(h:okT t) (z:Int) (h0:0<=z) (h9:z<10):Fits (.lst [.int z,.txt t.name,.txt t.target])/\(enc (.lst [.int z,.txt t.name,.txt t.target])).length<=1000:=by
 obtain⟨h1,h2⟩:=h
 have h6:(enc (.lst [.int z,.txt t.name,.txt t.target])).length<=1000:=by
  have e1:=zQ (l:=[.int z,.txt t.name,.txt t.target]) (by simp);have e2:=zq (s:=t.name) (by omega);have e4:=zq (s:=t.target) (by omega);have e3:=Zy z h0 h9;simp only[zA,List.length_append,List.length_nil] at e1;omega
 refine⟨⟨?_,?_,by omega,?_⟩,h6⟩
 ·simp only[kL,QW];omega
 ·simp only[y7,QZ];exact⟨by simp,⟨h0,h9⟩,by omega,by omega,trivial⟩
 ·simp only[szV,szL];omega
theorem kP(HT:kF){V:Vl}(hv:VlV true N w V v) (hf:Fits V) (ht:zu w):Calls Tryz.prog 70 #[v] w (Y0 w (enc V)):=by
 have HV:=q_h hv;obtain⟨kz,nb,A1,n1,c1,A2,n2,c2,A3,n3,c3,rfl⟩:=hv.cells;have HF:=q_h hf;have HTB:=q_h ht;clear hv hf ht;go_enter Tryz.func70,Tryz.ntmps70;go_upto_region 1 with (fail);refine qo ?_;intro w1 hE hsz B0;obtain⟨p0,p1,p2,p3,p4⟩:=qC B0;go_wp2_with (go_at_call 134;refine q_o ?_);refine (vK HT (HV.out.ext hE) HF.out.1 HF.out.2.1 (HTB.out.ext hE) HF.out.2.2.1).mono ?_;rintro e w2 ⟨v2,rfl,hG2,e2⟩;have HG2:Hid (GrB w.heap.size w2 v2 (enc V)):=qw.low hG2 hE.size;have HX2:=q_h (hE.trans e2);clear hG2 p0 p1 p2 p3 p4;go_wp2;go_ret;exact⟨_,rfl,HG2.out,HX2.out⟩
theorem jX (HT:kF){o:Ob}{x y:Value}(h:ObR w x y o) (ho:okO o) (ht:zu w):Calls Tryz.prog 62 #[.agg #[x,y]] w (Y0 w (obE o)):=by
 have HO:=q_h h;have HK:=q_h ho;have HTB:=q_h ht;obtain⟨A0,c0,rfl,-⟩:=h.1.form;obtain⟨A9,c9,rfl,-⟩:=h.2.form;obtain⟨n0,hn0⟩:=qc o.links.length;obtain⟨n9,hn9⟩:=qc o.data.length;rw[<-hn0.out,<-hn9.out] at HO ⊢;obtain⟨s0,hs0⟩:=qc (sV o.data);clear h ho ht;go_enter Tryz.func62,Tryz.ntmps62;go_upto_region 1 with (fail);refine qo ?_;intro W hE hsz B0;obtain⟨p0,p1,-⟩:=cells2 B0
 have HT5:Hid (∀w',Ext W w'->(convert 27 9 (.slice A9 n9 c9)).run Tryz.prog w'=.ok s0 w'):=fun w' e=>by
  rw[hs0.out];exact zT (HO.out.2.ext (hE.trans e))
 have HC0:Hid (Ext W W.drew):=(Ext.refl W).drew;have HN:Hid (W.heap.size<=W.drew.heap.size):=q_r;have eC:=And.intro (HC0.out.cell p0) (And.intro (HC0.out.cell p1) (HT5.out _ HC0.out));refine qj (fun w'=>w'.cell? ⟨w.heap.size,0,none⟩=some (.slice A0 n0 c0)/\w'.cell? ⟨w.heap.size,1,none⟩=some (.slice A9 n9 c9)/\(convert 27 9 (.slice A9 n9 c9)).run Tryz.prog w'=.ok s0 w') [] (by kernel_rfl) (by exact eC) (fun hHeld=>?_);refine sT 1 (h:=?_);refine sP 3 (h:=?_);refine sT 4 (h:=?_);refine sT 5 (hy:=by (intro w9 hSw;have c9:=hSw.2.2;go_simp;(try (rw[if_pos (by omega)]));(try with_reducible rfl))) (h:=?_);refine qg (i:=0) rfl (by kernel_rfl) (fun K hK=>?_);go_simp;refine (jv (N:=W.heap.size) HN.out 0 (by omega) (by omega)).mono ?_;rintro e w2 ⟨nb,A1,m1,k1,rfl,hI,e2⟩;have HV1:=q_h (nuV hI);have HC2:=q_h (HC0.out.trans e2);replace eC:=And.intro (e2.cell eC.1) (And.intro (e2.cell eC.2.1) (HT5.out _ HC2.out));clear hI e2;go_wp2_with fail;clear hHeld;refine hK.out _ _ (by exact eC) fun hHeld=>?_
 clear hK K;try simp only[nr]
 refine qg (i:=2) rfl (by kernel_rfl) (fun K hK=>?_);go_simp;refine (yV (HO.out.ext (hE.trans HC2.out)) (by have:=HK.out.1;omega) (fun s hs=>by have:=HK.out.2.2 s hs;omega)).mono ?_;rintro e w3 ⟨A2,n2,k2,rfl,hLk,e3⟩;have HV2:=q_h (hLk W.heap.size);have HV13:=q_h (HV1.out.ext e3);have HC3:=q_h (HC2.out.trans e3);replace eC:=And.intro (e3.cell eC.1) (And.intro (e3.cell eC.2.1) (HT5.out _ HC3.out));clear hLk e3 HV1;go_wp2_with fail;clear hHeld;refine hK.out _ _ (by exact eC) fun hHeld=>?_
 clear hK K;try simp only[nr]
 refine qg (i:=6) rfl (by kernel_rfl) (fun K hK=>?_);go_simp;rw[hs0.out];refine (ku (l:=o.data) (by have:=HK.out.2.1;omega)).mono ?_;rintro e w4 ⟨c4,rfl,hG4,e4⟩;have HV3:=q_h (txV (N:=W.heap.size) hG4);obtain⟨g4,cap4,rfl,-⟩:=hG4.form;have HV14:=q_h (HV13.out.ext e4);have HV24:=q_h (HV2.out.ext e4);have HC4:=q_h (HC3.out.trans e4);replace eC:=And.intro (e4.cell eC.1) (And.intro (e4.cell eC.2.1) (HT5.out _ HC4.out));clear HV13 HV2 hG4 e4;go_wp2_with fail;clear hHeld;refine hK.out _ _ (by exact eC) fun hHeld=>?_
 clear hK K;try simp only[nr]
 refine qg (i:=7) rfl (by kernel_rfl) (fun K hK=>?_);go_simp
 first|refine qo ?_|refine qU ?_
 intro w5 e5 hsz5 BJ;have HVV:=q_h (Yh BJ (HV14.out.ext e5) (HV24.out.ext e5) (HV3.out.ext e5));have HC5:=q_h (HC4.out.trans e5);replace eC:=And.intro (e5.cell eC.1) (And.intro (e5.cell eC.2.1) (HT5.out _ HC5.out));clear HV14 HV24 HV3 BJ e5;clear hHeld;refine hK.out _ _ (by exact eC) fun hHeld=>?_
 clear hK K;try simp only[nr]
 refine qg (i:=8) rfl (by kernel_rfl) (fun K hK=>?_);go_simp;refine kZ.mono ?_;rintro e w6 ⟨rfl,e6⟩;have HV6:=q_h (HVV.out.ext e6);have HC6:=q_h (HC5.out.trans e6);replace eC:=And.intro (e6.cell eC.1) (And.intro (e6.cell eC.2.1) (HT5.out _ HC6.out));clear HVV e6;go_wp2_with fail;clear hHeld;refine hK.out _ _ (by exact eC) fun hHeld=>?_
 clear hK K;try simp only[nr]
 refine qg (i:=9) rfl (by kernel_rfl) (fun K hK=>?_);go_simp;refine (kP HT HV6.out (HK.out.fits 0 (by omega) (by omega)).1 (HTB.out.ext (hE.trans HC6.out))).mono ?_;rintro e w7 ⟨v7,rfl,hG7,e7⟩;have HG7:Hid (GrB w.heap.size w7 v7 (obE o)):=qw.low hG7 (hE.trans HC6.out).size;have HC7:=q_h (HC6.out.trans e7);replace eC:=And.intro (e7.cell eC.1) (And.intro (e7.cell eC.2.1) (HT5.out _ HC7.out));clear hG7 e7;go_wp2_with fail;clear hHeld;refine hK.out _ _ (by exact eC) fun hHeld=>?_
 clear hK K;try simp only[nr]
 refine sP 10 (h:=?_);refine ql (by kernel_rfl) ?_ _;clear hHeld;have HX:=q_h (hE.trans HC7.out);clear eC p0 p1;go_wp2;go_ret;exact⟨_,rfl,HG7.out,HX.out⟩
end
section
open Go.RowKit
def yP (w:World) (v:Value) (n:Nat) (l:List Byt):Prop:=n=l.length/\zF w v l
def TgsN (w:World) (v:Value) (n:Nat) (l:List Tg):Prop:=n=l.length/\wZ w v l
section
variable {w w':World}{v:Value}{n:Nat}
theorem yP.form {l:List Byt}(h:yP w v n l):∃A c,v=.slice A n c/\n<=c/\c<=maxLen:=by rw[h.1];exact h.2.form
theorem yP.ext {l:List Byt}(h:yP w v n l) (e:Ext w w'):yP w' v n l:=⟨h.1,h.2.ext e⟩
theorem yP.addr{l:List Byt}(h:yP w (.slice A n c) n l) (h0:0<n):∃g off,A=some ⟨g,off,none⟩/\∀i,i<n->∃u,w.cell? ⟨g,off+i,none⟩=some u/\Hid (u=sV (l.getD i [])):=by
 obtain⟨rfl,h⟩:=h;exact jT.addr h h0
theorem TgsN.addr{l:List Tg}(h:TgsN w (.slice A n c) n l) (h0:0<n):∃g off,A=some ⟨g,off,none⟩/\∀i,i<n->∃x1 x2,w.cell? ⟨g,off+i*2,none⟩=some x1/\w.cell? ⟨g,off+i*2+1,none⟩=some x2/\Hid (.agg #[x1,x2]=Value.agg #[sV (l.getD i default).name,sV (l.getD i default).target]):=by
 obtain⟨rfl,h⟩:=h;obtain⟨g,off,h1,h2⟩:=Q4.addr h h0;refine⟨g,off,h1,fun i hi=>?_⟩;obtain⟨x,y,h3,h4,rfl,rfl⟩:=h2 i hi;exact⟨_,_,h3,h4,rfl⟩
end
theorem XD (l:List Byt) (p:Byt->Bool):xU l.length (fun i=>!p (l.getD i []))=!l.all p:=by
 cases h:l.all p with
 | true =>
  refine qW.2 fun i hi=>?_
  rw[List.getD_eq_getElem?_getD,List.getElem?_eq_getElem hi];rw[List.all_eq_true] at h;simpa using h _ (List.getElem_mem hi)
 | false =>
  rw[List.all_eq_false] at h;obtain⟨s,hs,h1⟩:=h;obtain⟨i,hi,rfl⟩:=List.getElem_of_mem hs;refine zI hi ?_;rw[List.getD_eq_getElem?_getD,List.getElem?_eq_getElem hi];simpa using h1
theorem vV {l:Byt}(hl:l.length<=9223372036854775807):Calls Tryz.prog 67 #[sV l] w (qR w (.bool (!QS l))):=by
 obtain⟨r,hr⟩:=qc (QS l);rw[<-hr.out];have HC:=vJ ⟨l.toArray⟩ (by show l.toArray.size<=_;rw[List.size_toArray];exact hl);rw[Zd,<-hr.out] at HC;obtain⟨s0,hs0⟩:=qc (⟨l.toArray⟩:ByteArray);have e0:sV l=.string s0:=by rw[hs0.out];rfl
 rw[e0];rw[<-hs0.out] at HC;go_enter Tryz.func67,Tryz.ntmps67;go_wp2_with (go_at_call 68;refine q_o ?_);refine (HC w).mono ?_;rintro e w1 ⟨rfl,e1⟩;go_wp2;go_ret;exact⟨rfl,e1⟩
theorem vZ{l:List Byt}(h:yP w v n l)  (g:Nat->Bool)
  (hf:∀i,i<n->∀w' u,Ext w w'->Hid (u=sV (l.getD i []))->Calls Tryz.prog 67 #[u] w' (qR w' (.bool (g i)))) :
  Calls Tryz.prog 125 #[v,.func (.func 67) #[] #[]] w (QE w (xU n g)):=by
 obtain⟨r,hr⟩:=qc (xU n g);rw[<-hr.out];obtain⟨A,c,rfl,hnc,hcm⟩:=h.form;unfold maxLen at hcm;have hI:=h;have HF:=q_h hf;clear h hf;go_enter Tryz.func125,Tryz.ntmps125;go_wp2
 go_loopw [8] (fun i wr=>∃k:Nat,k<=n/\i=.int .i64 k/\Hid (∀j,j<k->g j=false)/\Ext w wr) (fun i _=>n-(intOf i).toNat)
 case atStart=>exact⟨0,Nat.zero_le _,rfl,fun j hj=>absurd hj (by omega),Ext.refl w⟩
 case round =>
  obtain⟨k,hk,rfl,HA,hE⟩:=hrel
  by_cases hlt:k<n
  ·(obtain⟨b,off,rfl,hx⟩:=(hI.ext hE).addr (by omega));(obtain⟨u,p0,hv⟩:=hx k hlt)
   clear hx;go_wp2_with (go_at_call 67;refine q_o ?_);refine (HF.out k hlt _ _ hE hv).mono ?_;rintro e w1 ⟨rfl,e1⟩;replace hE:=hE.trans e1;obtain⟨o,ho⟩:=qc (g k);rw[<-ho.out];cases o with
   | false =>
    go_wp2;go_roundw
    case rel=>exact⟨k+1,by omega,by go_num,jg (p:=fun j=>g j=false) HA.out ho.out.symm,hE⟩
    case measure=>simp[intOf];omega
   | true =>
    have HT:Hid (r=true):=by rw[Hid,hr.out];exact zI hlt ho.out.symm
    go_wp2;go_ret;exact⟨_,rfl,by rw[Hid,HT.out];symm;simp,hE⟩
  ·have HT:Hid (r=false):=by rw[Hid,hr.out];exact qW.2 (fun j hj=>HA.out j (by omega))
   go_wp2;go_ret;exact⟨_,rfl,by rw[Hid,HT.out];rfl,hE⟩
theorem QQ{l:List Byt}(h:yP w v n l)  (g:Nat->Bool)
  (hf:∀i,i<n->∀w' u,Ext w w'->Hid (u=sV (l.getD i []))->Calls Tryz.prog 67 #[u] w' (qR w' (.bool (g i)))) :
  Calls Tryz.prog 56 #[v,.func (.func 67) #[] #[]] w (qR w (.bool (xU n g))):=by
 obtain⟨r,hr⟩:=qc (xU n g);rw[<-hr.out];obtain⟨A,c,rfl,hnc,hcm⟩:=h.form;have hI:=h;have HF:=q_h hf;clear h hf;go_enter Tryz.func56,Tryz.ntmps56;go_wp2_with (go_at_call 125;refine q_o ?_);refine (vZ hI  g HF.out).mono ?_;rintro e w1 ⟨z,rfl,hz,e1⟩;rw[<-hr.out] at hz;go_wp2;go_ret;exact⟨qJ hz.out.symm,e1⟩
end
section
open Go.RowKit
theorem jW (HT:kF){t:Tg}(ho:okT t) (ht:zu w):Calls Tryz.prog 117 #[.agg #[sV t.name,sV t.target]] w (Y0 w (tgE t)):=by
 have HK:=q_h ho;have HTB:=q_h ht;obtain⟨s0,hs0⟩:=qc (sV t.name);obtain⟨s1,hs1⟩:=qc (sV t.target);have f0:s0.oneCell'=true:=by rw[hs0.out];rfl
 have f1:s1.oneCell'=true:=by rw[hs1.out];rfl
 have g0:s0.cells=#[s0]:=by rw[hs0.out];rfl
 have g1:s1.cells=#[s1]:=by rw[hs1.out];rfl
 rw[<-hs0.out,<-hs1.out];clear ho ht;go_enter Tryz.func117,Tryz.ntmps117;go_upto_region 1 with (fail);refine qo ?_;intro W hE hsz B0;obtain⟨p0,p1,-⟩:=cells2 B0;have HN:Hid (W.heap.size<=W.drew.heap.size):=q_r;have eC:=(Ext.refl W).drew;refine qj (fun w'=>w'.cell? ⟨w.heap.size,0,none⟩=some (s0)/\w'.cell? ⟨w.heap.size,1,none⟩=some (s1)) [] (by kernel_rfl) (by exact⟨eC.cell p0,eC.cell p1⟩) (fun hHeld=>?_);refine sP 1 (h:=?_);refine sT 2 (h:=?_);refine sP 4 (h:=?_);refine sT 5 (h:=?_);refine qg (i:=0) rfl (by kernel_rfl) (fun K hK=>?_);go_simp;refine (jv (N:=W.heap.size) HN.out 1 (by omega) (by omega)).mono ?_;rintro e w2 ⟨nb,A1,m1,k1,rfl,hI,e2⟩;have HV1:=q_h (nuV hI);replace eC:=eC.trans e2;clear hI e2;go_wp2_with fail;clear hHeld;refine hK.out _ _ (by exact⟨eC.cell p0,eC.cell p1⟩) fun hHeld=>?_
 clear hK K;try simp only[nr]
 refine qg (i:=3) rfl (by kernel_rfl) (fun K hK=>?_);go_simp;rw[hs0.out];refine (ku (l:=t.name) (by have:=HK.out.1;omega)).mono ?_;rintro e w3 ⟨c3,rfl,hG3,e3⟩;have HV2:=q_h (txV (N:=W.heap.size) hG3);obtain⟨g3,cap3,rfl,-⟩:=hG3.form;have HV13:=q_h (HV1.out.ext e3);replace eC:=eC.trans e3;clear hG3 e3 HV1;go_wp2_with fail;clear hHeld;refine hK.out _ _ (by exact⟨eC.cell p0,eC.cell p1⟩) fun hHeld=>?_
 clear hK K;try simp only[nr]
 refine qg (i:=6) rfl (by kernel_rfl) (fun K hK=>?_);go_simp;rw[hs1.out];refine (ku (l:=t.target) (by have:=HK.out.2;omega)).mono ?_;rintro e w4 ⟨c4,rfl,hG4,e4⟩;have HV3:=q_h (txV (N:=W.heap.size) hG4);obtain⟨g4,cap4,rfl,-⟩:=hG4.form;have HV14:=q_h (HV13.out.ext e4);have HV24:=q_h (HV2.out.ext e4);replace eC:=eC.trans e4;clear HV13 HV2 hG4 e4;go_wp2_with fail;clear hHeld;refine hK.out _ _ (by exact⟨eC.cell p0,eC.cell p1⟩) fun hHeld=>?_
 clear hK K;try simp only[nr]
 refine qg (i:=7) rfl (by kernel_rfl) (fun K hK=>?_);go_simp
 first|refine qo ?_|refine qU ?_
 intro w5 e5 hsz5 BJ;have HVV:=q_h (Yh BJ (HV14.out.ext e5) (HV24.out.ext e5) (HV3.out.ext e5));replace eC:=eC.trans e5;clear HV14 HV24 HV3 BJ e5;clear hHeld;refine hK.out _ _ (by exact⟨eC.cell p0,eC.cell p1⟩) fun hHeld=>?_
 clear hK K;try simp only[nr]
 refine qg (i:=8) rfl (by kernel_rfl) (fun K hK=>?_);go_simp;refine kZ.mono ?_;rintro e w6 ⟨rfl,e6⟩;have HV6:=q_h (HVV.out.ext e6);replace eC:=eC.trans e6;clear HVV e6;go_wp2_with fail;clear hHeld;refine hK.out _ _ (by exact⟨eC.cell p0,eC.cell p1⟩) fun hHeld=>?_
 clear hK K;try simp only[nr]
 refine qg (i:=9) rfl (by kernel_rfl) (fun K hK=>?_);go_simp;refine (kP HT HV6.out (HK.out.fits 1 (by omega) (by omega)).1 (HTB.out.ext (hE.trans eC))).mono ?_;rintro e w7 ⟨v7,rfl,hG7,e7⟩;have HG7:Hid (GrB w.heap.size w7 v7 (tgE t)):=qw.low hG7 (hE.trans eC).size;replace eC:=eC.trans e7;clear hG7 e7;go_wp2_with fail;clear hHeld;refine hK.out _ _ (by exact⟨eC.cell p0,eC.cell p1⟩) fun hHeld=>?_
 clear hK K;try simp only[nr]
 refine sP 10 (h:=?_);refine ql (by kernel_rfl) ?_ _;clear hHeld;have HX:=q_h (hE.trans eC);clear eC p0 p1;go_wp2;go_ret;exact⟨_,rfl,HG7.out,HX.out⟩
def Ok0 (o:Ob):Prop:=o.links.length<=1000/\o.data.length<=65536/\∀s∈o.links,s.length<=65536
theorem okO.ok0 {o:Ob}(h:okO o):Ok0 o:=⟨by have:=h.1;omega,by have:=h.2.1;omega,fun s hs=>by have:=h.2.2 s hs;omega⟩
def nmO (o:Ob):Byt:=if obC o=0 then qK o else []
theorem Q9 (HT:kF){o:Ob}{x y:Value}(h:ObR w x y o) (ho:Ok0 o) (ht:zu w):Calls Tryz.prog 15 #[.agg #[x,y]] w (qR w (.tuple #[sV (nmO o),.int .i64 (obC o)])):=by
 have HO:=q_h h;have HK:=q_h ho;have HTB:=q_h ht;obtain⟨R,hR⟩:=qc (qR w (.tuple #[sV (nmO o),.int .i64 (obC o)]));rw[<-hR.out];obtain⟨A0,c0,rfl,-⟩:=h.1.form;obtain⟨A9,c9,rfl,-⟩:=h.2.form;obtain⟨n0,hn0⟩:=qc o.links.length;obtain⟨n9,hn9⟩:=qc o.data.length;rw[<-hn0.out,<-hn9.out] at HO ⊢;obtain⟨s0,hs0⟩:=qc (sV o.data);clear h ho ht;go_enter Tryz.func15,Tryz.ntmps15;go_upto_region 1 with (fail);refine qo ?_;intro w1 hE hsz B0;obtain⟨p0,p1,-⟩:=cells2 B0;have HB0:=q_h B0
 by_cases h1:16<n0
 ·have u1:decide ((16:Int)<(n0:Int))=true:=q_t (by omega);have u1':decide (16<n0)=true:=q_t h1
  have HC:Hid (obC o=3/\nmO o=[]):=by
   have e:obC o=3:=by unfold obC;rw[if_pos (.inl (by have:=hn0.out;omega))]
   exact⟨e,by unfold nmO;rw[e];rfl⟩
  go_wp2
  first|go_ret2|skip
  rw[hR.out,HC.out.1,HC.out.2];exact⟨rfl,hE⟩
 have u1:decide ((16:Int)<(n0:Int))=false:=q_f (by omega);have u1':decide (16<n0)=false:=q_f h1
 by_cases h2:1024<n9
 ·have u2:decide ((1024:Int)<(n9:Int))=true:=q_t (by omega);have u2':decide (1024<n9)=true:=q_t h2
  have HC:Hid (obC o=3/\nmO o=[]):=by
   have e:obC o=3:=by unfold obC;rw[if_pos (.inr (by have:=hn9.out;omega))]
   exact⟨e,by unfold nmO;rw[e];rfl⟩
  go_wp2
  first|go_ret2|skip
  rw[hR.out,HC.out.1,HC.out.2];exact⟨rfl,hE⟩
 have u2:decide ((1024:Int)<(n9:Int))=false:=q_f (by omega);have u2':decide (1024<n9)=false:=q_f h2;have HLE:Hid (n0<=16/\n9<=1024):=⟨by omega,by omega⟩
 obtain⟨q,hq⟩:=qc (o.links.all QS)
 have HCF:Hid (Calls Tryz.prog 56 #[.slice A0 n0 c0,.func (.func 67) #[] #[]] w1 (qR w1 (.bool (!q)))):=by
  have h9:=XD o.links QS;rw[<-hn0.out,<-hq.out] at h9;rw[<-h9];refine QQ (l:=o.links) ⟨hn0.out,HO.out.1.ext hE⟩ _ (fun i hi w' u e hu=>?_);rw[hu.out];refine vV ?_;rw[List.getD_eq_getElem?_getD,List.getElem?_eq_getElem (by have:=hn0.out;omega)];have:=HK.out.2.2 _ (List.getElem_mem (l:=o.links) (n:=i) (by have:=hn0.out;omega))
  show (o.links[i]).length<=_
  omega
 go_wp2_with (go_at_call 56;refine q_o ?_);refine HCF.out.mono ?_;rintro e W ⟨rfl,e2⟩;have HX:=q_h (hE.trans e2);clear p0 p1 HCF;obtain⟨p0,p1,-⟩:=cells2 (e2.block HB0.out);clear hE e2 B0;cases q with
 | false =>
  have HC:Hid (obC o=10/\nmO o=[]):=by
   have e:obC o=10:=by
    unfold obC;rw[if_neg (by have:=hn0.out;have:=hn9.out;omega),<-hq.out]
    rfl
   exact⟨e,by unfold nmO;rw[e];rfl⟩
  go_wp2
  first|go_ret2|skip
  rw[hR.out,HC.out.1,HC.out.2];exact⟨rfl,HX.out⟩
 | true =>
  have HC:Hid (obC o=0/\nmO o=qK o):=by
   have e:obC o=0:=by
    unfold obC;rw[if_neg (by have:=hn0.out;have:=hn9.out;omega),<-hq.out]
    rfl
   exact⟨e,by unfold nmO;rw[e];rfl⟩
  have HK2:=q_h (Zz HC.out.1)
  have HT5:Hid (∀w',Ext W w'->(convert 27 9 (.slice A9 n9 c9)).run Tryz.prog w'=.ok s0 w'):=fun w' e=>by
   rw[hs0.out];exact zT (HO.out.2.ext (HX.out.trans e))
  have HC0:Hid (Ext W W.drew):=(Ext.refl W).drew;go_upto_region 5 with (fail);have eC:=And.intro (HC0.out.cell p0) (And.intro (HC0.out.cell p1) (HT5.out _ HC0.out));refine qj (fun w'=>w'.cell? ⟨w.heap.size,0,none⟩=some (.slice A0 n0 c0)/\w'.cell? ⟨w.heap.size,1,none⟩=some (.slice A9 n9 c9)/\(convert 27 9 (.slice A9 n9 c9)).run Tryz.prog w'=.ok s0 w') [] (by kernel_rfl) (by exact eC) (fun hHeld=>?_);refine sT 0 (h:=?_);refine sP 2 (h:=?_);refine sT 3 (h:=?_);refine sT 4 (hy:=by (intro w9 hSw;have c9:=hSw.2.2;go_simp;(try (rw[if_pos (by omega)]));(try with_reducible rfl))) (h:=?_);refine qg (i:=1) rfl (by kernel_rfl) (fun K hK=>?_);go_simp;refine (yV (HO.out.ext (HX.out.trans HC0.out)) (by have:=HK.out.1;omega) (fun s hs=>by have:=HK.out.2.2 s hs;omega)).mono ?_;rintro e w3 ⟨A2,n2,k2,rfl,hLk,e3⟩;have HV2:=q_h (hLk W.heap.size);have HC3:=q_h (HC0.out.trans e3);replace eC:=And.intro (e3.cell eC.1) (And.intro (e3.cell eC.2.1) (HT5.out _ HC3.out));clear hLk e3;go_wp2_with fail;clear hHeld;refine hK.out _ _ (by exact eC) fun hHeld=>?_
  clear hK K;try simp only[nr]
  refine qg (i:=5) rfl (by kernel_rfl) (fun K hK=>?_);go_simp;rw[hs0.out];refine (ku (l:=o.data) (by have:=HK.out.2.1;omega)).mono ?_;rintro e w4 ⟨c4,rfl,hG4,e4⟩;have HV3:=q_h (txV (N:=W.heap.size) hG4);obtain⟨g4,cap4,rfl,-⟩:=hG4.form;have HV24:=q_h (HV2.out.ext e4);have HC4:=q_h (HC3.out.trans e4);replace eC:=And.intro (e4.cell eC.1) (And.intro (e4.cell eC.2.1) (HT5.out _ HC4.out));clear HV2 hG4 e4;go_wp2_with fail;clear hHeld;refine hK.out _ _ (by exact eC) fun hHeld=>?_
  clear hK K;try simp only[nr]
  refine qg (i:=6) rfl (by kernel_rfl) (fun K hK=>?_);go_simp
  first|refine qo ?_|refine qU ?_
  intro w5 e5 hsz5 BJ;have HVV:=q_h (lst2V BJ (HV24.out.ext e5) (HV3.out.ext e5));have HC5:=q_h (HC4.out.trans e5);replace eC:=And.intro (e5.cell eC.1) (And.intro (e5.cell eC.2.1) (HT5.out _ HC5.out));clear HV24 HV3 BJ e5;clear hHeld;refine hK.out _ _ (by exact eC) fun hHeld=>?_
  clear hK K;try simp only[nr]
  refine qg (i:=7) rfl (by kernel_rfl) (fun K hK=>?_);go_simp;refine kZ.mono ?_;rintro e w6 ⟨rfl,e6⟩;have HV6:=q_h (HVV.out.ext e6);have HC6:=q_h (HC5.out.trans e6);replace eC:=And.intro (e6.cell eC.1) (And.intro (e6.cell eC.2.1) (HT5.out _ HC6.out));clear HVV e6;go_wp2_with fail;clear hHeld;refine hK.out _ _ (by exact eC) fun hHeld=>?_
  clear hK K;try simp only[nr]
  refine qg (i:=8) rfl (by kernel_rfl) (fun K hK=>?_);go_simp;refine (kP HT HV6.out HK2.out.fits2 (HTB.out.ext (HX.out.trans HC6.out))).mono ?_;rintro e w7 ⟨v7,rfl,hG7,e7⟩;have HG7:=q_h hG7.by
  have HC7:=q_h (HC6.out.trans e7);replace eC:=And.intro (e7.cell eC.1) (And.intro (e7.cell eC.2.1) (HT5.out _ HC7.out));clear hG7 e7;go_wp2_with fail;clear hHeld;refine hK.out _ _ (by exact eC) fun hHeld=>?_
  clear hK K;try simp only[nr]
  refine qg (i:=9) rfl (by kernel_rfl) (fun K hK=>?_);go_simp;obtain⟨nm,hnm⟩:=qc (sV (qK o))
  have HCN:Hid (Calls Tryz.prog 69 #[v7] w7 (qR w7 nm)):=by
   rw[hnm.out];exact JE HG7.out
  refine HCN.out.mono ?_;rintro e w8 ⟨rfl,e8⟩;have HC8:=q_h (HC7.out.trans e8);replace eC:=And.intro (e8.cell eC.1) (And.intro (e8.cell eC.2.1) (HT5.out _ HC8.out));clear e8;go_wp2_with fail;clear hHeld;refine hK.out _ _ (by exact eC) fun hHeld=>?_
  clear hK K;try simp only[nr]
  refine sP 10 (h:=?_);refine sP 11 (h:=?_);refine ql (by kernel_rfl) ?_ _;clear hHeld;have HX8:=q_h (HX.out.trans HC8.out);clear eC p0 p1;go_wp2
  first|go_ret2|skip
  rw[hR.out,HC.out.1,HC.out.2,hnm.out];exact⟨rfl,HX8.out⟩
def zrs (n:Nat):Byt:=List.replicate n 0
theorem zl (n:Nat):(zrs n).length=n:=List.length_replicate
theorem Zq {ET:TypeId}{z0:Value}{bz:Nat}(ho:One ET z0 bz) (hz:z0.cells=#[z0]) (t:TypeId) (ht:Tryz.prog.underlying t=some (.slice ET)) (w:World) (kl kc:IntKind) (n:Nat) (hn:n<1000000) :
  ∃w' cs,(Instr.makeSlice t (.int kl n) (.int kc n)).run Tryz.prog w=.ok (.slice (some ⟨w.heap.size,0,none⟩) n n) w'/\w'.heap[w.heap.size]?=some (.cells cs ET (0,0))/\cs.size=n/\(∀i,i<n->cs[i]?=some z0)/\Ext w w':=by
 obtain⟨i0,hi0,hz0,hz1,hz2⟩:=info_parts ho.inf;have hle:=ho.le;obtain⟨w',hrun,hown,hgr⟩:=run_make_full (P:=Tryz.prog) w w.heap.size t ET i0 _ 1 ht hi0 hz0 hz1 kl kc n (by rw[hz2];exact q_l (Nat.mul_le_mul hle (Nat.le_of_lt hn)) (by decide)) (by unfold maxLen;omega) (q_r);have hx:=(Ext.refl w).grown hgr (fun k hk=>by cases hk)
 rcases hown.2 with ⟨h,_⟩|⟨g,cap,cur,hv,hg,hh,hnc,hcm,hcs,htk⟩
 ·cases h
 ·have e1:w.heap.size=g:=Option.some.inj (congrArg Value.ownBlock hv);have e3:n=cap:=congrArg (fun v:Value=>match v with|.slice _ _ c=>c|_=>0) hv;subst e1 e3;refine⟨w',cur,hrun,hh,by omega,fun i hi=>?_,hx⟩;rw[hz,toList_madeCells_one] at htk;have h1:(cur.toList.take (n*1))[i]?=(List.replicate (n*1) z0)[i]?:=by rw[htk]
  rw[List.getElem?_take,if_pos (by omega),List.getElem?_replicate,if_pos (by omega)] at h1;simpa using h1
theorem jV {ET:TypeId}{z0:Value}{bz:Nat}(ho:One ET z0 bz) (hz:z0.cells=#[z0]){ops:Array Oper}{rest:List Oper}{o:Oper}{a:Act}{Q:Exit->Act->World->Prop}(hg:o.guard=none) (l c:Operand) (t:TypeId) (ht:Tryz.prog.underlying t=some (.slice ET)) (hop:o.op=Op.makeSlice t l c)
  (kl kc:IntKind) (L C:Int) (n:Nat) (hl:a.eval l=.int kl L) (hc:a.eval c=.int kc C) (hL:L=(n:Int)) (hC:C=(n:Int)) (hn:n<1000000)
  (hK:∀w' cs,w'.heap[w.heap.size]?=some (.cells cs ET (0,0))->cs.size=n->(∀i,i<n->cs[i]?=some z0)->Ext w w'->wpList Tryz.prog ops Q rest (a.put o.dst (.slice (some ⟨w.heap.size,0,none⟩) n n)) w'):wpList Tryz.prog ops Q (o :: rest) a w:=by
 refine wpList_plain hg fun K hK'=>?_
 obtain⟨w',cs,hrun,r1,r2,r3,r4⟩:=Zq ho hz t ht w kl kc n hn;subst hL;subst hC;unfold Oper.wp;simp[execOp,hop,hl,hc,hrun,Result.andThen]
 exact hK' _ _ (hK w' cs r1 r2 r3 r4)
def PgB (w:World) (g:Nat) (l:Byt):Prop:=w.heap[g]?=some (.cells (byC l).toArray 5 (0,0))
theorem PgB.ext{l:Byt}(h:PgB w g l) (e:Ext w w'):PgB w' g l:=e.block h
theorem PgB.chg{l:Byt}(h:PgB w g l) (e:Chg lo hi w w') (hg:g<lo\/hi<=g):PgB w' g l:=e.blk h hg
theorem PgB.lt{l:Byt}(h:PgB w g l):g<w.heap.size:=qE h
theorem PgB.cell{l:Byt}(h:PgB w g l)(hi:i<l.length):w.cell? ⟨g,i,none⟩=some (.int .u8 (chZ l i)):=by
 rw[qh h,List.getElem?_toArray];exact zh hi
theorem xq (l:Byt) (a i:Nat):chZ (l.drop a) i=chZ l (a+i):=by
 unfold chZ;rw[List.getD_eq_getElem?_getD,List.getD_eq_getElem?_getD,List.getElem?_drop]
theorem kG (l:Byt)(h:i<n):chZ (l.take n) i=chZ l i:=by
 unfold chZ;rw[List.getD_eq_getElem?_getD,List.getD_eq_getElem?_getD,List.getElem?_take,if_pos h]
theorem PgB.part{off:Nat}{l:Byt}(h:PgB w g l) (hn:off+n<=l.length) (hc:n<=c) (hm:c<=maxLen):ByV w (.slice (some ⟨g,off,none⟩) n c) ((l.drop off).take n):=by
 have hl:((l.drop off).take n).length=n:=by rw[List.length_take,List.length_drop];omega
 refine⟨_,c,by rw[hl],by omega,hm,fun _=>⟨g,off,rfl,fun i hi=>?_⟩⟩;rw[hl] at hi;rw[h.cell (by omega),kG _ hi,xq]
theorem PgB.all{l:Byt}(h:PgB w g l) (hc:l.length<=c) (hm:c<=maxLen):ByV w (.slice (some ⟨g,0,none⟩) l.length c) l:=by
 have:=h.part (off:=0) (n:=l.length) (by omega) hc hm
 rwa [List.drop_zero,List.take_length] at this
theorem Kw (n:Nat):byC (zrs n)=List.replicate n (.int .u8 0):=by
 refine List.ext_getElem? fun i=>?_
 by_cases h:i<n
 ·rw[zh (by rw[zl];exact h),List.getElem?_replicate,if_pos h];unfold chZ zrs;rw[List.getD_eq_getElem?_getD,List.getElem?_replicate,if_pos h]
  rfl
 ·rw[List.getElem?_eq_none (by rw[qA,zl];omega),List.getElem?_replicate,if_neg h]
theorem kJ{ops:Array Oper}{rest:List Oper}{o:Oper}{a:Act}{Q:Exit->Act->World->Prop}(hg:o.guard=none) (l c:Operand) (hop:o.op=Op.makeSlice 27 l c)
  (kl kc:IntKind) (L C:Int) (n:Nat) (hl:a.eval l=.int kl L) (hc:a.eval c=.int kc C) (hL:L=(n:Int)) (hC:C=(n:Int)) (hn:n<1000000)
  (hK:∀w',PgB w' w.heap.size (zrs n)->Ext w w'->wpList Tryz.prog ops Q rest (a.put o.dst (.slice (some ⟨w.heap.size,0,none⟩) n n)) w'):wpList Tryz.prog ops Q (o :: rest) a w:=by
 refine jV jE rfl hg l c 27 Tryz.underlying27 hop kl kc L C n hl hc hL hC hn (fun w' cs h1 h2 h3 h4=>hK w' ?_ h4);unfold PgB;rw[h1,Kw]
 congr 2
 refine Array.ext (by simp[h2]) (fun i h5 h6=>?_);have:=h3 i (by omega);rw[Array.getElem?_eq_getElem h5] at this;rw[Option.some.inj this]
 simp
def xA (l:Byt) (off:Nat) (s:Byt):Byt:=l.take off++(s++l.drop (off+s.length))
theorem jc {l s:Byt}{off:Nat}(h:off+s.length<=l.length):(xA l off s).length=l.length:=by
 unfold xA
 simp
 omega
theorem Xv (l:Byt) (n:Nat):(byC l).take n=byC (l.take n):=by
 refine List.ext_getElem? fun i=>?_
 rw[List.getElem?_take]
 by_cases h:i<n
 ·rw[if_pos h]
  by_cases h2:i<l.length
  ·rw[zh h2,zh (by rw[List.length_take];omega),kG _ h]
  ·rw[List.getElem?_eq_none (by rw[qA];omega),List.getElem?_eq_none (by rw[qA,List.length_take];omega)]
 ·rw[if_neg h,List.getElem?_eq_none (by rw[qA,List.length_take];omega)]
theorem Xx (l:Byt) (n:Nat):(byC l).drop n=byC (l.drop n):=by
 refine List.ext_getElem? fun i=>?_
 rw[List.getElem?_drop]
 by_cases h2:n+i<l.length
 ·rw[zh h2,zh (by rw[List.length_drop];omega),xq]
 ·rw[List.getElem?_eq_none (by rw[qA];omega),List.getElem?_eq_none (by rw[qA,List.length_drop];omega)]
theorem JJ (l:Byt) (off:Nat) (s:Byt):(byC l).take off++(byC s++(byC l).drop (off+s.length))=byC (xA l off s):=by
 unfold xA;rw[xI,xI,Xv,Xx]
theorem Qi (l:Byt) (off:Nat):xA l off []=l:=by
 unfold xA
 simp
theorem kK{ops:Array Oper}{rest:List Oper}{o:Oper}{a:Act}{Q:Exit->Act->World->Prop}(hgd:o.guard=none) (d s:Operand) (ho:o.op=.call { callee:=.builtin .copy,args:=#[d,s],argTypes:=#[27,27] })
  {off dLen dCap:Nat}{l src:Byt}{u:Value}(hd:a.eval d=.slice (some ⟨g,off,none⟩) dLen dCap) (hs:a.eval s=u) (hP:PgB w g l) (hu:ByV w u src) (hfit:off+dLen<=l.length)
  (hK:∀w',PgB w' g (xA l off (src.take dLen))->Chg g (g+1) w w'->wpList Tryz.prog ops Q rest (a.put o.dst (.int .i64 (Nat.min src.length dLen:Nat))) w'):wpList Tryz.prog ops Q (o :: rest) a w:=by
 obtain⟨A,c,rfl,-,-,hx⟩:=hu
 have hsz:(Tryz.prog.info? 5).map (·.size)=some 1:=by
  obtain⟨i0,hi0,-,hi2,-⟩:=info_parts jE.inf;rw[hi0];exact congrArg some hi2
 by_cases h0:Nat.min src.length dLen=0
 ·refine wpList_copy_nothing hgd d s _ _ ho 5 Tryz.underlying27 hsz _ _ dLen dCap src.length c hd hs h0 ?_
  have:=hK w (by
   have e:src.take dLen=[]:=by
    refine List.eq_nil_of_length_eq_zero ?_;rw[List.length_take,Nat.min_comm];exact h0
   rw[e,Qi]
   exact hP) (Chg.refl _ _ _)
  rw[h0] at this;exact this
 ·have hp:0<src.length:=by
   rcases Nat.eq_zero_or_pos src.length with h|h
   ·rw[h] at h0;simp at h0
   ·exact h
  obtain⟨b,o2,rfl,hcell⟩:=hx hp;have hlen:(src.take dLen).length=Nat.min src.length dLen:=by rw[List.length_take,Nat.min_comm]
  refine wpList_copy_own hgd d s _ _ ho 5 Tryz.underlying27 hsz g off dLen dCap _ src.length c hd hs _ _ hP (byC (src.take dLen)) (by rw[qA,hlen]) (fun j v hj=>?_) ?_ (kR _) ?_
  ·have hjl:j<(src.take dLen).length:=by
    have:=(List.getElem?_eq_some_iff.1 hj).1
    rwa [qA] at this
   rw[zh hjl,kG _ (by rw[List.length_take] at hjl;omega)] at hj;rw[<-hj,qP];exact hcell j (by rw[List.length_take] at hjl;omega)
  ·rw[qA,hlen,List.size_toArray,qA];have:Nat.min src.length dLen<=dLen:=Nat.min_le_right src.length dLen;omega
  ·have hrow:(w.setRow g ((byC l).toArray.toList.take off++(byC (src.take dLen)++(byC l).toArray.toList.drop (off+(byC (src.take dLen)).length))).toArray).heap[g]?=some (.cells (byC (xA l off (src.take dLen))).toArray 5 (0,0)):=by
    rw[<-JJ,qA];exact setRow_heap w g _ _ _ _ hP
   have hC:Chg g (g+1) w (w.setRow g ((byC l).toArray.toList.take off++(byC (src.take dLen)++(byC l).toArray.toList.drop (off+(byC (src.take dLen)).length))).toArray):=by
    refine⟨rfl,rfl,rfl,by simp[World.setRow],fun k hk hc=>setRow_other w g k _ ?_⟩;rintro rfl
    rcases hc with hc|hc|⟨cs,fr,hc⟩
    ·omega
    ·omega
    ·exact NoU.mk hP (by decide) cs fr hc
   have:=hK _ hrow hC;rw[show Nat.min src.length dLen=(byC (src.take dLen)).length from by rw[qA,hlen]] at this;exact this
def ByU (w:World) (v:Value) (l:Byt):Prop:=ByV w v l/\∀g,v.ownBlock=some g->∃cs fr,w.heap[g]?=some (.cells cs 5 fr)
theorem ByU.ext{l:Byt}(h:ByU w v l) (e:Ext w w'):ByU w' v l:=⟨h.1.ext e,fun g hg=>by
 obtain⟨cs,fr,h1⟩:=h.2 g hg
 exact⟨cs,fr,e.block h1⟩⟩
theorem Xw (a b c d:UInt8):byC [a,b,c,d]=[.int .u8 (a.toNat:Int),.int .u8 (b.toNat:Int),.int .u8 (c.toNat:Int),.int .u8 (d.toNat:Int)]:=rfl
theorem jl {n:Int}(h0:0<=n) (h:n<256):((UInt8.ofNat n.toNat).toNat:Int)=n:=by
 rw[UInt8.toNat_ofNat'];omega
theorem XA(h:n<65536):byC (b4 n)=[.int .u8 ((n:Int) / 16777216),.int .u8 ((n:Int) / 65536),.int .u8 ((n:Int) / 256),.int .u8 ((n:Int) % 256)]:=by
 unfold b4;rw[Xw,jl (by omega) (by omega),jl (by omega) (by omega),jl (by omega) (by omega),jl (by omega) (by omega)];rw[show (n:Int) / 16777216 % 256=(n:Int) / 16777216 by omega,show (n:Int) / 65536 % 256=(n:Int) / 65536 by omega,show (n:Int) / 256 % 256=(n:Int) / 256 by omega]
theorem kM (n:Int):(b4 n).length=4:=rfl
def pgE (e:Byt) (i:Nat):Byt:=((jG e).drop (64*i)).take 64
theorem jb (e:Byt):(jG e).length=64*pgN e:=by
 unfold jG pgN;simp only[List.length_append,List.length_replicate,kM];omega
def PgL (base:Nat) (w:World) (v:Value) (i:Nat) (P:Nat->Byt):Prop:=∃G:Nat->Nat,qw 27 base w v ((List.range i).map fun j=>.slice (some ⟨G j,0,none⟩) 64 64)/\∀j,j<i->base<=G j/\PgB w (G j) (P j)
theorem PgL.snoc{G:Nat->Nat}{P:Nat->Byt}(hP:∀j,j<i->base<=G j/\PgB w (G j) (P j)) (hg:base<=g) (hPg:PgB w g (P i)) (hG:qw 27 base w v (((List.range i).map fun j=>.slice (some ⟨G j,0,none⟩) 64 64) ++ [.slice (some ⟨g,0,none⟩) 64 64])):PgL base w v (i+1) P:=by
 refine⟨fun j=>if j=i then g else G j,?_,fun j hj=>?_⟩
 ·have e:((List.range (i+1)).map fun j=>Value.slice (some ⟨if j=i then g else G j,0,none⟩) 64 64)=((List.range i).map fun j=>Value.slice (some ⟨G j,0,none⟩) 64 64) ++ [.slice (some ⟨g,0,none⟩) 64 64]:=by
   rw[List.range_succ,List.map_append,List.map_cons,List.map_nil,if_pos rfl]
   congr 1
   refine List.map_congr_left fun j hj=>?_
   rw[if_neg (by have:=List.mem_range.1 hj;omega)]
  rw[e];exact hG
 ·by_cases h:j=i
  ·show base<=(if j=i then g else G j)/\PgB w (if j=i then g else G j) (P j)
   rw[if_pos h,h];exact⟨hg,hPg⟩
  ·show base<=(if j=i then g else G j)/\PgB w (if j=i then g else G j) (P j)
   rw[if_neg h];exact hP j (by omega)
theorem ByU.app {ET:TypeId}{u:Value}{xs:List Value}{l:Byt}(h:ByU w u l) (hG:qw ET base w v xs) (ht:5≠ET) (hw:v.ownBlock=some g\/g=w.heap.size) (C:Chg g (g+1) w w'):ByU w' u l:=by
 have hk:∀q,u.ownBlock=some q->w'.heap[q]?=w.heap[q]?:=fun q hq=>by
  obtain⟨cs,fr,h1⟩:=h.2 q hq;have hne:=qy.ne hG hw h1 ht;exact C.block q (qE h1) (by omega)
 refine⟨?_,fun q hq=>?_⟩
 ·obtain⟨A,c,rfl,h1,h2,h3⟩:=h.1;refine⟨A,c,rfl,h1,h2,fun hn=>?_⟩;obtain⟨b,off,rfl,h4⟩:=h3 hn;exact⟨b,off,rfl,fun i hi=>by rw[World.cell?_of_block (w:=w) (hk b rfl)];exact h4 i hi⟩
 ·obtain⟨cs,fr,h1⟩:=h.2 q hq;exact⟨cs,fr,(hk q hq).trans h1⟩
theorem GrB.u{l:Byt}(h:GrB base w v l):ByU w v l:=by
 refine⟨h.by,fun g hg=>?_⟩
 rcases h.2.2 with ⟨rfl,h0⟩|⟨g0,cap,cur,rfl,hb,hh,-⟩
 ·simp[Value.ownBlock] at hg
 ·obtain rfl:g0=g:=by simpa[Value.ownBlock] using hg
  exact⟨_,_,hh⟩
theorem ByV.from{l:Byt}(h:ByV w (.slice A m c) l) (hk:k<=m):ByV w (.slice (if c=k then A else Option.map (fun x=>x.add k) A) (m-k) (c-k)) (l.drop k):=by
 obtain⟨A',c',hv,h1,h2,h3⟩:=h;obtain⟨rfl,rfl,rfl⟩:=Value.slice.inj hv;refine⟨_,_,by rw[List.length_drop],by rw[List.length_drop];omega,by omega,fun hn=>?_⟩;rw[List.length_drop] at hn;obtain⟨b,off,rfl,h4⟩:=h3 (by omega);rw[if_neg (by omega)];refine⟨b,off+k,by simp only[Option.map_some,qP],fun i hi=>?_⟩;rw[List.length_drop] at hi;rw[xq,Nat.add_assoc];exact h4 (k+i) (by omega)
theorem jd {l s:Byt}{off:Nat}(h:off+s.length<=l.length) (j:Nat):(xA l off s)[j]?=if off<=j/\j<off+s.length then s[j-off]? else l[j]?:=by
 unfold xA;have h1:(l.take off).length=off:=by rw[List.length_take];omega
 by_cases h2:j<off
 ·rw[List.getElem?_append_left (by omega),List.getElem?_take,if_pos h2,if_neg (by omega)]
 ·rw[List.getElem?_append_right (by omega),h1]
  by_cases h3:j-off<s.length
  ·rw[List.getElem?_append_left h3,if_pos (by omega)]
  ·rw[List.getElem?_append_right (by omega),List.getElem?_drop,if_neg (by omega)]
   congr 1
   omega
theorem Jj {l s:Byt}{off:Nat}(h:off+s.length<=l.length) (hi:i<s.length):xA l off (s.take (i+1))=(xA l off (s.take i)).set (off+i) (s.getD i 0):=by
 have h1:(s.take (i+1)).length=i+1:=by rw[List.length_take];omega
 have h2:(s.take i).length=i:=by rw[List.length_take];omega
 refine List.ext_getElem? fun j=>?_
 rw[jd (by omega),h1,List.getElem?_set,jd (by omega),h2,jc (by omega)]
 by_cases h3:off+i=j
 ·subst h3;rw[if_pos (by omega),if_pos rfl,if_pos (by omega),List.getElem?_take,if_pos (by omega)];rw[show off+i-off=i by omega,List.getD_eq_getElem?_getD,List.getElem?_eq_getElem hi]
  rfl
 ·rw[if_neg h3]
  by_cases h4:off<=j/\j<off+i
  ·rw[if_pos h4,if_pos (by omega),List.getElem?_take,if_pos (by omega),List.getElem?_take,if_pos (by omega)]
  ·rw[if_neg h4,if_neg (by omega)]
theorem JI (l:Byt) (i:Nat) (c:UInt8):(byC l).toArray.setIfInBounds i (.int .u8 (c.toNat:Int))=(byC (l.set i c)).toArray:=by
 refine Array.ext (by simp[qA]) (fun j h1 h2=>?_)
 have hj:j<(l.set i c).length:=by
  rw[List.size_toArray,qA] at h2;exact h2
 have hj':j<l.length:=by rwa [List.length_set] at hj
 apply Option.some.inj
 rw[<-Array.getElem?_eq_getElem h1,<-Array.getElem?_eq_getElem h2,Array.getElem?_setIfInBounds,List.getElem?_toArray,List.getElem?_toArray,zh hj,List.size_toArray,qA];unfold chZ;rw[List.getD_eq_getElem?_getD,List.getElem?_set]
 by_cases h:i=j
 ·rw[if_pos h,if_pos h,if_pos (by omega),if_pos (by omega)]
  rfl
 ·rw[if_neg h,if_neg h,zh hj'];unfold chZ;rw[List.getD_eq_getElem?_getD]
theorem PgB.set{l:Byt}(h:PgB w g l) (c:UInt8):∃w',w.setCell ⟨g,i,none⟩ (.int .u8 (c.toNat:Int))=w'/\PgB w' g (l.set i c)/\Chg g (g+1) w w':=by
 obtain⟨w',E,B,U⟩:=qI h i (.int .u8 (c.toNat:Int));refine⟨w',E,?_,U.chg (NoU.mk h (by decide))⟩;unfold PgB;rw[B,JI]
def RetP (g:Nat) (l:Byt) (w:World) (e:Ending) (w':World):Prop:=e=.returned (.tuple #[])/\PgB w' g l/\Chg g (g+1) w w'
theorem jr{off:Nat}{l:Byt}{k:Int}(h:PgB w g l) (hn:4<=n) (hl:off+4<=l.length) (h0:0<=k) (hk:k<4294967296) (hm:l.length<=1000000) :
  Calls Tryz.prog 138 #[.slice (some ⟨g,off,none⟩) n c,.int .i64 k] w (RetP g (xA l off (b4 k)) w):=by
 have HP:=q_h h;have HL:=q_h hl;have HM:=q_h hm;obtain⟨R,hR⟩:=qc (RetP g (xA l off (b4 k)) w);rw[<-hR.out];clear h hl hm;go_enter Tryz.func138,Tryz.ntmps138;go_wp2
 go_loopw [5] (fun iv wr=>∃i:Nat,i<=4/\iv=.int .i64 (i:Int)/\Hid (PgB wr g (xA l off ((b4 k).take i)))/\Hid (Chg g (g+1) w wr)) (fun iv _=>4-(intOf iv).toNat)
 case atStart=>exact⟨0,Nat.zero_le _,rfl,by rw[List.take_zero,Qi];exact HP,Chg.refl _ _ _⟩
 case round =>
  obtain⟨i,hi9,rfl,HI,HC⟩:=hrel
  by_cases hlt:i<4
  case neg =>
   obtain rfl:i=4:=by omega
   go_wp2
   first|go_end0|go_ret|skip
   rw[hR.out];exact⟨rfl,HI.out,HC.out⟩
  obtain⟨ch,hch⟩:=qc ((b4 k).getD i 0);obtain⟨w',E,B,C⟩:=HI.out.set (i:=off+i) ch
  have HB:Hid (PgB w' g (xA l off ((b4 k).take (i+1)))):=by
   have h9:off+(b4 k).length<=l.length:=by rw[kM];exact HL.out
   have h8:i<(b4 k).length:=by rw[kM];exact hlt
   rw[Jj (l:=l) (s:=b4 k) (off:=off) h9 h8,<-hch.out];exact B
  have HC2:=q_h (HC.out.trans C);have hll:(xA l off ((b4 k).take i)).length=l.length:=jc (by have:=HL.out;rw[List.length_take,kM];omega);have c0:=HI.out.cell (i:=off+i) (by have:=HL.out;omega);have f0:=qm HI.out (off+i);obtain⟨z,hz⟩:=qc ((ch.toNat:Int));rw[<-hz.out] at E;obtain⟨old,hold⟩:=qc (Value.int .u8 (chZ (xA l off ((b4 k).take i)) (off+i)));rw[<-hold.out] at c0;have hin:i<n:=by omega
  have hin':(i:Int)<n:=by omega
  have HZ:Hid (z=(if i=0 then k / 16777216 % 256 else if i=1 then k / 65536 % 256 else if i=2 then k / 256 % 256 else k % 256)):=by
   rw[Hid,hz.out,hch.out];unfold b4;have:i=0\/i=1\/i=2\/i=3:=by omega
   rcases this with h|h|h|h<;>subst h
   ·exact jl (by omega) (by omega)
   ·exact jl (by omega) (by omega)
   ·exact jl (by omega) (by omega)
   ·exact jl (by omega) (by omega)
  clear B C hll hi9;have h4:i=0\/i=1\/i=2\/i=3:=by omega
  rcases h4 with h|h|h|h<;>subst h
  ·have hz2:z=k / 16777216:=by rw[HZ.out];simp;omega
   try simp only[Nat.add_zero,Nat.zero_add] at E c0 f0 HB
   rw[hz2] at E;clear hz2 HZ hz hold hch HI;go_wp2;go_roundw
   case rel=>exact⟨1,by omega,rfl,HB,HC2⟩
   case measure=>simp[intOf]
  ·have hz2:z=k / 65536 % 256:=by rw[HZ.out];simp
   try simp only[Nat.add_zero,Nat.zero_add] at E c0 f0 HB
   rw[hz2] at E;clear hz2 HZ hz hold hch HI;go_wp2;go_roundw
   case rel=>exact⟨2,by omega,rfl,HB,HC2⟩
   case measure=>simp[intOf]
  ·have hz2:z=k / 256 % 256:=by rw[HZ.out];simp
   try simp only[Nat.add_zero,Nat.zero_add] at E c0 f0 HB
   rw[hz2] at E;clear hz2 HZ hz hold hch HI;go_wp2;go_roundw
   case rel=>exact⟨3,by omega,rfl,HB,HC2⟩
   case measure=>simp[intOf]
  ·have hz2:z=k % 256:=by rw[HZ.out];simp
   try simp only[Nat.add_zero,Nat.zero_add] at E c0 f0 HB
   rw[hz2] at E;clear hz2 HZ hz hold hch HI;go_wp2;go_roundw
   case rel=>exact⟨4,by omega,rfl,HB,HC2⟩
   case measure=>simp[intOf]
def zW (w:World):Prop:=∃A c,w.cell? ⟨0,0,none⟩=some (.slice A 4 c)/\ByV w (.slice A 4 c) [70,83,66,49]
theorem zW.ext(h:zW w) (e:Ext w w'):zW w':=by
 obtain⟨A,c,h1,h2⟩:=h;exact⟨A,c,e.cell h1,h2.ext e⟩
def YK (w:World) (l:Byt) (e:Ending) (w':World):Prop:=∃g,e=.returned (.slice (some ⟨g,0,none⟩) 64 64)/\w.heap.size<=g/\PgB w' g l/\Ext w w'
theorem qx{t:TypeId}{x0 x1 x2 x3 x4 x5:Value}(h:w.heap[g]?=some (.cells #[x0,x1,x2,x3,x4,x5] t (0,0))):w.cell? ⟨g,0,none⟩=some x0/\w.cell? ⟨g,1,none⟩=some x1/\w.cell? ⟨g,2,none⟩=some x2/\w.cell? ⟨g,3,none⟩=some x3/\w.cell? ⟨g,4,none⟩=some x4/\w.cell? ⟨g,5,none⟩=some x5 :=
 ⟨qh h 0,qh h 1,qh h 2,qh h 3,qh h 4,qh h 5⟩
theorem zi{size seq half used:Int}{A1 A2:Option Addr}{n1 c1 n2 c2:Nat}(hM:zW w) (q0:0<=seq) (q1:seq<4294967296) (h0:0<=half) (h1:half<256) (u0:0<=used) (u1:used<4294967296) :
  Calls Tryz.prog 84 #[.agg #[.int .i64 size,.int .i64 seq,.int .i64 half,.int .i64 used,.slice A1 n1 c1,.slice A2 n2 c2]] w (YK w (xB seq half used)):=by
 have HM:=q_h hM;have HQ:=q_h (And.intro q0 q1);have HU:=q_h (And.intro u0 u1);obtain⟨R,hR⟩:=qc (YK w (xB seq half used));rw[<-hR.out];clear hM q0 q1 u0 u1;go_enter Tryz.func84,Tryz.ntmps84;go_upto_region 1 with (fail);refine qo ?_;intro w1 hE hsz B0;have HB0:=q_h B0;clear B0;go_wp2_with (at_make;refine q_o ?_);refine kJ rfl _ _ rfl .i64 .i64 64 64 64 (by rfl) (by rfl) rfl rfl (by omega) ?_;intro w2 hP2 e2;obtain⟨g,hg⟩:=qc w1.heap.size;rw[<-hg.out] at hP2 ⊢;have HE2:=q_h (hE.trans e2);have HB2:=q_h (e2.block HB0.out)
 have HG:Hid (w.heap.size<g/\g<w2.heap.size):=by
  have:=hP2.lt;have:=hg.out;rw[Hid];omega
 obtain⟨A0,c0,m0,m1⟩:=HM.out.ext HE2.out;clear hE e2 HB0 hsz;go_upto_region 2 with (fail);refine wp_region_lit ?_;refine wpList_plain rfl (fun K hK=>?_);go_simp;refine hK _ _ ?_;clear hK K;try simp only[nr]
 refine wpList_plain rfl (fun K hK=>?_);go_simp;refine hK _ _ ?_;clear hK K;try simp only[nr]
 refine kK rfl _ _ rfl (by rfl) (by rfl) hP2 m1 (by rw[zl];omega) ?_;intro w3 hP3 C3;have HP3:Hid (PgB w3 g (xA (zrs 64) 0 [70,83,66,49])):=hP3;have HE3:Hid (Ext w w3):=C3.ext HE2.out (by have:=HG.out;omega);have HB3:=q_h (C3.blk HB2.out (.inl (by have:=HG.out;omega)));clear hP2 hP3 C3 m0 m1 HB2 HE2;obtain⟨p0,p1,-⟩:=qx HB3.out;have HE3d:Hid (Ext w w3.drew):=HE3.out.drew;have HB3d:Hid (w3.drew.heap[w.heap.size]?=w3.heap[w.heap.size]?):=rfl;have HP3d:Hid (PgB w3.drew g (xA (zrs 64) 0 [70,83,66,49])):=HP3.out;go_upto_region 3 with (fail);have eC:=(Ext.refl w3).drew.cell p1;refine qj (fun w'=>w'.cell? ⟨w.heap.size,1,none⟩=some (.int .i64 seq)) [] (by kernel_rfl) (by exact eC) (fun hHeld=>?_);refine sP 0 (h:=?_);refine sP 1 (h:=?_);refine sP 2 (h:=?_);refine sT 3 (h:=?_);refine qg (i:=4) rfl (by kernel_rfl) (fun K hK=>?_);go_simp;refine (jr HP3d.out (by omega) (by decide) HQ.out.1 HQ.out.2 (by decide)).mono ?_;rintro e w4 ⟨rfl,hP4,C4⟩;have HP4:=q_h hP4;have HC4:=q_h C4;replace eC:=C4.cell eC (.inl (by have:=HG.out;show w.heap.size<g;omega));clear hP4 C4;go_wp2_with fail;clear hHeld;refine hK.out _ _ (by exact eC) fun hHeld=>?_
 clear hK K;try simp only[nr]
 refine ql (by kernel_rfl) ?_ _;clear hHeld;have HE4:Hid (Ext w w4):=HC4.out.ext HE3d.out (by have:=HG.out;omega);have HB4:=q_h (HC4.out.blk (HB3d.out.trans HB3.out) (.inl (by have:=HG.out;omega)));clear eC p0 p1 HB3 HE3 HP3 HB3d HP3d HE3d HC4;obtain⟨p0,p1,p2,p3,-⟩:=qx HB4.out;obtain⟨ch,hch⟩:=qc (UInt8.ofNat (half % 256).toNat)
 have HCH:Hid ((ch.toNat:Int)=half):=by
  rw[Hid,hch.out,jl (by omega) (by omega)];omega
 obtain⟨w5,E5,P5,C5⟩:=HP4.out.set (i:=8) ch;rw[HCH.out] at E5;have HP5:=q_h P5;have HE5:Hid (Ext w w5):=C5.ext HE4.out (by have:=HG.out;omega);have HB5:=q_h (C5.blk HB4.out (.inl (by have:=HG.out;omega)));have c8:=HP4.out.cell (i:=8) (by show 8<64;omega);have f8:=qm HP4.out 8;obtain⟨old,hold⟩:=qc (Value.int .u8 (chZ (xA (xA (zrs 64) 0 [70,83,66,49]) 4 (b4 seq)) 8));rw[<-hold.out] at c8;clear P5 C5;have HE5d:Hid (Ext w w5.drew):=HE5.out.drew;have HB5d:Hid (w5.drew.heap[w.heap.size]?=w5.heap[w.heap.size]?):=rfl;have HP5d:Hid (PgB w5.drew g ((xA (xA (zrs 64) 0 [70,83,66,49]) 4 (b4 seq)).set 8 ch)):=HP5.out;have q3:=(qx HB5.out).2.2.2.1;go_upto_region 5 with (fail);clear p0 p1 p2 p3 c8 f8 E5;have eC:=(Ext.refl w5).drew.cell q3;refine qj (fun w'=>w'.cell? ⟨w.heap.size,3,none⟩=some (.int .i64 used)) [] (by kernel_rfl) (by exact eC) (fun hHeld=>?_);refine sP 0 (h:=?_);refine sP 1 (h:=?_);refine sP 2 (h:=?_);refine sT 3 (h:=?_);refine qg (i:=4) rfl (by kernel_rfl) (fun K hK=>?_);go_simp;refine (jr HP5d.out (by omega) (by show 9+4<=64;omega) HU.out.1 HU.out.2 (by show 64<=1000000;omega)).mono ?_;rintro e w6 ⟨rfl,hP6,C6⟩;have HP6:=q_h hP6;have HC6:=q_h C6;replace eC:=C6.cell eC (.inl (by have:=HG.out;show w.heap.size<g;omega));clear hP6 C6;go_wp2_with fail;clear hHeld;refine hK.out _ _ (by exact eC) fun hHeld=>?_
 clear hK K;try simp only[nr]
 refine ql (by kernel_rfl) ?_ _;clear hHeld;have HE6:Hid (Ext w w6):=HC6.out.ext HE5d.out (by have:=HG.out;omega);clear eC q3;go_wp2
 first|go_ret|skip
 rw[hR.out];refine⟨g,rfl,by have:=HG.out;omega,?_,HE6.out⟩;have h9:=HP6.out;rw[hch.out] at h9;exact h9
end
end Go.Proofs.YtdeeekdbhhenpaaGreatDoor
