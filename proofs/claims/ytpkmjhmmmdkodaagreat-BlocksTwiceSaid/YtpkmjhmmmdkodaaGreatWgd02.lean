import Derived.Test.YtpkmjhmmmdkodaaGreatWgd01
set_option linter.all false
set_option maxHeartbeats 8000000
namespace Go.Proofs.YtpkmjhmmmdkodaaGreat
open Go.RowKit
variable {w w':World} {N n lo hi g m base:Nat} {v:Value}
theorem q8f{u:Value}{xs:List Value}{z:Nat->Int}{o:Oper}{a:Act}{K:Act->World->Prop}{Q:Exit->Act->World->Prop}(s x:Operand)
  (ho:o.op=.call { callee:=.builtin .append,args:=#[s,x],argTypes:=#[22,22] }) (hs:a.eval s=v) (h:qZ 3 base w v xs) (hx:a.eval x=u) (hu:IzV N lo hi w u m z) (hn:xs.length+m<=1000000000)
  (hK:∀v' w',qZ 3 base w' v' (xs++zvs z m)->(∃g',base<=g'/\(v.ownBlock=some g'\/w.heap.size<=g')/\Chg g' (g'+1) w w')->K (a.put o.dst v') w'):Oper.wp Tryz.prog o a w K Q:=by
 obtain⟨v',w',hrun,h2,h3⟩:=q84 o.type h hu hn;unfold Oper.wp execOp;simp only[ho,resolve,invoke,builtin,Sem.run_bind,Sem.run_pure,Result.andThen_ok,List.map_toArray,List.map_cons,List.map_nil,hs,hx,hrun];exact hK v' w' h2 h3
def q8w (fw:Bool) (na nb:Nat) (cd ls:Int):Bool:=!fw||(decide (12<na)||(decide (12<nb)||(decide (cd≠0)||decide (ls≠0))))
theorem q99 {fw:Bool}{na nb:Nat}{cd ls:Int}(h:q8w fw na nb cd ls=false):fw=true/\na<=12/\nb<=12/\cd=0/\ls=0:=by
 unfold q8w at h;simp only[Bool.or_eq_false_iff,decide_eq_false_iff_not,Bool.not_eq_false',ne_eq,Decidable.not_not] at h;obtain⟨a,b,c,d,e⟩:=h;exact⟨a,by omega,by omega,d,e⟩
theorem q8N (z:Nat->Int) (n:Nat):zvs z n ++ [.int .i64 (z n)]=zvs z (n+1):=by
 unfold zvs;rw[List.range_succ,List.map_append]
 rfl
theorem ElF.off{Z:Sys}{z:Nat->Nat}{L:Nat->Int}{nl:Nat}{y:q_v}{c:Int}(h:ElF N Z z L nl y n v c w) (C:Chg g (g+1) w w') (hs:w'.heap.size=w.heap.size) (hN:N<=g) (hb:q54 w g) (hz:∀i,i<Z.ns->1<=z i):ElF N Z z L nl y n v c w':=by
 rcases h with h|⟨h1,h2,h3,h4,Z',h5,h6,h7,h8,h9⟩
 ·exact .inl h
 ·have hp:∀i,i<Z'.ns->1<=z (enF (fun k=>!inL L nl k) Z.ns i):=fun i hi=>hz _ ((q80 (fun k=>!inL L nl k) Z.ns).low i (by rw[<-h6];exact hi))
  have h10:=h5.off C hN hb (h8.pos hp);rw[<-hs] at h10;exact .inr ⟨h1,h2,h3,h4,Z',h10,h6,h7,h8,h9⟩
def q9g (N:Nat) (w:World) (Z:Sys) (z:Nat->Nat) (L:Nat->Int) (nl:Nat) (y:q_v) (n:Nat) (e:Ending) (w':World):Prop :=
 ∃(B1:Option Addr) (n1 d1:Nat) (B2:Option Addr) (n2 d2:Nat) (B3:Option Addr) (n3 d3:Nat) (c:Int),e=.returned (.tuple #[.agg #[.slice B1 n1 d1,.slice B2 n2 d2,.slice B3 n3 d3],.int .i64 c])/\Ext w w'/\ElF N Z z L nl y n (.agg #[.slice B1 n1 d1,.slice B2 n2 d2,.slice B3 n3 d3]) c w'
theorem q8J{Z:Sys}{z:Nat->Nat}{L:Nat->Int}{nl:Nat}{y:q_v}{e:Ending}(h:KY N w Z z L nl (xM Z z) y (goE Z z L nl) n e w'):q9g N w Z z L nl y n e w':=by
 obtain⟨e1,h⟩:=h
 rcases h with ⟨h1,rfl⟩|⟨h1,h2,rfl⟩|⟨h1,h2,h3,rfl⟩|⟨h1,h2,h3,v,Z',rfl,h4,h5,h6,h7,h8⟩
 ·exact⟨_,_,_,_,_,_,_,_,_,_,rfl,e1,.inl ⟨h1,fun h9=>absurd h9 h1⟩⟩
 ·exact⟨_,_,_,_,_,_,_,_,_,_,rfl,e1,.inl ⟨by decide,fun _ h9=>by omega⟩⟩
 ·exact⟨_,_,_,_,_,_,_,_,_,_,rfl,e1,.inl ⟨by decide,fun _ _=>⟨h3,rfl⟩⟩⟩
 ·obtain⟨B1,d1,B2,d2,B3,d3,rfl,-⟩:=h4.parts;exact⟨_,_,_,_,_,_,_,_,_,0,rfl,e1,.inr ⟨rfl,h1,h2,h3,Z',h4,h5,h6,h7,h8⟩⟩
theorem q8e {lo' hi':Nat}{u:Value}{Z:Sys}(h:Qn N lo hi w v Z) (hf:FewF Z) (h0:yN Z=0){nl:Nat}{L:Nat->Int}(hu:IzV N lo' hi' w u nl L) (hl:nl<1000) :
  Calls Tryz.prog 13 #[v,u] w (q9g N w Z (zN Z) L nl (q8s Z) (qm (zN Z) Z.ns)):=by
 have hok:=ZY h0;refine (Vm h hf.bz hf.kz h0 (zN_ok hok) hu hl rfl (q9b hok) (K0:=17) (q8z hok (zN_ok hok) hf.br) (q8y hf h0) (fun k hk=>gk17 k (q_l hk (hf.n7 h0)))).mono ?_;intro e w' hh;exact q8J hh
def TwC (N:Nat) (Z:Sys) (L:Nat->Int) (nl:Nat) (w:World) (pv dv:Value) (w':World):Prop :=
 ∃(g:Nat) (y1 y2 y3:Value) (d:Int),pv=.pointer (some ⟨g,0,none⟩)/\dv=.int .i64 d/\Ext w w'/\w'.heap[g]?=some (.cells #[y1,y2,y3] 26 (0,0))/\ElF N Z (zN Z) L nl (q8s Z) (qm (zN Z) Z.ns) (.agg #[y1,y2,y3]) d w'
def lrF (La Lb:Nat->Int) (na t:Nat):Int:=Lb t-(q8k La na (Lb t).toNat:Int)
theorem q94 {lo' hi':Nat}{u:Value}{Z Z1:Sys}{La Lb:Nat->Int}{na nb:Nat}(hf:FewF Z) (h0:yN Z=0) (hl:q05 (q81 na La Lb) (na+nb) Z.ns=0)
  (hra:Reg (vZ (goE Z (zN Z) La na) (qm (zN Z) Z.ns)) (xm (xM Z (zN Z)) (enF (goE Z (zN Z) La na) (qm (zN Z) Z.ns))))
  (hrb:Reg (vZ (goE Z (zN Z) (q81 na La Lb) (na+nb)) (qm (zN Z) Z.ns)) (xm (xM Z (zN Z)) (enF (goE Z (zN Z) (q81 na La Lb) (na+nb)) (qm (zN Z) Z.ns))))
  (hp1:0<vZ (xE (goE Z (zN Z) La na)) (qm (zN Z) Z.ns)) (hp3:0<vZ (xE (goE Z (zN Z) (q81 na La Lb) (na+nb))) (qm (zN Z) Z.ns))
  (hs1:SyL Z (zN Z) La na (q8s Z) (qm (zN Z) Z.ns) Z1) (h:Qn N lo hi w v Z1) (hu:IzV N lo' hi' w u nb (lrF La Lb na)) (hnb:nb<1000) :
  Calls Tryz.prog 13 #[v,u] w (q9f N w (SyL Z1 (fun a=>zN Z (enF (fun k=>!inL La na k) Z.ns a)) (lrF La Lb na) nb (q2V (xM Z (zN Z)) (q8s Z) (goE Z (zN Z) La na) (qm (zN Z) Z.ns)) (vZ (xE (goE Z (zN Z) La na)) (qm (zN Z) Z.ns)))):=by
 obtain⟨hla,-,-⟩:=q8g hl;have ht:=tw_r (Lr:=lrF La Lb na) (nb:=nb) hf h0 hla hra hp1 hs1;have hLr:∀t,t<nb->lrF La Lb na t=Lb t-(q8k La na (Lb t).toNat:Int):=fun t _=>rfl
 obtain⟨f1,f2,-⟩:=q8Q h0 hl hLr hra hrb hs1.1 ht;have hlz:=q96 hl hLr hs1.1;refine (Vm h ht.bz ht.rz ht.code ht.zz hu hnb ht.off ht.ry ht.hM ht.hy ht.hK).mono ?_;rintro e w' ⟨e1,⟨h1,-⟩|⟨-,h2,-⟩|⟨-,-,h3,-⟩|⟨-,-,-,v',Z',rfl,h4,h5,h6,h7,h8⟩⟩
 ·exact absurd hlz h1
 ·rw[f2] at h2;omega
 ·exact absurd f1 h3
 ·obtain⟨v1,v2,v3,rfl,-⟩:=id h4;exact⟨v1,v2,v3,rfl,⟨Z',h4,h5,h6,h7,h8⟩,e1⟩
set_option maxRecDepth 100000 in
theorem q8F {la ua lb ub:Nat}{u u':Value}{Z:Sys}(h:Qn N lo hi w v Z){na nb:Nat}{La Lb:Nat->Int}(hu:IzV N la ua w u na La) (hu':IzV N lb ub w u' nb Lb) :
  Calls Tryz.prog 3 #[v,u,u'] w (zI w (.bool true)):=by
 have HFW:=q_h fun (w':World) (e:Ext w w')=>rf_Few (h.ext e)
 have HCK:=q_h fun (hf:FewF Z) (w':World) (e:Ext w w')=>rf_Check (h.ext e) hf.br hf.kb
 have HSY:=q_h fun (w':World) (e:Ext w w')=>h.ext e
 have HLS:=q_h fun (w':World) (e:Ext w w') (lo' hi' nl:Nat) (u:Value) (L:Nat->Int) (hu:IzV N lo' hi' w' u nl L)=>q8C (h.ext e) hu
 obtain⟨A1,c1,A2,c2,A3,c3,rfl,s1,s2,s3,k1,k2,k3⟩:=h.parts;have hNw:=LsR.le s3;have HA:=q_h hu;have HB:=q_h hu';obtain⟨A4,c4,rfl,hnc,hcn⟩:=hu.form;obtain⟨A5,c5,rfl,hnd,hdn⟩:=hu'.form;unfold maxLen at hcn hdn;clear h s1 s2 s3 hu hu';go_enter Tryz.func3,Tryz.ntmps3;go_upto_region 1 with (fail);refine qp ?_;intro W hE hsz B0;obtain⟨g0,hg0⟩:=qc w.heap.size;have hgw:w.heap.size<=g0:=by rw[hg0.out];exact q_r
 rw[<-hg0.out] at B0 ⊢;clear hsz hg0;obtain⟨a0,a1,a2,-⟩:=cells3 B0;go_wp2_with (go_at_call 8;refine q_o ?_);refine (q7d _).mono ?_;rintro e w1 ⟨rfl,e1⟩;replace hE:=hE.trans e1;replace B0:=e1.block B0;clear a0 a1 a2 e1;obtain⟨a0,a1,a2,-⟩:=cells3 B0;obtain⟨cd,hcd⟩:=qc (yN Z);obtain⟨fw,hfw⟩:=qc (q5Y Z);obtain⟨ls,hls⟩:=qc (q05 (q81 na La Lb) (na+nb) Z.ns);obtain⟨bad,hbad⟩:=qc (q8w fw na nb cd ls);have HB0:=q_h B0;have HE0:=q_h hE;have hg01:g0<w1.heap.size:=qF B0;have hw01:w.heap.size<=w1.heap.size:=hE.size;clear B0 hE;go_upto_region 3 with (fail)
 go_cut [47] (fun bv wx=>bv=.bool bad/\Ext w1 wx)
 case first =>
  cases fw with
  | false =>
   have HX:Hid (bad=true):=by rw[Hid,hbad.out];rfl
   have eC:=(Ext.refl w1).drew;refine qx (fun w'=>w'.cell? ⟨g0,0,none⟩=some (.slice A1 Z.ns c1)/\w'.cell? ⟨g0,1,none⟩=some (.slice A2 Z.nb c2)/\w'.cell? ⟨g0,2,none⟩=some (.slice A3 Z.k c3)) [] (by kernel_rfl) (by exact⟨eC.cell a0,eC.cell a1,eC.cell a2⟩) (fun hHeld=>?_);refine sT 0 (h:=?_);try simp only[nr]
   refine qA (i:=1) rfl (by kernel_rfl) (fun K hK=>?_);go_simp;refine (HFW.out _ (HE0.out.trans eC)).mono ?_;rintro e w2 ⟨rfl,e2⟩;rw[<-hfw.out];replace eC:=eC.trans e2;go_wp2_with fail;clear hHeld;refine hK.out _ _ (by exact⟨eC.cell a0,eC.cell a1,eC.cell a2⟩) fun hHeld=>?_
   clear hK K;try simp only[nr]
   refine sP 2 (h:=?_);try simp only[nr]
   refine sP 3 (h:=?_);try simp only[nr]
   refine sF 4 (h:=?_);try simp only[nr]
   refine sF 5 (h:=?_);try simp only[nr]
   refine sF 6 (h:=?_);try simp only[nr]
   refine sP 7 (h:=?_);try simp only[nr]
   refine sP 8 (h:=?_);try simp only[nr]
   refine sF 9 (h:=?_);try simp only[nr]
   refine sF 10 (h:=?_);try simp only[nr]
   refine sF 11 (h:=?_);try simp only[nr]
   refine sP 12 (h:=?_);try simp only[nr]
   refine sP 13 (h:=?_);try simp only[nr]
   refine sF 14 (h:=?_);try simp only[nr]
   refine sF 15 (h:=?_);try simp only[nr]
   refine sF 16 (h:=?_);try simp only[nr]
   refine sP 17 (h:=?_);try simp only[nr]
   refine sP 18 (h:=?_);try simp only[nr]
   refine sF 19 (h:=?_);try simp only[nr]
   refine sF 20 (h:=?_);try simp only[nr]
   refine sF 21 (h:=?_);try simp only[nr]
   refine sF 22 (h:=?_);try simp only[nr]
   refine sF 23 (h:=?_);try simp only[nr]
   refine sF 24 (h:=?_);try simp only[nr]
   refine sF 25 (h:=?_);try simp only[nr]
   refine sP 26 (h:=?_);try simp only[nr]
   refine qg (by kernel_rfl) ?_ _;clear hHeld;go_wp2_with fail
   go_meet
   exact⟨by rw[HX.out],eC⟩
  | true =>
  have HF:=q_h (few_sys hfw.out.symm)
  by_cases h1:12<na
  ·have t1:decide ((12:Int)<(na:Int))=true:=q_t (by omega);have t1':decide (12<na)=true:=q_t h1;have HX:Hid (bad=true):=by rw[Hid,hbad.out];unfold q8w;rw[t1'];rfl
   clear h1;have eC:=(Ext.refl w1).drew;refine qx (fun w'=>w'.cell? ⟨g0,0,none⟩=some (.slice A1 Z.ns c1)/\w'.cell? ⟨g0,1,none⟩=some (.slice A2 Z.nb c2)/\w'.cell? ⟨g0,2,none⟩=some (.slice A3 Z.k c3)) [] (by kernel_rfl) (by exact⟨eC.cell a0,eC.cell a1,eC.cell a2⟩) (fun hHeld=>?_);refine sT 0 (h:=?_);try simp only[nr]
   refine qA (i:=1) rfl (by kernel_rfl) (fun K hK=>?_);go_simp;refine (HFW.out _ (HE0.out.trans eC)).mono ?_;rintro e w2 ⟨rfl,e2⟩;rw[<-hfw.out];replace eC:=eC.trans e2;go_wp2_with fail;clear hHeld;refine hK.out _ _ (by exact⟨eC.cell a0,eC.cell a1,eC.cell a2⟩) fun hHeld=>?_
   clear hK K;try simp only[nr]
   refine sP 2 (h:=?_);try simp only[nr]
   refine sP 3 (h:=?_);try simp only[nr]
   refine sP 4 (h:=?_);try simp only[nr]
   refine sP 5 (h:=?_);try simp only[nr]
   refine sP 6 (h:=?_);try simp only[nr]
   refine sP 7 (h:=?_);try simp only[nr]
   refine sP 8 (h:=?_);try simp only[nr]
   refine sF 9 (h:=?_);try simp only[nr]
   refine sF 10 (h:=?_);try simp only[nr]
   refine sF 11 (h:=?_);try simp only[nr]
   refine sP 12 (h:=?_);try simp only[nr]
   refine sP 13 (h:=?_);try simp only[nr]
   refine sF 14 (h:=?_);try simp only[nr]
   refine sF 15 (h:=?_);try simp only[nr]
   refine sF 16 (h:=?_);try simp only[nr]
   refine sP 17 (h:=?_);try simp only[nr]
   refine sP 18 (h:=?_);try simp only[nr]
   refine sF 19 (h:=?_);try simp only[nr]
   refine sF 20 (h:=?_);try simp only[nr]
   refine sF 21 (h:=?_);try simp only[nr]
   refine sF 22 (h:=?_);try simp only[nr]
   refine sF 23 (h:=?_);try simp only[nr]
   refine sF 24 (h:=?_);try simp only[nr]
   refine sF 25 (h:=?_);try simp only[nr]
   refine sP 26 (h:=?_);try simp only[nr]
   refine qg (by kernel_rfl) ?_ _;clear hHeld;go_wp2_with fail
   go_meet
   exact⟨by rw[HX.out],eC⟩
  have t1:decide ((12:Int)<(na:Int))=false:=q_f (by omega);have t1':decide (12<na)=false:=q_f h1
  by_cases h2:12<nb
  ·have t2:decide ((12:Int)<(nb:Int))=true:=q_t (by omega);have t2':decide (12<nb)=true:=q_t h2;have HX:Hid (bad=true):=by rw[Hid,hbad.out];unfold q8w;rw[t1',t2'];rfl
   clear h2;have eC:=(Ext.refl w1).drew;refine qx (fun w'=>w'.cell? ⟨g0,0,none⟩=some (.slice A1 Z.ns c1)/\w'.cell? ⟨g0,1,none⟩=some (.slice A2 Z.nb c2)/\w'.cell? ⟨g0,2,none⟩=some (.slice A3 Z.k c3)) [] (by kernel_rfl) (by exact⟨eC.cell a0,eC.cell a1,eC.cell a2⟩) (fun hHeld=>?_);refine sT 0 (h:=?_);try simp only[nr]
   refine qA (i:=1) rfl (by kernel_rfl) (fun K hK=>?_);go_simp;refine (HFW.out _ (HE0.out.trans eC)).mono ?_;rintro e w2 ⟨rfl,e2⟩;rw[<-hfw.out];replace eC:=eC.trans e2;go_wp2_with fail;clear hHeld;refine hK.out _ _ (by exact⟨eC.cell a0,eC.cell a1,eC.cell a2⟩) fun hHeld=>?_
   clear hK K;try simp only[nr]
   refine sP 2 (h:=?_);try simp only[nr]
   refine sP 3 (h:=?_);try simp only[nr]
   refine sP 4 (h:=?_);try simp only[nr]
   refine sP 5 (h:=?_);try simp only[nr]
   refine sP 6 (h:=?_);try simp only[nr]
   refine sP 7 (h:=?_);try simp only[nr]
   refine sP 8 (h:=?_);try simp only[nr]
   refine sP 9 (h:=?_);try simp only[nr]
   refine sP 10 (h:=?_);try simp only[nr]
   refine sP 11 (h:=?_);try simp only[nr]
   refine sP 12 (h:=?_);try simp only[nr]
   refine sP 13 (h:=?_);try simp only[nr]
   refine sF 14 (h:=?_);try simp only[nr]
   refine sF 15 (h:=?_);try simp only[nr]
   refine sF 16 (h:=?_);try simp only[nr]
   refine sP 17 (h:=?_);try simp only[nr]
   refine sP 18 (h:=?_);try simp only[nr]
   refine sF 19 (h:=?_);try simp only[nr]
   refine sF 20 (h:=?_);try simp only[nr]
   refine sF 21 (h:=?_);try simp only[nr]
   refine sF 22 (h:=?_);try simp only[nr]
   refine sF 23 (h:=?_);try simp only[nr]
   refine sF 24 (h:=?_);try simp only[nr]
   refine sF 25 (h:=?_);try simp only[nr]
   refine sP 26 (h:=?_);try simp only[nr]
   refine qg (by kernel_rfl) ?_ _;clear hHeld;go_wp2_with fail
   go_meet
   exact⟨by rw[HX.out],eC⟩
  have t2:decide ((12:Int)<(nb:Int))=false:=q_f (by omega);have t2':decide (12<nb)=false:=q_f h2
  by_cases h0:cd=0
  case neg =>
   have t3:(cd != 0)=true:=by simpa using h0
   have HX:Hid (bad=true):=by rw[Hid,hbad.out];unfold q8w;rw[t1',t2',q_t h0];rfl
   clear h0;have eC:=(Ext.refl w1).drew;refine qx (fun w'=>w'.cell? ⟨g0,0,none⟩=some (.slice A1 Z.ns c1)/\w'.cell? ⟨g0,1,none⟩=some (.slice A2 Z.nb c2)/\w'.cell? ⟨g0,2,none⟩=some (.slice A3 Z.k c3)) [] (by kernel_rfl) (by exact⟨eC.cell a0,eC.cell a1,eC.cell a2⟩) (fun hHeld=>?_);refine sT 0 (h:=?_);try simp only[nr]
   refine qA (i:=1) rfl (by kernel_rfl) (fun K hK=>?_);go_simp;refine (HFW.out _ (HE0.out.trans eC)).mono ?_;rintro e w2 ⟨rfl,e2⟩;rw[<-hfw.out];replace eC:=eC.trans e2;go_wp2_with fail;clear hHeld;refine hK.out _ _ (by exact⟨eC.cell a0,eC.cell a1,eC.cell a2⟩) fun hHeld=>?_
   clear hK K;try simp only[nr]
   refine sP 2 (h:=?_);try simp only[nr]
   refine sP 3 (h:=?_);try simp only[nr]
   refine sP 4 (h:=?_);try simp only[nr]
   refine sP 5 (h:=?_);try simp only[nr]
   refine sP 6 (h:=?_);try simp only[nr]
   refine sP 7 (h:=?_);try simp only[nr]
   refine sP 8 (h:=?_);try simp only[nr]
   refine sP 9 (h:=?_);try simp only[nr]
   refine sP 10 (h:=?_);try simp only[nr]
   refine sP 11 (h:=?_);try simp only[nr]
   refine sP 12 (h:=?_);try simp only[nr]
   refine sP 13 (h:=?_);try simp only[nr]
   refine sT 14 (h:=?_);try simp only[nr]
   refine qA (i:=15) rfl (by kernel_rfl) (fun K hK=>?_);rw[if_pos (by rfl)];go_simp;refine (HCK.out HF.out _ (HE0.out.trans eC)).mono ?_;rintro e w2 ⟨rfl,e2⟩;rw[<-hcd.out];replace eC:=eC.trans e2;go_wp2_with fail;clear hHeld;refine hK.out _ _ (by exact⟨eC.cell a0,eC.cell a1,eC.cell a2⟩) fun hHeld=>?_
   clear hK K;try simp only[nr]
   refine sP 16 (h:=?_);try simp only[nr]
   refine sP 17 (h:=?_);try simp only[nr]
   refine sP 18 (h:=?_);try simp only[nr]
   refine sF 19 (h:=?_);try simp only[nr]
   refine sF 20 (h:=?_);try simp only[nr]
   refine sF 21 (h:=?_);try simp only[nr]
   refine sF 22 (h:=?_);try simp only[nr]
   refine sF 23 (h:=?_);try simp only[nr]
   refine sF 24 (h:=?_);try simp only[nr]
   refine sF 25 (h:=?_);try simp only[nr]
   refine sP 26 (h:=?_);try simp only[nr]
   refine qg (by kernel_rfl) ?_ _;clear hHeld;go_wp2_with fail
   go_meet
   exact⟨by rw[HX.out],eC⟩
  have t3:(cd != 0)=false:=by simpa using h0
  obtain⟨bl,hbl⟩:=qc (ls != 0)
  have HX:Hid (bad=bl):=by
   rw[Hid,hbad.out,hbl.out];unfold q8w;rw[t1',t2',q_f (fun h9=>h9 h0)]
   by_cases h9:ls=0
   ·rw[h9];rfl
   ·rw[q_t h9];symm;simpa using h9
  have t4:(ls != 0)=bl:=hbl.out.symm;have hnn:na<=12/\nb<=12:=⟨by omega,by omega⟩
  clear h0 hbl;have eC:=(Ext.refl w1).drew;refine qx (fun w'=>w'.cell? ⟨g0,0,none⟩=some (.slice A1 Z.ns c1)/\w'.cell? ⟨g0,1,none⟩=some (.slice A2 Z.nb c2)/\w'.cell? ⟨g0,2,none⟩=some (.slice A3 Z.k c3)) [] (by kernel_rfl) (by exact⟨eC.cell a0,eC.cell a1,eC.cell a2⟩) (fun hHeld=>?_);refine sT 0 (h:=?_);try simp only[nr]
  refine qA (i:=1) rfl (by kernel_rfl) (fun K hK=>?_);go_simp;refine (HFW.out _ (HE0.out.trans eC)).mono ?_;rintro e w2 ⟨rfl,e2⟩;rw[<-hfw.out];replace eC:=eC.trans e2;go_wp2_with fail;clear hHeld;refine hK.out _ _ (by exact⟨eC.cell a0,eC.cell a1,eC.cell a2⟩) fun hHeld=>?_
  clear hK K;try simp only[nr]
  refine sP 2 (h:=?_);try simp only[nr]
  refine sP 3 (h:=?_);try simp only[nr]
  refine sP 4 (h:=?_);try simp only[nr]
  refine sP 5 (h:=?_);try simp only[nr]
  refine sP 6 (h:=?_);try simp only[nr]
  refine sP 7 (h:=?_);try simp only[nr]
  refine sP 8 (h:=?_);try simp only[nr]
  refine sP 9 (h:=?_);try simp only[nr]
  refine sP 10 (h:=?_);try simp only[nr]
  refine sP 11 (h:=?_);try simp only[nr]
  refine sP 12 (h:=?_);try simp only[nr]
  refine sP 13 (h:=?_);try simp only[nr]
  refine sT 14 (h:=?_);try simp only[nr]
  refine qA (i:=15) rfl (by kernel_rfl) (fun K hK=>?_);rw[if_pos (by rfl)];go_simp;refine (HCK.out HF.out _ (HE0.out.trans eC)).mono ?_;rintro e w2 ⟨rfl,e2⟩;rw[<-hcd.out];replace eC:=eC.trans e2;go_wp2_with fail;clear hHeld;refine hK.out _ _ (by exact⟨eC.cell a0,eC.cell a1,eC.cell a2⟩) fun hHeld=>?_
  clear hK K;try simp only[nr]
  refine sP 16 (h:=?_);try simp only[nr]
  refine sP 17 (h:=?_);try simp only[nr]
  refine sP 18 (h:=?_);try simp only[nr]
  refine sT 19 (h:=?_);try simp only[nr]
  refine sP 20 (h:=?_);try simp only[nr]
  refine sP 22 (h:=?_);try simp only[nr]
  refine qA (i:=21) rfl (by kernel_rfl) (fun K hK=>?_);rw[if_pos (by rfl)];go_simp;refine (q8c (HA.out.ext (HE0.out.trans eC)) (by omega)).mono ?_;rintro e w2 ⟨Aj,cj,rfl,hj,ej⟩;replace hj:=hj.low eC.size;replace eC:=eC.trans ej;go_wp2_with fail;clear hHeld;refine hK.out _ _ (by exact⟨eC.cell a0,eC.cell a1,eC.cell a2⟩) fun hHeld=>?_
  clear hK K;try simp only[nr]
  refine qA (i:=23) rfl (by kernel_rfl) (fun K hK=>?_);rw[if_pos (by rfl)];refine q8f _ _ (by rfl) (by rfl) hj (by rfl) (HB.out.ext (HE0.out.trans eC)) (by rw[q7Z];omega) ?_;rintro v23 w23 hg23 ⟨g23,hlo23,hown23,C23⟩;replace eC:=C23.ext eC hlo23;rw[q8m] at hg23;clear hHeld;refine hK.out _ _ (by exact⟨eC.cell a0,eC.cell a1,eC.cell a2⟩) fun hHeld=>?_
  clear hK K;try simp only[nr]
  refine qA (i:=24) rfl (by kernel_rfl) (fun K hK=>?_);rw[if_pos (by rfl)];go_simp;refine (HLS.out _ (HE0.out.trans eC) 0 0 _ _ _ (q89 hg23)).mono ?_;rintro e w24 ⟨rfl,e24⟩;rw[<-hls.out];replace eC:=eC.trans e24;go_wp2_with fail;clear hHeld;refine hK.out _ _ (by exact⟨eC.cell a0,eC.cell a1,eC.cell a2⟩) fun hHeld=>?_
  clear hK K;try simp only[nr]
  refine sP 25 (h:=?_);try simp only[nr]
  refine sP 26 (h:=?_);try simp only[nr]
  refine qg (by kernel_rfl) ?_ _;clear hHeld;go_wp2_with fail
  go_meet
  exact⟨by rw[HX.out],eC⟩
 obtain⟨rfl,hcut⟩:=hcut;obtain⟨w5,hw5⟩:∃w5,w5=wc:=⟨_,rfl⟩
 subst hw5;have HE5:Hid (Ext w w5):=HE0.out.trans hcut;have HB5:=q_h (hcut.block HB0.out);clear hcut a0 a1 a2;cases bad with
 | true =>
  go_wp2
  first|go_ret|skip
  exact⟨rfl,HE5.out⟩
 | false =>
 obtain⟨hf1,hna,hnb,h0,hl0⟩:=q99 hbad.out.symm;have HF:=q_h (few_sys (by rw[<-hfw.out];exact hf1));have HC0:Hid (yN Z=0):=by rw[Hid,<-hcd.out];exact h0
 have HL0:Hid (q05 (q81 na La Lb) (na+nb) Z.ns=0):=by rw[Hid,<-hls.out];exact hl0
 have HZP:Hid (∀i,i<Z.ns->1<=zN Z i):=fun i hi=>by
  have hok:=ZY HC0.out;have h7:=zQ.1 (hok.szs _ hi);have h8:=zN_ok hok _ hi;omega
 clear hf1 h0 hl0 hbad hfw hcd hls HB0 HE0 HFW HCK HLS hg01 hw01;have hg05:g0<w5.heap.size:=qF HB5.out;have hw05:w.heap.size<=w5.heap.size:=HE5.out.size;obtain⟨a0,a1,a2,-⟩:=cells3 HB5.out;go_wp2_with (go_at_call 13;refine q_o ?_);refine (q8e (HSY.out _ HE5.out) HF.out HC0.out (HA.out.ext HE5.out) (by omega)).mono ?_;rintro e w6 ⟨B1,n1,d1,B2,n2,d2,B3,n3,d3,c,rfl,e6,hF6⟩;go_upto_region 6 with (fail);refine qp ?_;intro w7 e7 hsz7 B7;obtain⟨gs,hgs⟩:=qc w6.heap.size;rw[<-hgs.out] at B7 ⊢;have HE7:Hid (Ext w w7):=(HE5.out.trans e6).trans e7;have HB7:=q_h ((e6.trans e7).block HB5.out);have HS7:=q_h B7;have HF7:=q_h (hF6.ext e7);have hw07:w.heap.size<=w7.heap.size:=HE7.out.size;clear a0 a1 a2 hsz7 hgs B7 hF6 e6 e7 HB5 HE5 hg05 hw05;obtain⟨a0,a1,a2,-⟩:=cells3 HB7.out
 go_cut [9,10] (fun pv dv wx=>TwC N Z (q81 na La Lb) (na+nb) w7 pv dv wx)
 case first =>
  have eC:=(Ext.refl w7).drew;refine qx (fun w'=>w'.cell? ⟨g0,0,none⟩=some (.slice A1 Z.ns c1)/\w'.cell? ⟨g0,1,none⟩=some (.slice A2 Z.nb c2)/\w'.cell? ⟨g0,2,none⟩=some (.slice A3 Z.k c3)) [10,11] (by kernel_rfl) (by exact⟨eC.cell a0,eC.cell a1,eC.cell a2⟩) (fun hHeld=>?_);refine sT 0 (h:=?_);try simp only[nr]
  refine sP 1 (h:=?_);try simp only[nr]
  refine sP 3 (h:=?_);try simp only[nr]
  refine Jl (i:=2) (j:=9) rfl rfl (by kernel_rfl) (fun K hK=>?_) (fun K hK=>?_)
  focus
   go_simp;try have hT2:=qF BT
   have hs2:=eC.size;refine (q8c (HA.out.ext (HE7.out.trans eC)) (by omega)).mono ?_;rintro e w8 ⟨Aj,cj,rfl,hj,e8⟩;have hown:=hj.own_lt;replace hj:=hj.low hs2;replace eC:=eC.trans e8;try replace BT:=e8.block BT
   go_wp2_with fail;clear hHeld;refine hK.out _ _ (by exact⟨eC.cell a0,eC.cell a1,eC.cell a2⟩) fun hHeld=>?_
   clear hK K;try simp only[nr]
   refine Jl (i:=4) (j:=9) rfl rfl (by kernel_rfl) (fun K hK=>?_) (fun K hK=>?_)
   focus
    refine q83 rfl _ _ rfl (by rfl) hj (by rfl) (HB.out.ext (HE7.out.trans eC)) (by rw[q7Z];omega) ?_;rintro v9 w9 hj9 ⟨g9,hlo9,hown9,C9⟩;rw[q8m] at hj9;try replace BT:=C9.blk BT (by have h9:=qF BT;exact hown9.elim (fun h8=>by have:=hown _ h8;omega) (fun h8=>by omega))
    replace eC:=C9.ext eC hlo9;clear hHeld;refine hK.out _ _ (by exact⟨eC.cell a0,eC.cell a1,eC.cell a2⟩) fun hHeld=>?_
    clear hK K;try simp only[nr]
    refine Jl (i:=5) (j:=9) rfl rfl (by kernel_rfl) (fun K hK=>?_) (fun K hK=>?_)
    focus
     go_simp;refine (q8e (HSY.out _ (HE7.out.trans eC)) HF.out HC0.out (q89 (N:=N) (lo:=0) (hi:=0) hj9) (by omega)).mono ?_;rintro e w11 ⟨C1,m1,f1,C2,m2,f2,C3,m3,f3,d,rfl,e11,hF⟩;replace eC:=eC.trans e11;try replace BT:=e11.block BT
     go_wp2_with fail;clear hHeld;refine hK.out _ _ (by exact⟨eC.cell a0,eC.cell a1,eC.cell a2⟩) fun hHeld=>?_
     clear hK K;try simp only[nr]
     refine sP 6 (h:=?_);try simp only[nr]
     refine sP 7 (h:=?_);try simp only[nr]
     refine sP 8 (h:=?_);try simp only[nr]
     refine qA (i:=9) rfl (by kernel_rfl) (fun K hK=>?_);go_simp
     first|refine qp ?_|refine Vg ?_
     intro w10 e10 hsz10 BT;have hT9:=eC.size;try replace hF:=hF.ext e10
     try replace hj:=hj.ext e10
     try replace hj9:=hj9.ext e10
     replace eC:Ext w7 w10:=by first|exact eC.trans e10|exact e10
     clear hHeld;refine hK.out _ _ (by exact⟨eC.cell a0,eC.cell a1,eC.cell a2⟩) fun hHeld=>?_
     clear hK K;try simp only[nr]
    rotate_left 1
    focus
     go_simp
     first|refine qp ?_|refine Vg ?_
     intro w10 e10 hsz10 BT;have hT9:=eC.size;try replace hF:=hF.ext e10
     try replace hj:=hj.ext e10
     try replace hj9:=hj9.ext e10
     replace eC:Ext w7 w10:=by first|exact eC.trans e10|exact e10
     clear hHeld;refine hK.out _ _ (by exact⟨eC.cell a0,eC.cell a1,eC.cell a2⟩) fun hHeld=>?_
     clear hK K;try simp only[nr]
     refine qA (i:=5) rfl (by kernel_rfl) (fun K hK=>?_);go_simp;refine (q8e (HSY.out _ (HE7.out.trans eC)) HF.out HC0.out (q89 (N:=N) (lo:=0) (hi:=0) hj9) (by omega)).mono ?_;rintro e w11 ⟨C1,m1,f1,C2,m2,f2,C3,m3,f3,d,rfl,e11,hF⟩;replace eC:=eC.trans e11;try replace BT:=e11.block BT
     go_wp2_with fail;clear hHeld;refine hK.out _ _ (by exact⟨eC.cell a0,eC.cell a1,eC.cell a2⟩) fun hHeld=>?_
     clear hK K;try simp only[nr]
     refine sP 6 (h:=?_);try simp only[nr]
     refine sP 7 (h:=?_);try simp only[nr]
     refine sP 8 (h:=?_);try simp only[nr]
    rotate_left 1
   rotate_left 2
   focus
    go_simp
    first|refine qp ?_|refine Vg ?_
    intro w10 e10 hsz10 BT;have hT9:=eC.size;try replace hF:=hF.ext e10
    try replace hj:=hj.ext e10
    try replace hj9:=hj9.ext e10
    replace eC:Ext w7 w10:=by first|exact eC.trans e10|exact e10
    clear hHeld;refine hK.out _ _ (by exact⟨eC.cell a0,eC.cell a1,eC.cell a2⟩) fun hHeld=>?_
    clear hK K;try simp only[nr]
    refine qA (i:=4) rfl (by kernel_rfl) (fun K hK=>?_);refine q83 rfl _ _ rfl (by rfl) hj (by rfl) (HB.out.ext (HE7.out.trans eC)) (by rw[q7Z];omega) ?_;rintro v9 w9 hj9 ⟨g9,hlo9,hown9,C9⟩;rw[q8m] at hj9;try replace BT:=C9.blk BT (by have h9:=qF BT;exact hown9.elim (fun h8=>by have:=hown _ h8;omega) (fun h8=>by omega))
    replace eC:=C9.ext eC hlo9;clear hHeld;refine hK.out _ _ (by exact⟨eC.cell a0,eC.cell a1,eC.cell a2⟩) fun hHeld=>?_
    clear hK K;try simp only[nr]
    refine qA (i:=5) rfl (by kernel_rfl) (fun K hK=>?_);go_simp;refine (q8e (HSY.out _ (HE7.out.trans eC)) HF.out HC0.out (q89 (N:=N) (lo:=0) (hi:=0) hj9) (by omega)).mono ?_;rintro e w11 ⟨C1,m1,f1,C2,m2,f2,C3,m3,f3,d,rfl,e11,hF⟩;replace eC:=eC.trans e11;try replace BT:=e11.block BT
    go_wp2_with fail;clear hHeld;refine hK.out _ _ (by exact⟨eC.cell a0,eC.cell a1,eC.cell a2⟩) fun hHeld=>?_
    clear hK K;try simp only[nr]
    refine sP 6 (h:=?_);try simp only[nr]
    refine sP 7 (h:=?_);try simp only[nr]
    refine sP 8 (h:=?_);try simp only[nr]
   rotate_left 1
  rotate_left 3
  focus
   go_simp
   first|refine qp ?_|refine Vg ?_
   intro w10 e10 hsz10 BT;have hT9:=eC.size;try replace hF:=hF.ext e10
   try replace hj:=hj.ext e10
   try replace hj9:=hj9.ext e10
   replace eC:Ext w7 w10:=by first|exact eC.trans e10|exact e10
   clear hHeld;refine hK.out _ _ (by exact⟨eC.cell a0,eC.cell a1,eC.cell a2⟩) fun hHeld=>?_
   clear hK K;try simp only[nr]
   refine qA (i:=2) rfl (by kernel_rfl) (fun K hK=>?_);go_simp;try have hT2:=qF BT
   have hs2:=eC.size;refine (q8c (HA.out.ext (HE7.out.trans eC)) (by omega)).mono ?_;rintro e w8 ⟨Aj,cj,rfl,hj,e8⟩;have hown:=hj.own_lt;replace hj:=hj.low hs2;replace eC:=eC.trans e8;try replace BT:=e8.block BT
   go_wp2_with fail;clear hHeld;refine hK.out _ _ (by exact⟨eC.cell a0,eC.cell a1,eC.cell a2⟩) fun hHeld=>?_
   clear hK K;try simp only[nr]
   refine qA (i:=4) rfl (by kernel_rfl) (fun K hK=>?_);refine q83 rfl _ _ rfl (by rfl) hj (by rfl) (HB.out.ext (HE7.out.trans eC)) (by rw[q7Z];omega) ?_;rintro v9 w9 hj9 ⟨g9,hlo9,hown9,C9⟩;rw[q8m] at hj9;try replace BT:=C9.blk BT (by have h9:=qF BT;exact hown9.elim (fun h8=>by have:=hown _ h8;omega) (fun h8=>by omega))
   replace eC:=C9.ext eC hlo9;clear hHeld;refine hK.out _ _ (by exact⟨eC.cell a0,eC.cell a1,eC.cell a2⟩) fun hHeld=>?_
   clear hK K;try simp only[nr]
   refine qA (i:=5) rfl (by kernel_rfl) (fun K hK=>?_);go_simp;refine (q8e (HSY.out _ (HE7.out.trans eC)) HF.out HC0.out (q89 (N:=N) (lo:=0) (hi:=0) hj9) (by omega)).mono ?_;rintro e w11 ⟨C1,m1,f1,C2,m2,f2,C3,m3,f3,d,rfl,e11,hF⟩;replace eC:=eC.trans e11;try replace BT:=e11.block BT
   go_wp2_with fail;clear hHeld;refine hK.out _ _ (by exact⟨eC.cell a0,eC.cell a1,eC.cell a2⟩) fun hHeld=>?_
   clear hK K;try simp only[nr]
   refine sP 6 (h:=?_);try simp only[nr]
   refine sP 7 (h:=?_);try simp only[nr]
   refine sP 8 (h:=?_);try simp only[nr]
  rotate_left 1
  all_goals
   refine qj (i:=10) rfl (by kernel_rfl) (by kernel_rfl) (fun K hK=>?_);obtain⟨r0,r1,r2,r3,r4,r5⟩:=cells3 BT;go_simp;obtain⟨w12,E12,B12,U12⟩:=ex3 BT (.slice C1 m1 f1) (.slice C2 m2 f2) (.slice C3 m3 f3);rw[E12];have C12:=U12.chg (NoU.mk BT (by decide));have hF12:=hF.off C12 U12.size (by omega) (q54.three BT) HZP.out;have eC12:=C12.ext eC (by omega);clear r0 r1 r2 r3 r4 r5;refine hK.out _ _ ?_;clear hK K;try simp only[nr]
   refine qj (i:=11) rfl (by kernel_rfl) (by kernel_rfl) (fun K hK=>?_);go_simp;refine hK.out _ _ ?_;clear hK K;try simp only[nr]
   refine qg (by kernel_rfl) ?_ _;clear hHeld
  all_goals
   go_wp2_with fail
   go_meet
   exact⟨_,_,_,_,d,rfl,rfl,eC12,B12,hF12⟩
 obtain⟨gT,y1,y2,y3,d,rfl,rfl,hcE,hBT,hF3⟩:=hcut;obtain⟨w8,hw8⟩:∃w8,w8=wc:=⟨_,rfl⟩
 subst hw8;have HE8:Hid (Ext w w8):=HE7.out.trans hcE;have HS8:=q_h (hcE.block HS7.out);have HT8:=q_h hBT;have HF8:=q_h (HF7.out.ext hcE);have HG8:=q_h hF3;clear a0 a1 a2 hcE hBT hF3 HB7 HS7 HF7 HE7 hw07
 by_cases hc0:c=0
 case neg =>
  have t1:(c != 0)=true:=by simpa using hc0
  clear hc0;go_wp2
  first|go_ret|skip
  exact⟨rfl,HE8.out⟩
 have t1:(c != 0)=false:=by simpa using hc0
 by_cases hd0:d=0
 case neg =>
  have t2:(d != 0)=true:=by simpa using hd0
  clear hd0 hc0;go_wp2
  first|go_ret|skip
  exact⟨rfl,HE8.out⟩
 have t2:(d != 0)=false:=by simpa using hd0
 obtain⟨Z1,Z3,HSL1,HSV1,HSL3,HSV3,HRA,HRC,HP1,HP3⟩:∃Z1 Z3:Sys,Hid (SyL Z (zN Z) La na (q8s Z) (qm (zN Z) Z.ns) Z1)/\Hid (Qn N 0 w8.heap.size w8 (.agg #[.slice B1 n1 d1,.slice B2 n2 d2,.slice B3 n3 d3]) Z1)/\Hid (SyL Z (zN Z) (q81 na La Lb) (na+nb) (q8s Z) (qm (zN Z) Z.ns) Z3)/\Hid (Qn N 0 w8.heap.size w8 (.agg #[y1,y2,y3]) Z3) /\
   Hid (Reg (vZ (goE Z (zN Z) La na) (qm (zN Z) Z.ns)) (xm (xM Z (zN Z)) (enF (goE Z (zN Z) La na) (qm (zN Z) Z.ns))))/\Hid (Reg (vZ (goE Z (zN Z) (q81 na La Lb) (na+nb)) (qm (zN Z) Z.ns)) (xm (xM Z (zN Z)) (enF (goE Z (zN Z) (q81 na La Lb) (na+nb)) (qm (zN Z) Z.ns)))) /\
   Hid (0<vZ (xE (goE Z (zN Z) La na)) (qm (zN Z) Z.ns))/\Hid (0<vZ (xE (goE Z (zN Z) (q81 na La Lb) (na+nb))) (qm (zN Z) Z.ns)):=by
  rcases HF8.out with ⟨h9,-⟩|⟨-,-,p1,r1,Z1,q1,q2,q3,q4,q5⟩
  ·exact absurd hc0 h9
  rcases HG8.out with ⟨h9,-⟩|⟨-,-,p3,r3,Z3,u1,u2,u3,u4,u5⟩
  ·exact absurd hd0 h9
  exact⟨Z1,Z3,⟨q2,q3,q4,q5⟩,q1,⟨u2,u3,u4,u5⟩,u1,r1,r3,p1,p3⟩
 clear hc0 hd0 HF8 HG8 HZP
 have HLB:Hid (∀i,i<nb->0<=Lb i/\Lb i<100):=fun i hi=>by
  have h1:=q82 (q8g HL0.out).2.1 i hi;have h2:=(ZY HC0.out).n2;omega
 have HGR:Hid (qZ 3 w8.heap.size w8 (.slice none 0 0) (zvs (lrF La Lb na) 0)):=qZ.nil (q_r);go_wp2_with fail
 go_loopw [71,11] (fun iv ov wr=>∃(i:Nat) (A:Option Addr) (c:Nat),i<=nb/\iv=.int .i64 (i:Int)/\ov=.slice A i c/\Hid (qZ 3 w8.heap.size wr (.slice A i c) (zvs (lrF La Lb na) i))/\Hid (Ext w8 wr)) (fun iv _ _=>nb-(intOf iv).toNat)
 case atStart=>exact⟨0,none,0,Nat.zero_le _,rfl,rfl,HGR,Ext.refl _⟩
 case round =>
  clear HGR t1 t2;obtain⟨i,A,cg,hi9,rfl,rfl,HG,HE⟩:=hrel
  by_cases hlt:i<nb
  case pos =>
   have t1:decide ((i:Int)<(nb:Int))=true:=q_t (by omega);have t2:(i:Int)<(nb:Int):=by omega
   obtain⟨b,off,rfl,hx⟩:=(HB.out.ext (HE8.out.trans HE.out)).addr (by omega);have p0:=hx i hlt;have hq1:=HLB.out i hlt;obtain⟨q,hq⟩:=qc (Lb i);obtain⟨K,hK⟩:=qc q.toNat;rw[<-hq.out] at p0 hq1;have HLR:Hid (lrF La Lb na i=q-(q8k La na K:Int)):=by rw[Hid,hK.out,hq.out];rfl
   have hqK:q=(K:Int):=by have:=hK.out;omega
   have hK9:K<100:=by omega
   subst hqK;obtain⟨wq,hwq⟩:∃wq,wq=wr:=⟨_,rfl⟩
   subst hwq;have HXE:=HE;have HGG:=HG;clear hx hq hK hq1 HG HE;go_wp2_with fail
   go_loopw [78,14] (fun jv nv wr=>∃j m:Nat,j<=na/\m<=j/\jv=.int .i64 (j:Int)/\nv=.int .i64 ((K:Int)-(m:Int))/\Hid (m=q8k La j K)/\wr=wq) (fun jv _ _=>na-(intOf jv).toNat)
   case atStart=>exact⟨0,0,Nat.zero_le _,q_r,rfl,by simp,rfl,rfl⟩
   case round =>
    obtain⟨j,m,hj9,hmj,rfl,rfl,HM,rfl⟩:=hrel
    by_cases hjt:j<na
    case pos =>
     have t3:decide ((j:Int)<(na:Int))=true:=q_t (by omega);have t4:(j:Int)<(na:Int):=by omega
     obtain⟨b',off',rfl,hx'⟩:=(HA.out.ext (HE8.out.trans HXE.out)).addr (by omega);have p1:=hx' j hjt;obtain⟨r,hr⟩:=qc (La j);rw[<-hr.out] at p1;have t5:IntKind.i64.wrap ((K:Int)-(m:Int)-1)=(K:Int)-((m+1:Nat):Int):=by rw[wrp (by omega) (by omega)];omega
     clear hx'
     by_cases hrq:r<(K:Int)
     ·have t6:decide (r<(K:Int))=true:=q_t hrq
      have HM2:Hid (m+1=q8k La (j+1) K):=by
       show m+1=q8k La j K+(if La j<(K:Int) then 1 else 0)
       rw[<-hr.out,if_pos hrq,HM.out]
      clear hrq;go_wp2;go_roundw
      case rel=>exact⟨j+1,m+1,by omega,by omega,by go_num,rfl,HM2,by first|rfl|trivial⟩
      case measure=>simp[intOf];omega
     ·have t6:decide (r<(K:Int))=false:=q_f hrq
      have HM2:Hid (m=q8k La (j+1) K):=by
       show m=q8k La j K+(if La j<(K:Int) then 1 else 0)
       rw[<-hr.out,if_neg hrq,Nat.add_zero];exact HM.out
      clear hrq;go_wp2;go_roundw
      case rel=>exact⟨j+1,m,by omega,by omega,by go_num,rfl,HM2,by first|rfl|trivial⟩
      case measure=>simp[intOf];omega
    have t3:decide ((j:Int)<(na:Int))=false:=q_f (by omega);obtain rfl:na=j:=by omega
    have HLM:Hid (lrF La Lb na i=(K:Int)-(m:Int)):=by rw[Hid,HLR.out,HM.out]
    have hzl:(zvs (lrF La Lb na) i).length=i:=q7Z _ _;have hxl:(zvs (lrF La Lb na) i).length+1<=1000000000:=by omega
    go_wp2_with (at_builtin;refine q_o ?_);refine qp ?_;intro w10 e10 hsz10 B10;refine kJ Qb rfl _ _ 22 Tryz.underlying22 rfl (by rfl) (HGG.out.ext e10) (m:=1) (c:=1) (news:=[.int .i64 ((K:Int)-(m:Int))]) (by rfl) rfl (yK B10) (fun x hx=>by rw[List.mem_singleton.1 hx];rfl) (by omega) hxl ?_;rintro g11 cap11 w11 hG11 hat11 ⟨g9,hlo,hw9,C9,-⟩;rw[<-HLM.out,q8N,hzl] at hG11;rw[hzl];have HG11:=q_h hG11;have HE11:Hid (Ext w8 w11):=C9.ext (HXE.out.trans e10) hlo;clear hG11 hat11 hlo hw9 C9 B10 e10 hsz10 hxl hzl;go_wp2;go_roundw
    case rel=>exact⟨i+1,_,_,by omega,by go_num,rfl,HG11,HE11⟩
    case measure=>simp[intOf];omega
  have t1:decide ((i:Int)<(nb:Int))=false:=q_f (by omega);obtain rfl:nb=i:=by omega
  have HIZ:Hid (IzV N 0 0 wr (.slice A nb cg) nb (lrF La Lb na)):=q89 HG.out;obtain⟨w9,hw9⟩:∃w9,w9=wr:=⟨_,rfl⟩
  subst hw9;have HE9:Hid (Ext w w9):=HE8.out.trans HE.out;have HS9:=q_h (HE.out.block HS8.out);have HT9:=q_h (HE.out.block HT8.out);have HV9:=q_h (HSV1.out.up HE.out);have HU9:=q_h (HSV3.out.up HE.out);clear HG HE hlt hi9 HS8 HT8 HSV1 HSV3 HE8;obtain⟨a0,a1,a2,-⟩:=cells3 HS9.out;go_wp2_with (go_at_call 13;refine q_o ?_);refine (q94 HF.out HC0.out HL0.out HRA.out HRC.out HP1.out HP3.out HSL1.out HV9.out HIZ.out (by omega)).mono ?_;rintro e w10 ⟨z1,z2,z3,rfl,⟨Z2,hs2,hl2⟩,e10⟩;have HEQ:Hid (q95 Z2 Z3):=tw_eq HF.out HC0.out HL0.out (fun t _=>rfl) HRA.out HRC.out HSL1.out.1 (tw_r (Lr:=lrF La Lb na) (nb:=nb) HF.out HC0.out (q8g HL0.out).1 HRA.out HP1.out HSL1.out) hl2 HSL3.out;obtain⟨D1,m1,D2,m2,D3,m3,hv2,-⟩:=hs2.parts;simp only[Value.agg.injEq,Array.mk.injEq,List.cons.injEq,and_true] at hv2;obtain⟨rfl,rfl,rfl⟩:=hv2;clear a0 a1 a2;go_upto_region 23 with (fail);refine qp ?_;intro w11 e11 hsz11 B11;obtain⟨g11,hg11⟩:=qc w10.heap.size;rw[<-hg11.out] at B11 ⊢;have HX:Hid (Ext w9 w11):=e10.trans e11;obtain⟨a0,a1,a2,-⟩:=cells3 B11;obtain⟨b0,b1,b2,-⟩:=cells3 (HX.out.block HT9.out);have HV2:=q_h (hs2.up e11);have HV3:=q_h (HU9.out.up HX.out);clear hs2 hl2 e10 e11 hsz11 B11 hg11;go_wp2_with (go_at_call 14;refine q_o ?_);refine (q8O HV2.out HV3.out HEQ.out).mono ?_;rintro e w12 ⟨rfl,e12⟩;clear a0 a1 a2 b0 b1 b2;go_wp2
  first|go_ret|skip
  exact⟨rfl,(HE9.out.trans HX.out).trans e12⟩
end Go.Proofs.YtpkmjhmmmdkodaaGreat
