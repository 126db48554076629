import Derived.Test.YtflhlobiipejeaaGreatWb13
set_option linter.all false
set_option maxHeartbeats 8000000
namespace Go.Proofs.YtflhlobiipejeaaGreat
open Go.RowKit
variable {w:World} {N n lo hi k i m b:Nat}
theorem XL (w:World) (kl kc:IntKind) (n:Nat) (hn:n*24<=281474976710656) :
  ∃w' cs,(Instr.makeSlice 29 (.int kl n) (.int kc n)).run Tryz.prog w=.ok (.slice (some ⟨w.heap.size,0,none⟩) n n) w'/\w'.heap[w.heap.size]?=some (.cells cs 37 (0,0))/\cs.size=n/\Ext w w':=by
 obtain⟨i0,hi0,hz0,hz1,hz2⟩:=info_parts Jk;obtain⟨w',hrun,hown,hgr⟩:=run_make_full (P:=Tryz.prog) w w.heap.size 29 37 i0 _ 1 Tryz.underlying29 hi0 hz0 hz1 kl kc n (by rw[hz2];omega) (by unfold maxLen;omega) (q_r);have hx:=(Ext.refl w).grown hgr (fun k hk=>by cases hk)
 rcases hown.2 with ⟨h,_⟩|⟨g,cap,cur,hv,hg,hh,hnc,hcm,hcs,htk⟩
 ·cases h
 ·have e1:w.heap.size=g:=Option.some.inj (congrArg Value.ownBlock hv);have e3:n=cap:=congrArg (fun v:Value=>match v with|.slice _ _ c=>c|_=>0) hv;subst e1 e3;exact⟨w',cur,hrun,hh,by omega,hx⟩
theorem XM (w:World) (kl kc:IntKind) (n:Nat) (hn:n*64<=281474976710656) :
  ∃w' cs,(Instr.makeSlice 37 (.int kl n) (.int kc n)).run Tryz.prog w=.ok (.slice (some ⟨w.heap.size,0,none⟩) n n) w'/\w'.heap[w.heap.size]?=some (.cells cs 35 (0,0))/\cs.size=n*4/\Ext w w':=by
 obtain⟨i0,hi0,hz0,hz1,hz2⟩:=info_parts yJ;obtain⟨w',hrun,hown,hgr⟩:=run_make_full (P:=Tryz.prog) w w.heap.size 37 35 i0 _ 4 Tryz.underlying37 hi0 hz0 hz1 kl kc n (by rw[hz2];omega) (by unfold maxLen;omega) (q_r);have hx:=(Ext.refl w).grown hgr (fun k hk=>by cases hk)
 rcases hown.2 with ⟨h,_⟩|⟨g,cap,cur,hv,hg,hh,hnc,hcm,hcs,htk⟩
 ·cases h
 ·have e1:w.heap.size=g:=Option.some.inj (congrArg Value.ownBlock hv);have e3:n=cap:=congrArg (fun v:Value=>match v with|.slice _ _ c=>c|_=>0) hv;subst e1 e3;exact⟨w',cur,hrun,hh,hcs,hx⟩
theorem zK{ops:Array Oper}{rest:List Oper}{o:Oper}{a:Act}{Q:Exit->Act->World->Prop}(hg:o.guard=none) (l c:Operand) (hop:o.op=Op.makeSlice 29 l c)
  (kl kc:IntKind) (L C:Int) (n:Nat) (hl:a.eval l=.int kl L) (hc:a.eval c=.int kc C) (hL:L=(n:Int)) (hC:C=(n:Int)) (hn:n<1000000)
  (hK:∀w' cs,w'.heap[w.heap.size]?=some (.cells cs 37 (0,0))->cs.size=n->Ext w w'->wpList Tryz.prog ops Q rest (a.put o.dst (.slice (some ⟨w.heap.size,0,none⟩) n n)) w'):wpList Tryz.prog ops Q (o :: rest) a w:=by
 refine wpList_plain hg fun K hK'=>?_
 obtain⟨w',cs,hrun,r1,r2,r3⟩:=XL w kl kc n (by omega);subst hL;subst hC;unfold Oper.wp;simp[execOp,hop,hl,hc,hrun,Result.andThen]
 exact hK' _ _ (hK w' cs r1 r2 r3)
theorem zh{ops:Array Oper}{rest:List Oper}{o:Oper}{a:Act}{Q:Exit->Act->World->Prop}(hg:o.guard=none) (l c:Operand) (hop:o.op=Op.makeSlice 37 l c)
  (kl kc:IntKind) (L C:Int) (n:Nat) (hl:a.eval l=.int kl L) (hc:a.eval c=.int kc C) (hL:L=(n:Int)) (hC:C=(n:Int)) (hn:n<1000000)
  (hK:∀w' cs,w'.heap[w.heap.size]?=some (.cells cs 35 (0,0))->cs.size=n*4->Ext w w'->wpList Tryz.prog ops Q rest (a.put o.dst (.slice (some ⟨w.heap.size,0,none⟩) n n)) w'):wpList Tryz.prog ops Q (o :: rest) a w:=by
 refine wpList_plain hg fun K hK'=>?_
 obtain⟨w',cs,hrun,r1,r2,r3⟩:=XM w kl kc n (by omega);subst hL;subst hC;unfold Oper.wp;simp[execOp,hop,hl,hc,hrun,Result.andThen]
 exact hK' _ _ (hK w' cs r1 r2 r3)
theorem qU.more{h:Nat}{β κ:Nat->Nat}{A:q_m}(o:qU N lo hi w h k m n β κ A) (hm:m<k){cap:Nat}{x:q_v}(hc:w.cell? ⟨h,m,none⟩=some (.slice (some ⟨b,0,none⟩) n cap)) (hr:kS N w b cap n x) (hb:hi<=b) (hcm:cap<=maxLen) :
  qU N lo w.heap.size w h k (m+1) n (fun i=>if i=m then b else β i) (fun i=>if i=m then cap else κ i) (xE A m x):=by
 obtain⟨hs,h1,h2,h3⟩:=o.hh;have hlt:=hr.lt;have hlo:=o.hlo;have hhi:=o.hhi;have his:=o.his;refine⟨o.le,⟨hs,h1,h2,fun i hi'=>?_⟩,by omega,hlo,by omega,q_r,fun i hi'=>?_,fun i hi'=>?_,fun i hi'=>?_,fun i hi'=>?_,fun i j hi' hj' hij=>?_⟩
 ·by_cases e:i=m
  ·subst e;rw[qh h1] at hc;rw[hc];simp
  ·rw[h3 i (by omega)];simp[e]
 ·by_cases e:i=m
  ·simp only[e,if_true];omega
  ·simp only[e,if_false];exact o.lo_ i (by omega)
 ·by_cases e:i=m
  ·simp only[e,if_true];exact hlt
  ·simp only[e,if_false];have:=o.hi_ i (by omega);omega
 ·by_cases e:i=m
  ·simp only[e,if_true];exact hcm
  ·simp only[e,if_false];exact o.cap i (by omega)
 ·by_cases e:i=m
  ·simp only[e,if_true];rw[xq];exact hr
  ·simp only[e,if_false];rw[Zj A x e];exact o.row i (by omega)
 ·by_cases e:i=m
  ·have e2:j≠m:=by omega
   simp only[e,e2,if_true,if_false];have:=o.hi_ j (by omega);omega
  ·by_cases e2:j=m
   ·simp only[e,e2,if_true,if_false];have:=o.hi_ i (by omega);omega
   ·simp only[e,e2,if_false];exact o.inj i j (by omega) (by omega) hij
theorem qU.start{h:Nat}{cs:Array Value}(hN:N<=lo) (hl:lo<=h) (hb:w.heap[h]?=some (.cells cs 37 (0,0))) (hk:cs.size=k) (A:q_m)(h1:h<hi) (h2:hi<=w.heap.size):qU N lo hi w h k 0 n (fun _=>0) (fun _=>0) A :=
 ⟨hN,⟨cs,hb,hk,fun i hi=>by omega⟩,by omega,hl,h1,h2,fun i hi=>by omega,fun i hi=>by omega,fun i hi=>by omega,fun i hi=>by omega,fun i j hi=>by omega⟩
theorem qU.setHead{h:Nat}{β κ:Nat->Nat}{A:q_m}(o:qU N lo hi w h k m n β κ A)(hi':m<=i) (hik:i<k) (v:Value) :
  ∃w',w.setCell ⟨h,i,none⟩ v=w'/\Chg h (h+1) w w'/\w'.heap.size=w.heap.size/\w'.cell? ⟨h,i,none⟩=some v/\qU N lo hi w' h k m n β κ A:=by
 obtain⟨hs,h1,h2,h3⟩:=o.hh;have b1:=heap_set h1 i v;have U:Upd h w (w.setCell ⟨h,i,none⟩ v):=(Upd.refl h w).set i v;have c:=U.chg o.noU;have hlo:=o.hlo;have hN:=o.le;refine⟨_,rfl,c,U.size,?_,o.le,⟨_,b1,by simp[h2],fun j hj=>?_⟩,o.mle,o.hlo,o.hhi,q_l o.his c.size,o.lo_,o.hi_,o.cap,fun j hj=>(o.row j hj).chg c (by omega) (by have:=o.ne hj;omega),o.inj⟩
 ·rw[qh b1,Array.getElem?_setIfInBounds_self_of_lt (by omega)]
 ·rw[Array.getElem?_setIfInBounds_ne (by omega)];exact h3 j hj
theorem qU.hthere{h:Nat}{β κ:Nat->Nat}{A:q_m}(o:qU N lo hi w h k m n β κ A)(hi':i<k):∃u,w.cell? ⟨h,i,none⟩=some u:=by
 obtain⟨hs,h1,h2,-⟩:=o.hh;rw[qh h1];exact⟨_,Array.getElem?_eq_getElem (by omega)⟩
theorem Vw(hN:N<=w.heap.size) (m n:Nat){M' N':Int}(hM':M'=(m:Int)) (hN':N'=(n:Int)) (hm:m<1000000) (hn:n<1000000) (X:q_m)
  (hf:∀i,i<m->∀j,j<n->∀w',Ext w w'->Calls Tryz.prog 94 #[.int .i64 (i:Int),.int .i64 (j:Int)] w' (jP N w' (X i j))) :
  Calls Tryz.prog 93 #[.int .i64 M',.int .i64 N',.func (.func 94) #[] #[]] w (zY N w m n X):=by
 subst hM' hN';have HF:=q_h hf;clear hf;go_enter Tryz.func93,Tryz.ntmps93;go_wp2_with (at_make;refine q_o ?_);refine zK rfl _ _ rfl .i64 .i64 _ _ m rfl rfl rfl rfl hm ?_;intro w1 cs B0 hcs e1;have ho:qU N w.heap.size w1.heap.size w1 w.heap.size m 0 n (fun _=>0) (fun _=>0) X:=qU.start hN (q_r) B0 hcs X (qF B0) (q_r);have hs1:w.heap.size<w1.heap.size:=qF B0;clear B0;have HCS:=q_h hcs;clear hcs;go_wp2
 go_loopw [14] (fun i wr=>∃k:Nat,k<=m/\i=.int .i64 k/\Ext w wr/\∃β κ,qU N w.heap.size wr.heap.size wr w.heap.size m k n β κ X) (fun i _=>m-(intOf i).toNat)
 case atStart=>exact⟨0,Nat.zero_le _,rfl,e1,_,_,ho⟩
 case round =>
  clear ho e1;obtain⟨k,hk,rfl,hE,β,κ,ho⟩:=hrel;have hsr:w.heap.size<wr.heap.size:=by have:=ho.hhi;omega
  by_cases hlt:k<m
  ·go_wp2_with (at_make;refine q_o ?_);refine zh rfl _ _ rfl .i64 .i64 _ _ n rfl rfl rfl rfl hn ?_;intro w2 cs2 B2 hcs2 e2;have ho2:=ho.ext e2;have hR:kS N w2 wr.heap.size n 0 (X k):=⟨by omega,Nat.zero_le _,⟨cs2,B2,hcs2⟩,fun j hj=>by omega⟩
   obtain⟨u0,z0⟩:=ho2.hthere hlt;have z1:=ho2.hfrozen k;have hs2:wr.heap.size<w2.heap.size:=qF B2;have HCS2:=q_h hcs2;clear B2 hcs2 ho;go_upto_region 6 with (fail);obtain⟨w3,E3,C3,hs3,y0,ho3⟩:=ho2.setHead (Nat.le_refl k) hlt (.slice (some ⟨wr.heap.size,0,none⟩) n n);rw[E3];replace hE:=C3.ext (hE.trans e2) (q_r);replace hR:=hR.chg C3 (by omega) (by omega);have hs4:wr.heap.size<w3.heap.size:=by omega
   generalize hgr:wr.heap.size=gr at *
   clear hgr E3 C3 hs3 ho2 z0 z1 e2 hs2;have Y0:=y0;go_wp2
   go_loopw [27] (fun i ws=>∃j:Nat,j<=n/\i=.int .i64 j/\Ext w ws/\gr<ws.heap.size/\ws.cell? ⟨w.heap.size,k,none⟩=some (.slice (some ⟨gr,0,none⟩) n n)/\qU N w.heap.size gr ws w.heap.size m k n β κ X/\kS N ws gr n j (X k)) (fun i _=>n-(intOf i).toNat)
   case atStart=>exact⟨0,Nat.zero_le _,rfl,hE,hs4,y0,ho3,hR⟩
   case round =>
    clear hE y0 ho3 hR hs4 Y0;obtain⟨j,hj,rfl,hE,hs4,y0,ho3,hR⟩:=hrel
    by_cases hlt':j<n
    ·go_upto_region 9 with (fail);have eC:=(Ext.refl wr).drew;refine qw (fun w'=>w'.cell? ⟨w.heap.size,k,none⟩=some (.slice (some ⟨gr,0,none⟩) n n)) [10] (by kernel_rfl) (by exact eC.cell y0) (fun hHeld=>?_);refine sP 0 (h:=?_);refine sP 1 (h:=?_);refine sP 2 (h:=?_);refine sT 3 (h:=?_);refine sP 4 (h:=?_);refine sP 5 (h:=?_);refine sP 6 (h:=?_);refine sP 7 (h:=?_);refine qp (i:=8) rfl (by kernel_rfl) (fun K hK=>?_);go_simp;refine (HF.out k hlt j hlt' _ (hE.trans eC)).mono ?_;intro e w5 hh;obtain⟨b9,A9,k9,c9,A10,k10,c10,rfl,hb9,g9,g10,e5⟩:=hh.form;replace eC:=eC.trans e5;have hR5:=hR.ext eC;obtain⟨x0,v0⟩:=hR5.there (o:=j*4) (by omega);obtain⟨x1,v1⟩:=hR5.there (o:=j*4+1) (by omega);obtain⟨x2,v2⟩:=hR5.there (o:=j*4+2) (by omega);obtain⟨x3,v3⟩:=hR5.there (o:=j*4+3) (by omega);have f0:=hR5.frozen (j*4);have f1:=hR5.frozen (j*4+1);have f2:=hR5.frozen (j*4+2);have f3:=hR5.frozen (j*4+3);go_wp2_with fail;clear hHeld;refine hK.out _ _ (by exact eC.cell y0) fun hHeld=>?_
     clear hK K;try simp only[nr]
     refine sP 9 (h:=?_);refine qj (i:=10) rfl (by kernel_rfl) (by kernel_rfl) (fun K hK=>?_);go_simp;refine hK.out _ _ ?_;clear hK K;try simp only[nr]
     refine qg (by kernel_rfl) ?_ _;clear hHeld;obtain⟨w6,E6,C6,hs6,hr6⟩:=hR5.set (i:=j) (q:=X k j) hlt' (q_r) hb9 g9 g10;rw[E6];replace hE:=C6.ext (hE.trans eC) (by omega);replace ho3:=(ho3.ext eC).chg C6 (by omega) (.inl (q_r));replace y0:=C6.cell (p:=⟨w.heap.size,k,none⟩) (eC.cell y0) (.inl (by simp only;omega));have hr7:=(hr6.less (n':=j+1) (by omega)).congr (y:=X k) (fun c hc=>by unfold upd;split;(rename_i e;rw[e]);rfl);have hs7:gr<w6.heap.size:=by have:=eC.size;omega
     clear E6 C6 hs6 hr6 hR hR5 v0 v1 v2 v3 f0 f1 f2 f3;go_wp2;go_roundw
     case rel=>exact⟨j+1,by omega,by go_num,hE,hs7,y0,ho3,hr7⟩
     case measure=>simp[intOf];omega
    ·obtain rfl:j=n:=by omega
     have ho4:=(ho3.more hlt y0 hR (q_r) (by unfold maxLen;omega)).congr (B:=X) (fun i _ c _=>by unfold xE;split;(rename_i e;rw[e]);rfl);go_wp2;go_roundw
     case rel=>exact⟨k+1,by omega,by go_num,hE,_,_,ho4⟩
     case measure=>simp[intOf];omega
  ·obtain rfl:k=m:=by omega
   go_wp2;go_ret;exact⟨_,_,β,κ,rfl,by unfold maxLen;omega,ho,hE⟩
theorem q8I(hN:N<=w.heap.size) (i j:Nat) (hi:i<1000000) (hj:j<1000000) :
  Calls Tryz.prog 94 #[.int .i64 (i:Int),.int .i64 (j:Int)] w (jP N w (dlt i j)):=by
 go_enter Tryz.func94,Tryz.ntmps94
 by_cases hij:i=j
 ·subst hij;rw[kX];go_wp2_with (go_at_call 127;refine q_o ?_);refine qW ?_;intro W hE hsz B0;refine (f_whole (N:=N) (by have:=hE.size;omega) 1 (by omega) (by omega)).mono ?_;intro e w1 hh;obtain⟨b1,A1,k1,c1,A2,k2,c2,rfl,hb1,g1,g2,e1⟩:=hh.form;have B1:=e1.block B0;obtain⟨r0,r1,r2,r3,r4,r5,r6,r7⟩:=cells4 B1;go_wp2;exact qQ (q:=1) rfl rfl rfl (hE.trans e1) B1 (by omega) hN g1 g2 hb1
 ·have hne:((i:Int) == (j:Int))=false:=beq_eq_false_iff_ne.2 (by omega);rw[kY hij];go_wp2_with (go_at_call 127;refine q_o ?_);refine qW ?_;intro W hE hsz B0;refine (f_whole (N:=N) (by have:=hE.size;omega) 0 (by omega) (by omega)).mono ?_;intro e w1 hh;obtain⟨b1,A1,k1,c1,A2,k2,c2,rfl,hb1,g1,g2,e1⟩:=hh.form;have B1:=e1.block B0;obtain⟨r0,r1,r2,r3,r4,r5,r6,r7⟩:=cells4 B1;go_wp2;exact qQ (q:=0) rfl rfl rfl (hE.trans e1) B1 (by omega) hN g1 g2 hb1
end Go.Proofs.YtflhlobiipejeaaGreat
