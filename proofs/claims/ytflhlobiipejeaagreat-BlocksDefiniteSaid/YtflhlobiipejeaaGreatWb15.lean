import Derived.Test.YtflhlobiipejeaaGreatWb14
set_option linter.all false
set_option maxHeartbeats 8000000
namespace Go.Proofs.YtflhlobiipejeaaGreat
open Go.RowKit
variable {w:World} {N n lo hi i m c j:Nat} {v:Value} {x:Rat} {A:Option Addr}
theorem Jd(hN:N<=w.heap.size) (m n:Nat){M' N':Int}(hM':M'=(m:Int)) (hN':N'=(n:Int)) (hm:m<1000000) (hn:n<1000000) (X:q_m){ga gb:Nat}
  (hf:∀i,i<m->∀j,j<n->∀w',Ext w w'->Calls Tryz.prog 129 #[.int .i64 (i:Int),.int .i64 (j:Int),.pointer (some ⟨ga,0,none⟩),.pointer (some ⟨gb,0,none⟩)] w' (jP N w' (X i j))) :
  Calls Tryz.prog 93 #[.int .i64 M',.int .i64 N',.func (.func 129) #[] #[.pointer (some ⟨ga,0,none⟩),.pointer (some ⟨gb,0,none⟩)]] w (zY N w m n X):=by
 subst hM' hN';have HF:=q_h hf;clear hf;go_enter Tryz.func93,Tryz.ntmps93;go_wp2_with (at_make;refine q_o ?_);refine zK rfl _ _ rfl .i64 .i64 _ _ m rfl rfl rfl rfl hm ?_;intro w1 cs B0 hcs e1;have ho:qU N w.heap.size w1.heap.size w1 w.heap.size m 0 n (fun _=>0) (fun _=>0) X:=qU.start hN (q_r) B0 hcs X (qF B0) (q_r);have hs1:w.heap.size<w1.heap.size:=qF B0;clear B0;have HCS:=q_h hcs;clear hcs;go_wp2
 go_loopw [14] (fun i wr=>∃k:Nat,k<=m/\i=.int .i64 k/\Ext w wr/\∃β κ,qU N w.heap.size wr.heap.size wr w.heap.size m k n β κ X) (fun i _=>m-(intOf i).toNat)
 case atStart=>exact⟨0,Nat.zero_le _,rfl,e1,_,_,ho⟩
 case round =>
  clear ho e1;obtain⟨k,hk,rfl,hE,β,κ,ho⟩:=hrel;have hsr:w.heap.size<wr.heap.size:=by have:=ho.hhi;omega
  by_cases hlt:k<m
  ·go_wp2_with (at_make;refine q_o ?_);refine zh rfl _ _ rfl .i64 .i64 _ _ n rfl rfl rfl rfl hn ?_;intro w2 cs2 B2 hcs2 e2;have ho2:=ho.ext e2;have hR:kS N w2 wr.heap.size n 0 (X k):=⟨by omega,Nat.zero_le _,⟨cs2,B2,hcs2⟩,fun j hj=>by omega⟩
   obtain⟨u0,z0⟩:=ho2.hthere hlt;have z1:=ho2.hfrozen k;have hs2:wr.heap.size<w2.heap.size:=qF B2;have HCS2:=q_h hcs2;clear B2 hcs2 ho;go_upto_region 6 with (fail);obtain⟨w3,E3,C3,hs3,y0,ho3⟩:=ho2.setHead (Nat.le_refl k) hlt (.slice (some ⟨wr.heap.size,0,none⟩) n n);rw[E3];replace hE:=C3.ext (hE.trans e2) (q_r);replace hR:=hR.chg C3 (by omega) (by omega);have hs4:wr.heap.size<w3.heap.size:=by omega
   generalize hgr:wr.heap.size=gr at *
   clear hgr E3 C3 hs3 ho2 z0 z1 e2 hs2;have Y0:=y0;go_wp2
   go_loopw [27] (fun i ws=>∃j:Nat,j<=n/\i=.int .i64 j/\Ext w ws/\gr<ws.heap.size/\ws.cell? ⟨w.heap.size,k,none⟩=some (.slice (some ⟨gr,0,none⟩) n n)/\qU N w.heap.size gr ws w.heap.size m k n β κ X/\kS N ws gr n j (X k)) (fun i _=>n-(intOf i).toNat)
   case atStart=>exact⟨0,Nat.zero_le _,rfl,hE,hs4,y0,ho3,hR⟩
   case round =>
    clear hE y0 ho3 hR hs4 Y0;obtain⟨j,hj,rfl,hE,hs4,y0,ho3,hR⟩:=hrel
    by_cases hlt':j<n
    ·go_upto_region 9 with (fail);have eC:=(Ext.refl wr).drew;refine qw (fun w'=>w'.cell? ⟨w.heap.size,k,none⟩=some (.slice (some ⟨gr,0,none⟩) n n)) [10] (by kernel_rfl) (by exact eC.cell y0) (fun hHeld=>?_);refine sP 0 (h:=?_);refine sP 1 (h:=?_);refine sP 2 (h:=?_);refine sT 3 (h:=?_);refine sP 4 (h:=?_);refine sP 5 (h:=?_);refine sP 6 (h:=?_);refine sP 7 (h:=?_);refine qp (i:=8) rfl (by kernel_rfl) (fun K hK=>?_);go_simp;refine (HF.out k hlt j hlt' _ (hE.trans eC)).mono ?_;intro e w5 hh;obtain⟨b9,A9,k9,c9,A10,k10,c10,rfl,hb9,g9,g10,e5⟩:=hh.form;replace eC:=eC.trans e5;have hR5:=hR.ext eC;obtain⟨x0,v0⟩:=hR5.there (o:=j*4) (by omega);obtain⟨x1,v1⟩:=hR5.there (o:=j*4+1) (by omega);obtain⟨x2,v2⟩:=hR5.there (o:=j*4+2) (by omega);obtain⟨x3,v3⟩:=hR5.there (o:=j*4+3) (by omega);have f0:=hR5.frozen (j*4);have f1:=hR5.frozen (j*4+1);have f2:=hR5.frozen (j*4+2);have f3:=hR5.frozen (j*4+3);go_wp2_with fail;clear hHeld;refine hK.out _ _ (by exact eC.cell y0) fun hHeld=>?_
     clear hK K;try simp only[nr]
     refine sP 9 (h:=?_);refine qj (i:=10) rfl (by kernel_rfl) (by kernel_rfl) (fun K hK=>?_);go_simp;refine hK.out _ _ ?_;clear hK K;try simp only[nr]
     refine qg (by kernel_rfl) ?_ _;clear hHeld;obtain⟨w6,E6,C6,hs6,hr6⟩:=hR5.set (i:=j) (q:=X k j) hlt' (q_r) hb9 g9 g10;rw[E6];replace hE:=C6.ext (hE.trans eC) (by omega);replace ho3:=(ho3.ext eC).chg C6 (by omega) (.inl (q_r));replace y0:=C6.cell (p:=⟨w.heap.size,k,none⟩) (eC.cell y0) (.inl (by simp only;omega));have hr7:=(hr6.less (n':=j+1) (by omega)).congr (y:=X k) (fun c hc=>by unfold upd;split;(rename_i e;rw[e]);rfl);have hs7:gr<w6.heap.size:=by have:=eC.size;omega
     clear E6 C6 hs6 hr6 hR hR5 v0 v1 v2 v3 f0 f1 f2 f3;go_wp2;go_roundw
     case rel=>exact⟨j+1,by omega,by go_num,hE,hs7,y0,ho3,hr7⟩
     case measure=>simp[intOf];omega
    ·obtain rfl:j=n:=by omega
     have ho4:=(ho3.more hlt y0 hR (q_r) (by unfold maxLen;omega)).congr (B:=X) (fun i _ c _=>by unfold xE;split;(rename_i e;rw[e]);rfl);go_wp2;go_roundw
     case rel=>exact⟨k+1,by omega,by go_num,hE,_,_,ho4⟩
     case measure=>simp[intOf];omega
  ·obtain rfl:k=m:=by omega
   go_wp2;go_ret;exact⟨_,_,β,κ,rfl,by unfold maxLen;omega,ho,hE⟩
theorem KF(hN:N<=w.heap.size) (m n:Nat){M' N':Int}(hM':M'=(m:Int)) (hN':N'=(n:Int)) (hm:m<1000000) (hn:n<1000000) (X:q_m){ga gb:Nat}
  (hf:∀i,i<m->∀j,j<n->∀w',Ext w w'->Calls Tryz.prog 96 #[.int .i64 (i:Int),.int .i64 (j:Int),.pointer (some ⟨ga,0,none⟩),.pointer (some ⟨gb,0,none⟩)] w' (jP N w' (X i j))) :
  Calls Tryz.prog 93 #[.int .i64 M',.int .i64 N',.func (.func 96) #[] #[.pointer (some ⟨ga,0,none⟩),.pointer (some ⟨gb,0,none⟩)]] w (zY N w m n X):=by
 subst hM' hN';have HF:=q_h hf;clear hf;go_enter Tryz.func93,Tryz.ntmps93;go_wp2_with (at_make;refine q_o ?_);refine zK rfl _ _ rfl .i64 .i64 _ _ m rfl rfl rfl rfl hm ?_;intro w1 cs B0 hcs e1;have ho:qU N w.heap.size w1.heap.size w1 w.heap.size m 0 n (fun _=>0) (fun _=>0) X:=qU.start hN (q_r) B0 hcs X (qF B0) (q_r);have hs1:w.heap.size<w1.heap.size:=qF B0;clear B0;have HCS:=q_h hcs;clear hcs;go_wp2
 go_loopw [14] (fun i wr=>∃k:Nat,k<=m/\i=.int .i64 k/\Ext w wr/\∃β κ,qU N w.heap.size wr.heap.size wr w.heap.size m k n β κ X) (fun i _=>m-(intOf i).toNat)
 case atStart=>exact⟨0,Nat.zero_le _,rfl,e1,_,_,ho⟩
 case round =>
  clear ho e1;obtain⟨k,hk,rfl,hE,β,κ,ho⟩:=hrel;have hsr:w.heap.size<wr.heap.size:=by have:=ho.hhi;omega
  by_cases hlt:k<m
  ·go_wp2_with (at_make;refine q_o ?_);refine zh rfl _ _ rfl .i64 .i64 _ _ n rfl rfl rfl rfl hn ?_;intro w2 cs2 B2 hcs2 e2;have ho2:=ho.ext e2;have hR:kS N w2 wr.heap.size n 0 (X k):=⟨by omega,Nat.zero_le _,⟨cs2,B2,hcs2⟩,fun j hj=>by omega⟩
   obtain⟨u0,z0⟩:=ho2.hthere hlt;have z1:=ho2.hfrozen k;have hs2:wr.heap.size<w2.heap.size:=qF B2;have HCS2:=q_h hcs2;clear B2 hcs2 ho;go_upto_region 6 with (fail);obtain⟨w3,E3,C3,hs3,y0,ho3⟩:=ho2.setHead (Nat.le_refl k) hlt (.slice (some ⟨wr.heap.size,0,none⟩) n n);rw[E3];replace hE:=C3.ext (hE.trans e2) (q_r);replace hR:=hR.chg C3 (by omega) (by omega);have hs4:wr.heap.size<w3.heap.size:=by omega
   generalize hgr:wr.heap.size=gr at *
   clear hgr E3 C3 hs3 ho2 z0 z1 e2 hs2;have Y0:=y0;go_wp2
   go_loopw [27] (fun i ws=>∃j:Nat,j<=n/\i=.int .i64 j/\Ext w ws/\gr<ws.heap.size/\ws.cell? ⟨w.heap.size,k,none⟩=some (.slice (some ⟨gr,0,none⟩) n n)/\qU N w.heap.size gr ws w.heap.size m k n β κ X/\kS N ws gr n j (X k)) (fun i _=>n-(intOf i).toNat)
   case atStart=>exact⟨0,Nat.zero_le _,rfl,hE,hs4,y0,ho3,hR⟩
   case round =>
    clear hE y0 ho3 hR hs4 Y0;obtain⟨j,hj,rfl,hE,hs4,y0,ho3,hR⟩:=hrel
    by_cases hlt':j<n
    ·go_upto_region 9 with (fail);have eC:=(Ext.refl wr).drew;refine qw (fun w'=>w'.cell? ⟨w.heap.size,k,none⟩=some (.slice (some ⟨gr,0,none⟩) n n)) [10] (by kernel_rfl) (by exact eC.cell y0) (fun hHeld=>?_);refine sP 0 (h:=?_);refine sP 1 (h:=?_);refine sP 2 (h:=?_);refine sT 3 (h:=?_);refine sP 4 (h:=?_);refine sP 5 (h:=?_);refine sP 6 (h:=?_);refine sP 7 (h:=?_);refine qp (i:=8) rfl (by kernel_rfl) (fun K hK=>?_);go_simp;refine (HF.out k hlt j hlt' _ (hE.trans eC)).mono ?_;intro e w5 hh;obtain⟨b9,A9,k9,c9,A10,k10,c10,rfl,hb9,g9,g10,e5⟩:=hh.form;replace eC:=eC.trans e5;have hR5:=hR.ext eC;obtain⟨x0,v0⟩:=hR5.there (o:=j*4) (by omega);obtain⟨x1,v1⟩:=hR5.there (o:=j*4+1) (by omega);obtain⟨x2,v2⟩:=hR5.there (o:=j*4+2) (by omega);obtain⟨x3,v3⟩:=hR5.there (o:=j*4+3) (by omega);have f0:=hR5.frozen (j*4);have f1:=hR5.frozen (j*4+1);have f2:=hR5.frozen (j*4+2);have f3:=hR5.frozen (j*4+3);go_wp2_with fail;clear hHeld;refine hK.out _ _ (by exact eC.cell y0) fun hHeld=>?_
     clear hK K;try simp only[nr]
     refine sP 9 (h:=?_);refine qj (i:=10) rfl (by kernel_rfl) (by kernel_rfl) (fun K hK=>?_);go_simp;refine hK.out _ _ ?_;clear hK K;try simp only[nr]
     refine qg (by kernel_rfl) ?_ _;clear hHeld;obtain⟨w6,E6,C6,hs6,hr6⟩:=hR5.set (i:=j) (q:=X k j) hlt' (q_r) hb9 g9 g10;rw[E6];replace hE:=C6.ext (hE.trans eC) (by omega);replace ho3:=(ho3.ext eC).chg C6 (by omega) (.inl (q_r));replace y0:=C6.cell (p:=⟨w.heap.size,k,none⟩) (eC.cell y0) (.inl (by simp only;omega));have hr7:=(hr6.less (n':=j+1) (by omega)).congr (y:=X k) (fun c hc=>by unfold upd;split;(rename_i e;rw[e]);rfl);have hs7:gr<w6.heap.size:=by have:=eC.size;omega
     clear E6 C6 hs6 hr6 hR hR5 v0 v1 v2 v3 f0 f1 f2 f3;go_wp2;go_roundw
     case rel=>exact⟨j+1,by omega,by go_num,hE,hs7,y0,ho3,hr7⟩
     case measure=>simp[intOf];omega
    ·obtain rfl:j=n:=by omega
     have ho4:=(ho3.more hlt y0 hR (q_r) (by unfold maxLen;omega)).congr (B:=X) (fun i _ c _=>by unfold xE;split;(rename_i e;rw[e]);rfl);go_wp2;go_roundw
     case rel=>exact⟨k+1,by omega,by go_num,hE,_,_,ho4⟩
     case measure=>simp[intOf];omega
  ·obtain rfl:k=m:=by omega
   go_wp2;go_ret;exact⟨_,_,β,κ,rfl,by unfold maxLen;omega,ho,hE⟩
theorem q2N {lo' hi':Nat}{ga gb:Nat}{B:Option Addr}{p c':Nat}{X Y:q_m}(ha:w.cell? ⟨ga,0,none⟩=some (.slice A m c)) (hb:w.cell? ⟨gb,0,none⟩=some (.slice B m c')) (h:MtV N lo hi w (.slice A m c) m n X) (h':MtV N lo' hi' w (.slice B m c') m p Y)(hi':i<m) (hj:j<n+p) (hm:m<1000000) (hn:n<1000000) (hp:p<1000000) :
  Calls Tryz.prog 129 #[.int .i64 (i:Int),.int .i64 (j:Int),.pointer (some ⟨ga,0,none⟩),.pointer (some ⟨gb,0,none⟩)] w (jP N w (cat n (X i) (Y i) j)):=by
 have hN:=h.le;obtain⟨b,off,rfl,-,-,hx⟩:=h.addr (by omega);obtain⟨A0,c0,o0,hc0,hm0,-⟩:=hx 0 (by omega);rw[Nat.add_zero] at o0;obtain⟨A1,c1,p0,hc1,hm1,hl⟩:=hx i hi';have l0:=cell_lt ha;have l0':=cell_lt hb;have l1:=cell_lt p0;simp only at l0 l0' l1;unfold maxLen at hm0 hm1;clear hx h
 by_cases hjn:j<n
 ·obtain⟨b2,off2,rfl,-,-,hx⟩:=hl.addr (by omega);obtain⟨n1,A3,k3,c3,A4,k4,c4,q0,q1,q2,q3,hb1,g1,g2⟩:=(hx j hjn).open;have l2:=cell_lt q0;simp only at l2;obtain⟨q,hq⟩:=qc (X i j);have HQ:Hid (cat n (X i) (Y i) j=q):=by rw[Hid,hq.out];unfold cat;rw[if_pos hjn]
  rw[HQ.out];rw[<-hq.out] at hb1 g1 g2;clear hx hl h';go_enter Tryz.func129,Tryz.ntmps129;go_wp2;have eA:=(Ext.refl w).alloc (Obj.cells #[Value.bool n1,Value.slice A3 k3 c3,Value.bool false,Value.slice A4 k4 c4] 35);exact q09 rfl rfl rfl eA (je.mk (heap_alloc_new w _) hb1 (g1.ext eA) (g2.ext eA))
 ·obtain⟨b3,off3,rfl,-,-,hx'⟩:=h'.addr (by omega);obtain⟨A5,c5,r0,hc5,hm5,hl'⟩:=hx' i hi';obtain⟨jj,hjj⟩:∃jj,j=n+jj:=⟨j-n,by omega⟩
  obtain⟨b2,off2,rfl,-,-,hx⟩:=hl'.addr (by omega);obtain⟨n1,A3,k3,c3,A4,k4,c4,q0,q1,q2,q3,hb1,g1,g2⟩:=(hx jj (by omega)).open;have l2:=cell_lt q0;have l3:=cell_lt r0;simp only at l2 l3;obtain⟨q,hq⟩:=qc (Y i jj);have HQ:Hid (cat n (X i) (Y i) j=q):=by rw[Hid,hq.out];unfold cat;rw[if_neg hjn,hjj,Nat.add_sub_cancel_left]
  rw[HQ.out];rw[<-hq.out] at hb1 g1 g2;have hjp:jj<p:=by omega
  have hw1:IntKind.i64.wrap ((n:Int)+(jj:Int)-(n:Int))=(jj:Int):=by
   rw[IntWalk.i64_in _ (by omega)];omega
  subst hjj;clear hx hx' hl hl' h' hq HQ;go_enter Tryz.func129,Tryz.ntmps129;go_upto_region 3 with (fail);refine qo ?_;intro W hE hsz B0;replace ha:=hE.cell ha;replace hb:=hE.cell hb;replace o0:=hE.cell o0;replace r0:=hE.cell r0;replace q0:=hE.cell q0;replace q1:=hE.cell q1;replace q2:=hE.cell q2;replace q3:=hE.cell q3;obtain⟨t0,t1,t2,t3,t4,t5,t6,t7⟩:=cells4 B0;have hcast:((n+jj:Nat):Int)=(n:Int)+(jj:Int):=by omega
  rw[hcast];clear hcast;have eC:=(Ext.refl W).drew;refine qw (fun w'=>w'.cell? ⟨ga,0,none⟩=some (.slice (some ⟨b,off,none⟩) m c)/\w'.cell? ⟨gb,0,none⟩=some (.slice (some ⟨b3,off3,none⟩) m c')/\w'.cell? ⟨b,off,none⟩=some (.slice A0 n c0)/\w'.cell? ⟨b3,off3+i,none⟩=some (.slice (some ⟨b2,off2,none⟩) p c5)/\w'.cell? ⟨b2,off2+jj*4,none⟩=some (.bool n1)/\w'.cell? ⟨b2,off2+jj*4+1,none⟩=some (.slice A3 k3 c3)/\w'.cell? ⟨b2,off2+jj*4+2,none⟩=some (.bool false)/\w'.cell? ⟨b2,off2+jj*4+3,none⟩=some (.slice A4 k4 c4)) [12] (by kernel_rfl) (by exact⟨eC.cell ha,eC.cell hb,eC.cell o0,eC.cell r0,eC.cell q0,eC.cell q1,eC.cell q2,eC.cell q3⟩) (fun hHeld=>?_);refine sT 0 (h:=?_);refine sP 1 (h:=?_);refine sP 2 (h:=?_);refine sT 3 (h:=?_);refine sP 4 (h:=?_);refine sT 5 (h:=?_);refine sP 6 (h:=?_);refine sT 7 (h:=?_);refine sP 8 (h:=?_);refine sP 9 (h:=?_);refine sP 10 (h:=?_);refine sT 11 (h:=?_);refine qj (i:=12) rfl (by kernel_rfl) (by kernel_rfl) (fun K hK=>?_);go_simp;refine hK.out _ _ ?_;clear hK K;try simp only[nr]
  refine qg (by kernel_rfl) ?_ _;clear hHeld;go_wp2;exact qQ rfl rfl rfl (hE.trans eC) (eC.block B0) (by omega) hN (g1.ext (hE.trans eC)) (g2.ext (hE.trans eC)) hb1
theorem q56 {lo' hi':Nat}{v':Value}{p:Nat}{X Y:q_m}(h:MtV N lo hi w v m n X) (h':MtV N lo' hi' w v' m p Y) (hm0:0<m) (hm:m<1000000) (hn:n<100000) (hp:p<100000) :
  Calls Tryz.prog 92 #[v,v'] w (zY N w m (n+p) (fun i=>cat n (X i) (Y i))):=by
 have hN:=h.le;obtain⟨A,c,rfl,hmc,hcm⟩:=h.form;obtain⟨A',c',rfl,hmc',hcm'⟩:=h'.form;have hI:=h;have hI':=h';obtain⟨b,off,rfl,-,-,hx⟩:=h.addr hm0;obtain⟨A1,c1,p0,hnc,hcm1,-⟩:=hx 0 hm0;rw[Nat.add_zero] at p0;obtain⟨b',off',rfl,-,-,hx'⟩:=h'.addr hm0;obtain⟨A2,c2,q0,hnc2,hcm2,-⟩:=hx' 0 hm0;rw[Nat.add_zero] at q0;unfold maxLen at hcm1 hcm2;have hw1:IntKind.i64.wrap ((n:Int)+(p:Int))=(n:Int)+(p:Int):=IntWalk.i64_in _ (by omega);clear h h' hx hx';go_enter Tryz.func92,Tryz.ntmps92;go_upto_region 1 with (fail);refine kD ?_;intro W hE hsz B0 B1;obtain⟨a0,-⟩:=zG B0;obtain⟨a1,-⟩:=zG B1;replace p0:=hE.cell p0;replace q0:=hE.cell q0;have eC:=(Ext.refl W).drew;refine qw (fun w'=>w'.cell? ⟨w.heap.size,0,none⟩=some (.slice (some ⟨b,off,none⟩) m c)/\w'.cell? ⟨w.heap.size+1,0,none⟩=some (.slice (some ⟨b',off',none⟩) m c')/\w'.cell? ⟨b,off,none⟩=some (.slice A1 n c1)/\w'.cell? ⟨b',off',none⟩=some (.slice A2 p c2)) [] (by kernel_rfl) (by exact⟨eC.cell a0,eC.cell a1,eC.cell p0,eC.cell q0⟩) (fun hHeld=>?_);refine sT 0 (h:=?_);refine sP 1 (h:=?_);refine sT 2 (h:=?_);refine sP 3 (h:=?_);refine sT 4 (h:=?_);refine sP 5 (h:=?_);refine sT 6 (h:=?_);refine sP 7 (h:=?_);refine sT 8 (h:=?_);refine sP 9 (h:=?_);refine sP 10 (h:=?_);refine sP 11 (h:=?_);refine qp (i:=12) rfl (by kernel_rfl) (fun K hK=>?_);go_simp;refine (Jd (N:=N) (by have:=hE.size;show N<=W.heap.size;omega) m (n+p) rfl (by omega) hm (by omega) (fun i=>cat n (X i) (Y i)) (fun i hi' j hj w' e=>q2N ((eC.trans e).cell a0) ((eC.trans e).cell a1) (hI.ext (hE.trans (eC.trans e))) (hI'.ext (hE.trans (eC.trans e))) hi' hj hm (by omega) (by omega))).mono ?_
 rintro e w2 ⟨h2,cap2,β2,κ2,rfl,hcap2,ho2,e2⟩;replace eC:=eC.trans e2;go_wp2_with fail;clear hHeld;refine hK.out _ _ (by exact⟨eC.cell a0,eC.cell a1,eC.cell p0,eC.cell q0⟩) fun hHeld=>?_
 clear hK K;try simp only[nr]
 refine sP 13 (h:=?_);refine qg (by kernel_rfl) ?_ _;clear hHeld;go_wp2;go_ret;exact⟨h2,cap2,β2,κ2,rfl,hcap2,ho2.wide (by have:=hE.size;show w.heap.size<=W.heap.size;omega) hN (q_r) (q_r),hE.trans eC⟩
theorem q0Y{ga gb:Nat}{X:q_m}(ha:w.cell? ⟨ga,0,none⟩=some (.slice A m c)) (hb:w.cell? ⟨gb,0,none⟩=some (.int .i64 (m:Int))) (h:MtV N lo hi w (.slice A m c) m n X)(hi':i<m) (hj:m+j<n) (hm:m<1000000) (hn:n<1000000) :
  Calls Tryz.prog 96 #[.int .i64 (i:Int),.int .i64 (j:Int),.pointer (some ⟨ga,0,none⟩),.pointer (some ⟨gb,0,none⟩)] w (jP N w (X i (m+j))):=by
 have hN:=h.le;obtain⟨b,off,rfl,-,-,hx⟩:=h.addr (by omega);obtain⟨A1,c1,p0,hc1,hm1,hl⟩:=hx i hi';unfold maxLen at hm1;obtain⟨b2,off2,rfl,-,-,hx⟩:=hl.addr (by omega);obtain⟨n1,A3,k3,c3,A4,k4,c4,q0,q1,q2,q3,hb1,g1,g2⟩:=(hx (m+j) hj).open;obtain⟨q,hq⟩:=qc (X i (m+j));rw[<-hq.out] at hb1 g1 g2 ⊢;have hw1:IntKind.i64.wrap ((m:Int)+(j:Int))=(m:Int)+(j:Int):=IntWalk.i64_in _ (by omega);have hlt1:(m:Int)+(j:Int)<(n:Int):=by omega
 have hlt0:(0:Int)<=(m:Int)+(j:Int):=by omega
 have htn:((m:Int)+(j:Int)).toNat=m+j:=by omega
 clear hx hl h;go_enter Tryz.func96,Tryz.ntmps96;go_upto_region 1 with (fail);refine qo ?_;intro W hE hsz B0;replace ha:=hE.cell ha;replace hb:=hE.cell hb;replace p0:=hE.cell p0;replace q0:=hE.cell q0;replace q1:=hE.cell q1;replace q2:=hE.cell q2;replace q3:=hE.cell q3;obtain⟨t0,t1,t2,t3,t4,t5,t6,t7⟩:=cells4 B0;have eC:=(Ext.refl W).drew;refine qw (fun w'=>w'.cell? ⟨ga,0,none⟩=some (.slice (some ⟨b,off,none⟩) m c)/\w'.cell? ⟨gb,0,none⟩=some (.int .i64 (m:Int))/\w'.cell? ⟨b,off+i,none⟩=some (.slice (some ⟨b2,off2,none⟩) n c1)/\w'.cell? ⟨b2,off2+(m+j)*4,none⟩=some (.bool n1)/\w'.cell? ⟨b2,off2+(m+j)*4+1,none⟩=some (.slice A3 k3 c3)/\w'.cell? ⟨b2,off2+(m+j)*4+2,none⟩=some (.bool false)/\w'.cell? ⟨b2,off2+(m+j)*4+3,none⟩=some (.slice A4 k4 c4)) [9] (by kernel_rfl) (by exact⟨eC.cell ha,eC.cell hb,eC.cell p0,eC.cell q0,eC.cell q1,eC.cell q2,eC.cell q3⟩) (fun hHeld=>?_);refine sT 0 (h:=?_);refine sP 1 (h:=?_);refine sP 2 (h:=?_);refine sT 3 (h:=?_);refine sT 4 (h:=?_);refine sP 5 (h:=?_);refine sP 6 (h:=?_);refine sP 7 (h:=?_);refine sT 8 (h:=?_);refine qj (i:=9) rfl (by kernel_rfl) (by kernel_rfl) (fun K hK=>?_);go_simp;refine hK.out _ _ ?_;clear hK K;try simp only[nr]
 refine qg (by kernel_rfl) ?_ _;clear hHeld;clear hw1 hlt1 hlt0 htn;go_wp2;exact qQ rfl rfl rfl (hE.trans eC) (eC.block B0) (by omega) hN (g1.ext (hE.trans eC)) (g2.ext (hE.trans eC)) hb1
theorem Qy{v':Value}{y:Rat}(h:qX N w v x) (h':qX N w v' y) (hz:Sz x) (hz':Sz y) (hy:y≠0) :
  Calls Tryz.prog 130 #[v,v'] w (jP N w (x / y)):=by
 obtain⟨q,hq⟩:=qc (x / y);rw[<-hq.out];have HY:=q_h hy;clear hy;have hN:=h.le;have hI:=h;have hI':=h';have HZ:=q_h hz;have HZ':=q_h hz';obtain⟨m1,X1,i1,d1,X2,i2,d2,rfl,hm1,gx1,gx2⟩:=h.parts;obtain⟨m2,Y1,i3,d3,Y2,i4,d4,rfl,hm2,gy1,gy2⟩:=h'.parts;clear hz hz' h h' gx1 gx2 gy1 gy2;go_enter Tryz.func130,Tryz.ntmps130;go_wp2_with (go_at_call 163;refine q_o ?_);refine ZX ?_;intro W hE hsz B0 B1 B2;refine (q5l (hI.ext hE) (hI'.ext hE) HZ.out HZ'.out HY.out).mono ?_;rw[<-hq.out];intro e w1 hh;obtain⟨n3,A3,k3,c3,A4,k4,c4,rfl,hb3,g3,g4,e1⟩:=hh.form;replace hE:=hE.trans e1;replace B2:=e1.block B2;have hsz1:=q_l hsz e1.size;go_upto_region 2 with (fail);refine qo ?_;intro w2 e2 hsz2 BX;replace hE:=hE.trans e2;replace B2:=e2.block B2;obtain⟨s0,s1,s2,s3,-⟩:=cells4 BX;obtain⟨t0,t1,t2,t3,t4,t5,t6,t7⟩:=cells4 B2;go_wp2;exact qQ rfl rfl rfl hE B2 (by omega) hN (g3.ext e2) (g4.ext e2) hb3
end Go.Proofs.YtflhlobiipejeaaGreat
