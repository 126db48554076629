import Derived.Test.YtflhlobiipejeaaGreatWb19
set_option linter.all false
set_option maxHeartbeats 8000000
set_option maxRecDepth 100000
namespace Go.Proofs.YtflhlobiipejeaaGreat
variable {w w':World} {N n lo hi k g i m c j K:Nat} {v:Value} {A:Option Addr}
section
open Go.RowKit
theorem q0X(hN:N<=w.heap.size) (m n:Nat){M' N':Int}(hM':M'=(m:Int)) (hN':N'=(n:Int)) (hm:m<1000000) (hn:n<1000000) (X:q_m){ga gb:Nat}
  (hf:∀i,i<m->∀j,j<n->∀w',Ext w w'->Calls Tryz.prog 99 #[.int .i64 (i:Int),.int .i64 (j:Int),.pointer (some ⟨ga,0,none⟩),.pointer (some ⟨gb,0,none⟩)] w' (jP N w' (X i j))) :
  Calls Tryz.prog 93 #[.int .i64 M',.int .i64 N',.func (.func 99) #[] #[.pointer (some ⟨ga,0,none⟩),.pointer (some ⟨gb,0,none⟩)]] w (zY N w m n X):=by
 subst hM' hN';have HF:=q_h hf;clear hf;go_enter Tryz.func93,Tryz.ntmps93;go_wp2_with (at_make;refine q_o ?_);refine zK rfl _ _ rfl .i64 .i64 _ _ m rfl rfl rfl rfl hm ?_;intro w1 cs B0 hcs e1;have ho:qU N w.heap.size w1.heap.size w1 w.heap.size m 0 n (fun _=>0) (fun _=>0) X:=qU.start hN (q_r) B0 hcs X (qF B0) (q_r);have hs1:w.heap.size<w1.heap.size:=qF B0;clear B0;have HCS:=q_h hcs;clear hcs;go_wp2
 go_loopw [14] (fun i wr=>∃k:Nat,k<=m/\i=.int .i64 k/\Ext w wr/\∃β κ,qU N w.heap.size wr.heap.size wr w.heap.size m k n β κ X) (fun i _=>m-(intOf i).toNat)
 case atStart=>exact⟨0,Nat.zero_le _,rfl,e1,_,_,ho⟩
 case round =>
  clear ho e1;obtain⟨k,hk,rfl,hE,β,κ,ho⟩:=hrel;have hsr:w.heap.size<wr.heap.size:=by have:=ho.hhi;omega
  by_cases hlt:k<m
  ·go_wp2_with (at_make;refine q_o ?_);refine zh rfl _ _ rfl .i64 .i64 _ _ n rfl rfl rfl rfl hn ?_;intro w2 cs2 B2 hcs2 e2;have ho2:=ho.ext e2;have hR:kS N w2 wr.heap.size n 0 (X k):=⟨by omega,Nat.zero_le _,⟨cs2,B2,hcs2⟩,fun j hj=>by omega⟩
   obtain⟨u0,z0⟩:=ho2.hthere hlt;have z1:=ho2.hfrozen k;have hs2:wr.heap.size<w2.heap.size:=qF B2;have HCS2:=q_h hcs2;clear B2 hcs2 ho;go_upto_region 6 with (fail);obtain⟨w3,E3,C3,hs3,y0,ho3⟩:=ho2.setHead (Nat.le_refl k) hlt (.slice (some ⟨wr.heap.size,0,none⟩) n n);rw[E3];replace hE:=C3.ext (hE.trans e2) (q_r);replace hR:=hR.chg C3 (by omega) (by omega);have hs4:wr.heap.size<w3.heap.size:=by omega
   generalize hgr:wr.heap.size=gr at *
   clear hgr E3 C3 hs3 ho2 z0 z1 e2 hs2;have Y0:=y0;go_wp2
   go_loopw [27] (fun i ws=>∃j:Nat,j<=n/\i=.int .i64 j/\Ext w ws/\gr<ws.heap.size/\ws.cell? ⟨w.heap.size,k,none⟩=some (.slice (some ⟨gr,0,none⟩) n n)/\qU N w.heap.size gr ws w.heap.size m k n β κ X/\kS N ws gr n j (X k)) (fun i _=>n-(intOf i).toNat)
   case atStart=>exact⟨0,Nat.zero_le _,rfl,hE,hs4,y0,ho3,hR⟩
   case round =>
    clear hE y0 ho3 hR hs4 Y0;obtain⟨j,hj,rfl,hE,hs4,y0,ho3,hR⟩:=hrel
    by_cases hlt':j<n
    ·go_upto_region 9 with (fail);have eC:=(Ext.refl wr).drew;refine qw (fun w'=>w'.cell? ⟨w.heap.size,k,none⟩=some (.slice (some ⟨gr,0,none⟩) n n)) [10] (by kernel_rfl) (by exact eC.cell y0) (fun hHeld=>?_);refine sP 0 (h:=?_);refine sP 1 (h:=?_);refine sP 2 (h:=?_);refine sT 3 (h:=?_);refine sP 4 (h:=?_);refine sP 5 (h:=?_);refine sP 6 (h:=?_);refine sP 7 (h:=?_);refine qp (i:=8) rfl (by kernel_rfl) (fun K hK=>?_);go_simp;refine (HF.out k hlt j hlt' _ (hE.trans eC)).mono ?_;intro e w5 hh;obtain⟨b9,A9,k9,c9,A10,k10,c10,rfl,hb9,g9,g10,e5⟩:=hh.form;replace eC:=eC.trans e5;have hR5:=hR.ext eC;obtain⟨x0,v0⟩:=hR5.there (o:=j*4) (by omega);obtain⟨x1,v1⟩:=hR5.there (o:=j*4+1) (by omega);obtain⟨x2,v2⟩:=hR5.there (o:=j*4+2) (by omega);obtain⟨x3,v3⟩:=hR5.there (o:=j*4+3) (by omega);have f0:=hR5.frozen (j*4);have f1:=hR5.frozen (j*4+1);have f2:=hR5.frozen (j*4+2);have f3:=hR5.frozen (j*4+3);go_wp2_with fail;clear hHeld;refine hK.out _ _ (by exact eC.cell y0) fun hHeld=>?_
     clear hK K;try simp only[nr]
     refine sP 9 (h:=?_);refine qj (i:=10) rfl (by kernel_rfl) (by kernel_rfl) (fun K hK=>?_);go_simp;refine hK.out _ _ ?_;clear hK K;try simp only[nr]
     refine qg (by kernel_rfl) ?_ _;clear hHeld;obtain⟨w6,E6,C6,hs6,hr6⟩:=hR5.set (i:=j) (q:=X k j) hlt' (q_r) hb9 g9 g10;rw[E6];replace hE:=C6.ext (hE.trans eC) (by omega);replace ho3:=(ho3.ext eC).chg C6 (by omega) (.inl (q_r));replace y0:=C6.cell (p:=⟨w.heap.size,k,none⟩) (eC.cell y0) (.inl (by simp only;omega));have hr7:=(hr6.less (n':=j+1) (by omega)).congr (y:=X k) (fun c hc=>by unfold upd;split;(rename_i e;rw[e]);rfl);have hs7:gr<w6.heap.size:=by have:=eC.size;omega
     clear E6 C6 hs6 hr6 hR hR5 v0 v1 v2 v3 f0 f1 f2 f3;go_wp2;go_roundw
     case rel=>exact⟨j+1,by omega,by go_num,hE,hs7,y0,ho3,hr7⟩
     case measure=>simp[intOf];omega
    ·obtain rfl:j=n:=by omega
     have ho4:=(ho3.more hlt y0 hR (q_r) (by unfold maxLen;omega)).congr (B:=X) (fun i _ c _=>by unfold xE;split;(rename_i e;rw[e]);rfl);go_wp2;go_roundw
     case rel=>exact⟨k+1,by omega,by go_num,hE,_,_,ho4⟩
     case measure=>simp[intOf];omega
  ·obtain rfl:k=m:=by omega
   go_wp2;go_ret;exact⟨_,_,β,κ,rfl,by unfold maxLen;omega,ho,hE⟩
theorem q0W(hN:N<=w.heap.size) (m n:Nat){M' N':Int}(hM':M'=(m:Int)) (hN':N'=(n:Int)) (hm:m<1000000) (hn:n<1000000) (X:q_m){ga gb:Nat}
  (hf:∀i,i<m->∀j,j<n->∀w',Ext w w'->Calls Tryz.prog 102 #[.int .i64 (i:Int),.int .i64 (j:Int),.pointer (some ⟨ga,0,none⟩),.pointer (some ⟨gb,0,none⟩)] w' (jP N w' (X i j))) :
  Calls Tryz.prog 93 #[.int .i64 M',.int .i64 N',.func (.func 102) #[] #[.pointer (some ⟨ga,0,none⟩),.pointer (some ⟨gb,0,none⟩)]] w (zY N w m n X):=by
 subst hM' hN';have HF:=q_h hf;clear hf;go_enter Tryz.func93,Tryz.ntmps93;go_wp2_with (at_make;refine q_o ?_);refine zK rfl _ _ rfl .i64 .i64 _ _ m rfl rfl rfl rfl hm ?_;intro w1 cs B0 hcs e1;have ho:qU N w.heap.size w1.heap.size w1 w.heap.size m 0 n (fun _=>0) (fun _=>0) X:=qU.start hN (q_r) B0 hcs X (qF B0) (q_r);have hs1:w.heap.size<w1.heap.size:=qF B0;clear B0;have HCS:=q_h hcs;clear hcs;go_wp2
 go_loopw [14] (fun i wr=>∃k:Nat,k<=m/\i=.int .i64 k/\Ext w wr/\∃β κ,qU N w.heap.size wr.heap.size wr w.heap.size m k n β κ X) (fun i _=>m-(intOf i).toNat)
 case atStart=>exact⟨0,Nat.zero_le _,rfl,e1,_,_,ho⟩
 case round =>
  clear ho e1;obtain⟨k,hk,rfl,hE,β,κ,ho⟩:=hrel;have hsr:w.heap.size<wr.heap.size:=by have:=ho.hhi;omega
  by_cases hlt:k<m
  ·go_wp2_with (at_make;refine q_o ?_);refine zh rfl _ _ rfl .i64 .i64 _ _ n rfl rfl rfl rfl hn ?_;intro w2 cs2 B2 hcs2 e2;have ho2:=ho.ext e2;have hR:kS N w2 wr.heap.size n 0 (X k):=⟨by omega,Nat.zero_le _,⟨cs2,B2,hcs2⟩,fun j hj=>by omega⟩
   obtain⟨u0,z0⟩:=ho2.hthere hlt;have z1:=ho2.hfrozen k;have hs2:wr.heap.size<w2.heap.size:=qF B2;have HCS2:=q_h hcs2;clear B2 hcs2 ho;go_upto_region 6 with (fail);obtain⟨w3,E3,C3,hs3,y0,ho3⟩:=ho2.setHead (Nat.le_refl k) hlt (.slice (some ⟨wr.heap.size,0,none⟩) n n);rw[E3];replace hE:=C3.ext (hE.trans e2) (q_r);replace hR:=hR.chg C3 (by omega) (by omega);have hs4:wr.heap.size<w3.heap.size:=by omega
   generalize hgr:wr.heap.size=gr at *
   clear hgr E3 C3 hs3 ho2 z0 z1 e2 hs2;have Y0:=y0;go_wp2
   go_loopw [27] (fun i ws=>∃j:Nat,j<=n/\i=.int .i64 j/\Ext w ws/\gr<ws.heap.size/\ws.cell? ⟨w.heap.size,k,none⟩=some (.slice (some ⟨gr,0,none⟩) n n)/\qU N w.heap.size gr ws w.heap.size m k n β κ X/\kS N ws gr n j (X k)) (fun i _=>n-(intOf i).toNat)
   case atStart=>exact⟨0,Nat.zero_le _,rfl,hE,hs4,y0,ho3,hR⟩
   case round =>
    clear hE y0 ho3 hR hs4 Y0;obtain⟨j,hj,rfl,hE,hs4,y0,ho3,hR⟩:=hrel
    by_cases hlt':j<n
    ·go_upto_region 9 with (fail);have eC:=(Ext.refl wr).drew;refine qw (fun w'=>w'.cell? ⟨w.heap.size,k,none⟩=some (.slice (some ⟨gr,0,none⟩) n n)) [10] (by kernel_rfl) (by exact eC.cell y0) (fun hHeld=>?_);refine sP 0 (h:=?_);refine sP 1 (h:=?_);refine sP 2 (h:=?_);refine sT 3 (h:=?_);refine sP 4 (h:=?_);refine sP 5 (h:=?_);refine sP 6 (h:=?_);refine sP 7 (h:=?_);refine qp (i:=8) rfl (by kernel_rfl) (fun K hK=>?_);go_simp;refine (HF.out k hlt j hlt' _ (hE.trans eC)).mono ?_;intro e w5 hh;obtain⟨b9,A9,k9,c9,A10,k10,c10,rfl,hb9,g9,g10,e5⟩:=hh.form;replace eC:=eC.trans e5;have hR5:=hR.ext eC;obtain⟨x0,v0⟩:=hR5.there (o:=j*4) (by omega);obtain⟨x1,v1⟩:=hR5.there (o:=j*4+1) (by omega);obtain⟨x2,v2⟩:=hR5.there (o:=j*4+2) (by omega);obtain⟨x3,v3⟩:=hR5.there (o:=j*4+3) (by omega);have f0:=hR5.frozen (j*4);have f1:=hR5.frozen (j*4+1);have f2:=hR5.frozen (j*4+2);have f3:=hR5.frozen (j*4+3);go_wp2_with fail;clear hHeld;refine hK.out _ _ (by exact eC.cell y0) fun hHeld=>?_
     clear hK K;try simp only[nr]
     refine sP 9 (h:=?_);refine qj (i:=10) rfl (by kernel_rfl) (by kernel_rfl) (fun K hK=>?_);go_simp;refine hK.out _ _ ?_;clear hK K;try simp only[nr]
     refine qg (by kernel_rfl) ?_ _;clear hHeld;obtain⟨w6,E6,C6,hs6,hr6⟩:=hR5.set (i:=j) (q:=X k j) hlt' (q_r) hb9 g9 g10;rw[E6];replace hE:=C6.ext (hE.trans eC) (by omega);replace ho3:=(ho3.ext eC).chg C6 (by omega) (.inl (q_r));replace y0:=C6.cell (p:=⟨w.heap.size,k,none⟩) (eC.cell y0) (.inl (by simp only;omega));have hr7:=(hr6.less (n':=j+1) (by omega)).congr (y:=X k) (fun c hc=>by unfold upd;split;(rename_i e;rw[e]);rfl);have hs7:gr<w6.heap.size:=by have:=eC.size;omega
     clear E6 C6 hs6 hr6 hR hR5 v0 v1 v2 v3 f0 f1 f2 f3;go_wp2;go_roundw
     case rel=>exact⟨j+1,by omega,by go_num,hE,hs7,y0,ho3,hr7⟩
     case measure=>simp[intOf];omega
    ·obtain rfl:j=n:=by omega
     have ho4:=(ho3.more hlt y0 hR (q_r) (by unfold maxLen;omega)).congr (B:=X) (fun i _ c _=>by unfold xE;split;(rename_i e;rw[e]);rfl);go_wp2;go_roundw
     case rel=>exact⟨k+1,by omega,by go_num,hE,_,_,ho4⟩
     case measure=>simp[intOf];omega
  ·obtain rfl:k=m:=by omega
   go_wp2;go_ret;exact⟨_,_,β,κ,rfl,by unfold maxLen;omega,ho,hE⟩
theorem WU {lo' hi':Nat}{v':Value}{m' n':Nat}{X Y:q_m}(hB:w.cell? ⟨g,0,none⟩=some v/\w.cell? ⟨g,1,none⟩=some v') (h:MtV N lo hi w v m n X) (h':MtV N lo' hi' w v' m' n' Y) (hm0:0<m) (hm:m<=64) (hn0:0<n) (hn:n<=64) (hm0':0<m') (hm':m'<=64) (hn0':0<n') (hn':n'<=64)
  (hs:∀i,i<m->∀j,j<n->Sz (X i j)) (hs':∀i,i<m'->∀j,j<n'->Sz (Y i j)) :
  Calls Tryz.prog 97 #[.slice (some ⟨g,0,none⟩) 2 2] w (zH w (.int .i64 0)):=by
 have HI:=q_h h;have HI':=q_h h';have HS:=q_h hs;have HS':=q_h hs';have HB:=q_h hB;clear h h' hs hs' hB;go_enter Tryz.func97,Tryz.ntmps97;go_wp2
 go_loopw [8] (fun i wr=>∃k:Nat,k<=2/\i=.int .i64 k/\Ext w wr) (fun i _=>2-(intOf i).toNat)
 case atStart=>exact⟨0,by omega,rfl,Ext.refl w⟩
 case round =>
  obtain⟨k,hk,rfl,hE⟩:=hrel;have hk':k=0\/k=1\/k=2:=by omega
  rcases hk' with rfl|rfl|rfl
  ·have b0:=hE.cell HB.out.1;go_wp2_with (go_at_call 124;refine q_o ?_);refine (Je (HI.out.ext hE) hm0 hm hn0 hn HS.out).mono ?_;rintro e w1 ⟨rfl,e1⟩;replace hE:=hE.trans e1;clear b0 e1;go_wp2;go_roundw
   case rel=>exact⟨1,by omega,by go_num,hE⟩
   case measure=>simp[intOf]
  ·have b0:=hE.cell HB.out.2;go_wp2_with (go_at_call 124;refine q_o ?_);refine (Je (HI'.out.ext hE) hm0' hm' hn0' hn' HS'.out).mono ?_;rintro e w1 ⟨rfl,e1⟩;replace hE:=hE.trans e1;clear b0 e1;go_wp2;go_roundw
   case rel=>exact⟨2,by omega,by go_num,hE⟩
   case measure=>simp[intOf]
  ·go_wp2;go_ret;exact⟨rfl,hE⟩
theorem q8K {lo' hi':Nat}{ga gb:Nat}{B:Option Addr}{p c':Nat}{X Y:q_m}(ha:w.cell? ⟨ga,0,none⟩=some (.slice A m c)) (hb:w.cell? ⟨gb,0,none⟩=some (.slice B p c')) (h:MtV N lo hi w (.slice A m c) m n X) (h':MtV N lo' hi' w (.slice B p c') p n Y)(hi':i<m) (hj:j<p) (hm:m<1000000) (hp:p<1000000)
  {k':Nat}(hk:HtL n k (X i)) (hk':HtL n k' (Y j)) (hK:n*(k+k'+1)+1<=29000000000) :
  Calls Tryz.prog 99 #[.int .i64 (i:Int),.int .i64 (j:Int),.pointer (some ⟨ga,0,none⟩),.pointer (some ⟨gb,0,none⟩)] w (jP N w (sum n (fun t=>X i t*Y j t))):=by
 have HK:=q_h hK;have HX:=q_h hk;have HY:=q_h hk';have hN:=h.le;obtain⟨S,hS⟩:=qc (sum n (fun t=>X i t*Y j t));rw[<-hS.out];have hI:=h;have hI':=h';obtain⟨b,off,rfl,-,-,hx⟩:=h.addr (by omega);obtain⟨A1,c1,p0,-,-,hl⟩:=hx i hi';obtain⟨b2,off2,rfl,-,-,hx'⟩:=h'.addr (by omega);obtain⟨A2,c2,q0,-,-,hl'⟩:=hx' j hj;have l0:=cell_lt ha;have l0':=cell_lt hb;have l1:=cell_lt p0;have l2:=cell_lt q0;simp only at l0 l0' l1 l2;have HL:=q_h hl;have HL':=q_h hl';clear hx hx' h h' hk hk' hK hl hl';go_enter Tryz.func99,Tryz.ntmps99;go_upto_region 1 with (fail);refine qo ?_;intro W hE hsz B0;replace ha:=hE.cell ha;replace hb:=hE.cell hb;replace p0:=hE.cell p0;replace q0:=hE.cell q0;have eC:=(Ext.refl W).drew;refine qw (fun w'=>w'.cell? ⟨ga,0,none⟩=some (.slice (some ⟨b,off,none⟩) m c)/\w'.cell? ⟨gb,0,none⟩=some (.slice (some ⟨b2,off2,none⟩) p c')/\w'.cell? ⟨b,off+i,none⟩=some (.slice A1 n c1)/\w'.cell? ⟨b2,off2+j,none⟩=some (.slice A2 n c2)) [9] (by kernel_rfl) (by exact⟨eC.cell ha,eC.cell hb,eC.cell p0,eC.cell q0⟩) (fun hHeld=>?_);refine sT 0 (h:=?_);refine sP 1 (h:=?_);refine sP 2 (h:=?_);refine sT 3 (h:=?_);refine sT 4 (h:=?_);refine sP 5 (h:=?_);refine sP 6 (h:=?_);refine sT 7 (h:=?_);refine qp (i:=8) rfl (by kernel_rfl) (fun K hK=>?_);go_simp;refine (m_dot (HL.out.ext (hE.trans eC)) (HL'.out.ext (hE.trans eC)) HX.out HY.out HK.out).mono ?_
 rw[<-hS.out];intro e w8 hh;obtain⟨b9,A11,k11,c11,A12,k12,c12,rfl,hb9,g9,g10,e8⟩:=hh.form;replace eC:=eC.trans e8;have D0:=eC.block B0;obtain⟨u0,u1,u2,u3,u4,u5,u6,u7⟩:=cells4 D0;go_wp2_with fail;clear hHeld;refine hK.out _ _ (by exact⟨eC.cell ha,eC.cell hb,eC.cell p0,eC.cell q0⟩) fun hHeld=>?_
 clear hK K;try simp only[nr]
 refine qj (i:=9) rfl (by kernel_rfl) (by kernel_rfl) (fun K hK=>?_);go_simp;refine hK.out _ _ ?_;clear hK K;try simp only[nr]
 refine qg (by kernel_rfl) ?_ _;clear hHeld;go_wp2;exact qQ rfl rfl rfl (hE.trans eC) D0 (by omega) hN g9 g10 hb9
theorem q8J {lo' hi':Nat}{ga gb:Nat}{B:Option Addr}{c':Nat}{X Y:q_m}(ha:w.cell? ⟨ga,0,none⟩=some (.slice A m c)) (hb:w.cell? ⟨gb,0,none⟩=some (.slice B m c')) (h:MtV N lo hi w (.slice A m c) m n X) (h':MtV N lo' hi' w (.slice B m c') m n Y)(hi':i<m) (hj:j<n) (hm:m<1000000) (hn:n<1000000)
  (hk:Sz (X i j)) (hk':Sz (Y i j)) :
  Calls Tryz.prog 102 #[.int .i64 (i:Int),.int .i64 (j:Int),.pointer (some ⟨ga,0,none⟩),.pointer (some ⟨gb,0,none⟩)] w (jP N w (X i j-Y i j)):=by
 have HX:=q_h hk;have HY:=q_h hk';have hN:=h.le;obtain⟨S,hS⟩:=qc (X i j-Y i j);rw[<-hS.out];obtain⟨b,off,rfl,-,-,hx⟩:=h.addr (by omega);obtain⟨A1,c1,p0,-,hc1,hl⟩:=hx i hi';obtain⟨b2,off2,rfl,-,-,hx'⟩:=h'.addr (by omega);obtain⟨A2,c2,q0,-,hc2,hl'⟩:=hx' i hi';obtain⟨b3,off3,rfl,-,-,hy⟩:=hl.addr (by omega);obtain⟨n1,A3,k3,c3,A4,k4,c4,t0,t1,t2,t3,hb1,g1,g2⟩:=(hy j hj).open;obtain⟨b4,off4,rfl,-,-,hy'⟩:=hl'.addr (by omega);obtain⟨n2,A5,k5,c5,A6,k6,c6,s0,s1,s2,s3,hb2,g3,g4⟩:=(hy' j hj).open;have l0:=cell_lt ha;have l0':=cell_lt hb;have l1:=cell_lt p0;have l2:=cell_lt q0;have l3:=cell_lt t0;have l4:=cell_lt s0;simp only at l0 l0' l1 l2 l3 l4;unfold maxLen at hc1 hc2;clear hx hx' h h' hk hk' hl hl' hy hy';go_enter Tryz.func102,Tryz.ntmps102;go_upto_region 1 with (fail);refine qo ?_;intro W hE hsz B0;replace ha:=hE.cell ha;replace hb:=hE.cell hb;replace p0:=hE.cell p0;replace q0:=hE.cell q0;replace t0:=hE.cell t0;replace t1:=hE.cell t1;replace t2:=hE.cell t2;replace t3:=hE.cell t3;replace s0:=hE.cell s0;replace s1:=hE.cell s1;replace s2:=hE.cell s2;replace s3:=hE.cell s3;replace g1:=g1.ext hE;replace g2:=g2.ext hE;replace g3:=g3.ext hE;replace g4:=g4.ext hE;have eC:=(Ext.refl W).drew;refine qw (fun w'=>w'.cell? ⟨ga,0,none⟩=some (.slice (some ⟨b,off,none⟩) m c)/\w'.cell? ⟨gb,0,none⟩=some (.slice (some ⟨b2,off2,none⟩) m c')/\w'.cell? ⟨b,off+i,none⟩=some (.slice (some ⟨b3,off3,none⟩) n c1)/\w'.cell? ⟨b2,off2+i,none⟩=some (.slice (some ⟨b4,off4,none⟩) n c2)/\w'.cell? ⟨b3,off3+j*4,none⟩=some (.bool n1)/\w'.cell? ⟨b3,off3+j*4+1,none⟩=some (.slice A3 k3 c3)/\w'.cell? ⟨b3,off3+j*4+2,none⟩=some (.bool false)/\w'.cell? ⟨b3,off3+j*4+3,none⟩=some (.slice A4 k4 c4)/\w'.cell? ⟨b4,off4+j*4,none⟩=some (.bool n2)/\w'.cell? ⟨b4,off4+j*4+1,none⟩=some (.slice A5 k5 c5)/\w'.cell? ⟨b4,off4+j*4+2,none⟩=some (.bool false)/\w'.cell? ⟨b4,off4+j*4+3,none⟩=some (.slice A6 k6 c6)) [15] (by kernel_rfl) (by exact⟨eC.cell ha,eC.cell hb,eC.cell p0,eC.cell q0,eC.cell t0,eC.cell t1,eC.cell t2,eC.cell t3,eC.cell s0,eC.cell s1,eC.cell s2,eC.cell s3⟩) (fun hHeld=>?_)
 refine sT 0 (h:=?_);refine sP 1 (h:=?_);refine sP 2 (h:=?_);refine sT 3 (h:=?_);refine sP 4 (h:=?_);refine sP 5 (h:=?_);refine sT 6 (h:=?_);refine sT 7 (h:=?_);refine sP 8 (h:=?_);refine sP 9 (h:=?_);refine sT 10 (h:=?_);refine sP 11 (h:=?_);refine sP 12 (h:=?_);refine sT 13 (h:=?_);refine qp (i:=14) rfl (by kernel_rfl) (fun K hK=>?_);go_simp;refine (q7C (x:=X i j) (y:=Y i j) (by exact (qX.mk hb1 g1 g2).ext eC) (by exact (qX.mk hb2 g3 g4).ext eC) HX.out HY.out).mono ?_;rw[<-hS.out];intro e w8 hh;obtain⟨b9,A11,k11,c11,A12,k12,c12,rfl,hb9,g9,g10,e8⟩:=hh.form;replace eC:=eC.trans e8;have D0:=eC.block B0;obtain⟨u0,u1,u2,u3,u4,u5,u6,u7⟩:=cells4 D0;go_wp2_with fail;clear hHeld;refine hK.out _ _ (by exact⟨eC.cell ha,eC.cell hb,eC.cell p0,eC.cell q0,eC.cell t0,eC.cell t1,eC.cell t2,eC.cell t3,eC.cell s0,eC.cell s1,eC.cell s2,eC.cell s3⟩) fun hHeld=>?_
 clear hK K;try simp only[nr]
 refine qj (i:=15) rfl (by kernel_rfl) (by kernel_rfl) (fun K hK=>?_);go_simp;refine hK.out _ _ ?_;clear hK K;try simp only[nr]
 refine qg (by kernel_rfl) ?_ _;clear hHeld;go_wp2;exact qQ rfl rfl rfl (hE.trans eC) D0 (by omega) hN g9 g10 hb9
theorem q53 {lo' hi':Nat}{v':Value}{p:Nat}{X Y:q_m}(h:MtV N lo hi w v m n X) (h':MtV N lo' hi' w v' n p Y) (hm0:0<m) (hm:m<=64) (hn0:0<n) (hn:n<=64) (hp0:0<p) (hp:p<=64)
  {k':Nat}(hk:HtM m n k X) (hk':HtM n p k' Y) (hK:n*(k+k'+1)+1<=29000000000) :
  Calls Tryz.prog 50 #[v,v'] w (Kq N w m p (mm n X Y)):=by
 have h9:=Nat.le_mul_of_pos_left (k+k'+1) hn0;have HS:Hid (∀i,i<m->∀j,j<n->Sz (X i j)):=fun i hi j hj=>(hk i hi j hj).sz (by omega)
 have HS':Hid (∀i,i<n->∀j,j<p->Sz (Y i j)):=fun i hi j hj=>(hk' i hi j hj).sz (by omega)
 have HX:=q_h hk;have HY:=q_h hk';have HK:=q_h hK;have hN:=h.le;obtain⟨Z,hZ⟩:=qc (mm n X Y);have HZ:Hid (∀i j,sum n (fun t=>X i t*Y t j)=Z i j):=fun i j=>by rw[hZ.out];rfl
 rw[<-hZ.out];obtain⟨Rf,hRf⟩:=qc (Kq N w m p Z);rw[<-hRf.out];obtain⟨A,c,rfl,hmc,hcm⟩:=h.form;obtain⟨A',c',rfl,hnc,hcm'⟩:=h'.form;have hI:=h;have hI':=h';obtain⟨b,off,rfl,-,-,hx⟩:=h.addr hm0;obtain⟨A1,c1,p0,hnc1,hcm1,-⟩:=hx 0 hm0;rw[Nat.add_zero] at p0;obtain⟨b',off',rfl,-,-,hx'⟩:=h'.addr hn0;obtain⟨A2,c2,q0,hnc2,hcm2,-⟩:=hx' 0 hn0;rw[Nat.add_zero] at q0;unfold maxLen at hcm1 hcm2 hcm hcm';have t1:((n:Int) != (n:Int))=false:=by simp
 clear h h' hx hx' hk hk' hK h9;go_enter Tryz.func50,Tryz.ntmps50;go_upto_region 1 with (fail);refine qo ?_;intro W hE hsz B0;obtain⟨a0,-⟩:=zG B0;have hl0:=qF B0;go_wp2_with (go_at_call 97;refine q_o ?_);refine qW ?_;intro w1 e1 hsz1 B1;obtain⟨b0,b1,-⟩:=cells2 B1;replace hE:=hE.trans e1;replace B0:=e1.block B0;refine (WU ⟨b0,b1⟩ (hI.ext hE) (hI'.ext hE) hm0 hm hn0 hn hn0 hn hp0 hp HS.out HS'.out).mono ?_;rintro e w2 ⟨rfl,e2⟩;replace hE:=hE.trans e2;replace B0:=e2.block B0;clear a0 b0 b1 B1 e1 e2 hsz hsz1;obtain⟨a0,-⟩:=zG B0;replace p0:=hE.cell p0;replace q0:=hE.cell q0;go_wp2_with (go_at_call 98;refine q_o ?_);refine (WT (hI'.ext hE) hn0 (by omega) (by omega)).mono ?_;rintro e w3 ⟨h3,cap3,β3,κ3,rfl,hcap3,ho3,e3⟩;have hT:=ho3.mtv ho3.mle hcap3;have hmle:=ho3.mle;replace hE:=hE.trans e3;replace B0:=e3.block B0;clear ho3 a0 hl0;replace p0:=e3.cell p0;replace q0:=e3.cell q0;clear e3;go_upto_region 7 with (fail);refine qo ?_;intro w4 e4 hsz4 B4;obtain⟨d0,-⟩:=zG B4;replace hE:=hE.trans e4;replace B0:=e4.block B0;obtain⟨a0,-⟩:=zG B0;replace p0:=e4.cell p0;replace q0:=e4.cell q0;replace hT:=hT.ext e4;obtain⟨g3,hg3⟩:∃g3,g3=w3.heap.size:=⟨_,rfl⟩
 rw[<-hg3] at d0 ⊢;clear B4 e4 hg3 hsz4;have hEz:=hE.size;have eC:=(Ext.refl w4).drew;refine qw (fun w'=>w'.cell? ⟨w.heap.size,0,none⟩=some (.slice (some ⟨b,off,none⟩) m c)/\w'.cell? ⟨b',off',none⟩=some (.slice A2 p c2)) [] (by kernel_rfl) (by exact⟨eC.cell a0,eC.cell q0⟩) (fun hHeld=>?_);refine sT 0 (h:=?_);refine sP 1 (h:=?_);refine sP 2 (h:=?_);refine sP 3 (h:=?_);refine sT 4 (h:=?_);refine sP 5 (h:=?_);refine sP 6 (h:=?_);refine qp (i:=7) rfl (by kernel_rfl) (fun K hK=>?_);go_simp;refine (q0X (N:=N) (by show N<=w4.heap.size;omega) m p rfl rfl (by omega) (by omega) Z (fun i hi' j hj w' e=>by rw[<-HZ.out i j];exact q8K (Y:=fun a b=>Y b a) ((eC.trans e).cell a0) ((eC.trans e).cell d0) (hI.ext (hE.trans (eC.trans e))) (hT.ext (eC.trans e)) hi' hj (by omega) (by omega) (HX.out i hi') (fun t ht=>HY.out t ht j hj) HK.out)).mono ?_;rintro e w5 ⟨h5,cap5,β5,κ5,rfl,hcap5,ho5,e5⟩;replace eC:=eC.trans e5;go_wp2_with fail;clear hHeld;refine hK.out _ _ (by exact⟨eC.cell a0,eC.cell q0⟩) fun hHeld=>?_
 clear hK K;try simp only[nr]
 refine sP 8 (h:=?_);refine sP 9 (h:=?_);refine qg (by kernel_rfl) ?_ _;clear hHeld;go_wp2
 first|go_ret2|skip
 rw[hRf.out];exact⟨h5,cap5,β5,κ5,rfl,hcap5,ho5.wide hEz hN (q_r) (q_r),hE.trans eC⟩
theorem q8L {lo' hi':Nat}{v':Value}{X Y:q_m}(h:MtV N lo hi w v m n X) (h':MtV N lo' hi' w v' m n Y) (hm0:0<m) (hm:m<=64) (hn0:0<n) (hn:n<=64)
  (hs:∀i,i<m->∀j,j<n->Sz (X i j)) (hs':∀i,i<m->∀j,j<n->Sz (Y i j)) :
  Calls Tryz.prog 101 #[v,v'] w (zH w (.int .i64 0)):=by
 have HS:=q_h hs;have HS':=q_h hs';obtain⟨A,c,rfl,hmc,hcm⟩:=h.form;obtain⟨A',c',rfl,hmc',hcm'⟩:=h'.form;have hI:=h;have hI':=h';obtain⟨b,off,rfl,-,-,hx⟩:=h.addr hm0;obtain⟨A1,c1,p0,hnc1,hcm1,-⟩:=hx 0 hm0;rw[Nat.add_zero] at p0;obtain⟨b',off',rfl,-,-,hx'⟩:=h'.addr hm0;obtain⟨A2,c2,q0,hnc2,hcm2,-⟩:=hx' 0 hm0;rw[Nat.add_zero] at q0;unfold maxLen at hcm1 hcm2 hcm hcm';have t1:((n:Int) != (n:Int))=false:=by simp
 have t2:((m:Int) != (m:Int))=false:=by simp
 clear h h' hx hx' hs hs';go_enter Tryz.func101,Tryz.ntmps101;go_wp2_with (go_at_call 97;refine q_o ?_);refine qW ?_;intro w1 e1 hsz1 B1;obtain⟨b0,b1,-⟩:=cells2 B1;refine (WU ⟨b0,b1⟩ (hI.ext e1) (hI'.ext e1) hm0 hm hn0 hn hm0 hm hn0 hn HS.out HS'.out).mono ?_;rintro e w2 ⟨rfl,e2⟩;have hE:=e1.trans e2;replace p0:=hE.cell p0;replace q0:=hE.cell q0;clear b0 b1 B1 e1 e2 hsz1;go_upto_region 4 with (fail);refine yB [Mn.eq (.slice (some ⟨b,off,none⟩) m c),Mn.i (m:Int),Mn.eq (.slice (some ⟨b',off',none⟩) m c'),Mn.i (m:Int),Mn.t false,Mn.t false,Mn.eq (.slice (some ⟨b,off,none⟩) m c),Mn.q b off,Mn.eq (.slice A1 n c1),Mn.i (n:Int),Mn.eq (.slice (some ⟨b',off',none⟩) m c'),Mn.q (b') (off'),Mn.eq (.slice A2 n c2),Mn.i (n:Int),Mn.t false,Mn.t false] (sM [13,14,15,16,17,18,19,20,21,22,23,24,25,26,27,28]) [] (rQ 16 0) 0 (by kernel_rfl) ?_ ?_
 ·show ∀i,i<16->_
  iterate 16 refine fs ?_ ?_
  ·exact fz
  all_goals intro hl;clear hl;refine stp rfl ?_;intro ac wi eI hB hA K hK
  have o0:=oOf (hB 0) rfl;rotate_left;obtain⟨x13,s13,j13⟩:=hA 0 13;obtain rfl:x13=(.slice (some ⟨b,off,none⟩) m c):=j13;rotate_left;have o1:=oOf (hB 1) rfl;rotate_left;obtain⟨x15,s15,j15⟩:=hA 2 15;obtain rfl:x15=(.slice (some ⟨b',off',none⟩) m c'):=j15;rotate_left;obtain⟨x14,s14,j14⟩:=hA 1 14;obtain rfl:x14=(.int .i64 (m:Int)):=j14;obtain⟨x16,s16,j16⟩:=hA 3 16;obtain rfl:x16=(.int .i64 (m:Int)):=j16;rotate_left;obtain⟨x17,s17,j17⟩:=hA 4 17;obtain rfl:x17=(.bool false):=j17;rotate_left;obtain⟨x18,s18,j18⟩:=hA 5 18;obtain rfl:x18=(.bool false):=j18;have o0:=oOf (hB 0) rfl;rw[if_pos (by simp[Region.wanted,yielded,s18])];rotate_left;obtain⟨x18,s18,j18⟩:=hA 5 18;obtain rfl:x18=(.bool false):=j18;obtain⟨x19,s19,j19⟩:=hA 6 19;obtain rfl:x19=(.slice (some ⟨b,off,none⟩) m c):=j19;rw[if_pos (by simp[Region.wanted,yielded,s18])];rotate_left;obtain⟨x18,s18,j18⟩:=hA 5 18;obtain rfl:x18=(.bool false):=j18;obtain⟨x20,s20,j20⟩:=hA 7 20;obtain rfl:x20=(.pointer (some ⟨b,off,none⟩)):=j20;rw[if_pos (by simp[Region.wanted,yielded,s18])];have cc0:=eI.cell p0;have cc1:=eI.cell q0;rotate_left;obtain⟨x18,s18,j18⟩:=hA 5 18;obtain rfl:x18=(.bool false):=j18;obtain⟨x21,s21,j21⟩:=hA 8 21;obtain rfl:x21=(.slice A1 n c1):=j21;rw[if_pos (by simp[Region.wanted,yielded,s18])];rotate_left;obtain⟨x18,s18,j18⟩:=hA 5 18;obtain rfl:x18=(.bool false):=j18
  have o1:=oOf (hB 1) rfl;rw[if_pos (by simp[Region.wanted,yielded,s18])];rotate_left;obtain⟨x18,s18,j18⟩:=hA 5 18;obtain rfl:x18=(.bool false):=j18;obtain⟨x23,s23,j23⟩:=hA 10 23;obtain rfl:x23=(.slice (some ⟨b',off',none⟩) m c'):=j23;rw[if_pos (by simp[Region.wanted,yielded,s18])];rotate_left;obtain⟨x18,s18,j18⟩:=hA 5 18;obtain rfl:x18=(.bool false):=j18;obtain⟨x24,s24,j24⟩:=hA 11 24;obtain rfl:x24=(.pointer (some ⟨b',off',none⟩)):=j24;rw[if_pos (by simp[Region.wanted,yielded,s18])];have cc0:=eI.cell p0;have cc1:=eI.cell q0;rotate_left;obtain⟨x18,s18,j18⟩:=hA 5 18;obtain rfl:x18=(.bool false):=j18;obtain⟨x25,s25,j25⟩:=hA 12 25;obtain rfl:x25=(.slice A2 n c2):=j25;rw[if_pos (by simp[Region.wanted,yielded,s18])];rotate_left;obtain⟨x18,s18,j18⟩:=hA 5 18;obtain rfl:x18=(.bool false):=j18;obtain⟨x22,s22,j22⟩:=hA 9 22;obtain rfl:x22=(.int .i64 (n:Int)):=j22;obtain⟨x26,s26,j26⟩:=hA 13 26;obtain rfl:x26=(.int .i64 (n:Int)):=j26;rw[if_pos (by simp[Region.wanted,yielded,s18])];rotate_left;obtain⟨x18,s18,j18⟩:=hA 5 18;obtain rfl:x18=(.bool false):=j18;obtain⟨x27,s27,j27⟩:=hA 14 27;obtain rfl:x27=(.bool false):=j27;rotate_left
  all_goals clear hB hA;go_simp;exact q_k hK rfl
 intro vals wz eZ hJ;have J28:vals 15=_:=hJ 15 (by decide) (by decide);clear hJ;simp only[pr,Nat.reduceAdd,J28];clear J28;refine qg (by kernel_rfl) ?_ _;go_wp2;go_ret;exact⟨rfl,hE.trans eZ⟩
theorem q7k {lo' hi':Nat}{v':Value}{X Y:q_m}(h:MtV N lo hi w v m n X) (h':MtV N lo' hi' w v' m n Y) (hm0:0<m) (hm:m<=64) (hn0:0<n) (hn:n<=64)
  (hs:∀i,i<m->∀j,j<n->Sz (X i j)) (hs':∀i,i<m->∀j,j<n->Sz (Y i j)) :
  Calls Tryz.prog 51 #[v,v'] w (Kq N w m n (fun i j=>X i j-Y i j)):=by
 have HS:=q_h hs;have HS':=q_h hs';have hN:=h.le;obtain⟨Z,hZ⟩:=qc (fun i j=>X i j-Y i j);have HZ:Hid (∀i j,X i j-Y i j=Z i j):=fun i j=>by rw[hZ.out]
 rw[<-hZ.out];obtain⟨Rf,hRf⟩:=qc (Kq N w m n Z);rw[<-hRf.out];obtain⟨A,c,rfl,hmc,hcm⟩:=h.form;obtain⟨A',c',rfl,hmc',hcm'⟩:=h'.form;have hI:=h;have hI':=h';obtain⟨b,off,rfl,-,-,hx⟩:=h.addr hm0;obtain⟨A1,c1,p0,hnc1,hcm1,-⟩:=hx 0 hm0;rw[Nat.add_zero] at p0;unfold maxLen at hcm1 hcm hcm';clear h h' hx hs hs';go_enter Tryz.func51,Tryz.ntmps51;go_upto_region 1 with (fail);refine kD ?_;intro W hE hsz B0 B1;obtain⟨a0,-⟩:=zG B0;obtain⟨d0,-⟩:=zG B1;go_wp2_with (go_at_call 101;refine q_o ?_);refine (q8L (hI.ext hE) (hI'.ext hE) hm0 hm hn0 hn HS.out HS'.out).mono ?_;rintro e w2 ⟨rfl,e2⟩;replace hE:=hE.trans e2;replace B0:=e2.block B0;replace B1:=e2.block B1;clear a0 d0 e2 hsz;obtain⟨a0,-⟩:=zG B0;obtain⟨d0,-⟩:=zG B1;replace p0:=hE.cell p0;have hEz:=hE.size;go_upto_region 4 with (fail);have eC:=(Ext.refl w2).drew;refine qw (fun w'=>w'.cell? ⟨w.heap.size,0,none⟩=some (.slice (some ⟨b,off,none⟩) m c)/\w'.cell? ⟨b,off,none⟩=some (.slice A1 n c1)) [] (by kernel_rfl) (by exact⟨eC.cell a0,eC.cell p0⟩) (fun hHeld=>?_);refine sT 0 (h:=?_);refine sP 1 (h:=?_);refine sT 2 (h:=?_);refine sP 3 (h:=?_);refine sT 4 (h:=?_);refine sP 5 (h:=?_);refine sP 6 (h:=?_);refine qp (i:=7) rfl (by kernel_rfl) (fun K hK=>?_);go_simp;refine (q0W (N:=N) (by show N<=w2.heap.size;omega) m n rfl rfl (by omega) (by omega) Z (fun i hi' j hj w' e=>by rw[<-HZ.out i j];exact q8J ((eC.trans e).cell a0) ((eC.trans e).cell d0) (hI.ext (hE.trans (eC.trans e))) (hI'.ext (hE.trans (eC.trans e))) hi' hj (by omega) (by omega) (HS.out i hi' j hj) (HS'.out i hi' j hj))).mono ?_
 rintro e w5 ⟨h5,cap5,β5,κ5,rfl,hcap5,ho5,e5⟩;replace eC:=eC.trans e5;go_wp2_with fail;clear hHeld;refine hK.out _ _ (by exact⟨eC.cell a0,eC.cell p0⟩) fun hHeld=>?_
 clear hK K;try simp only[nr]
 refine sP 8 (h:=?_);refine sP 9 (h:=?_);refine qg (by kernel_rfl) ?_ _;clear hHeld;go_wp2
 first|go_ret2|skip
 rw[hRf.out];exact⟨h5,cap5,β5,κ5,rfl,hcap5,ho5.wide hEz hN (q_r) (q_r),hE.trans eC⟩
def Mn.mfc (N lo m n:Nat) (X:q_m):Mn:=⟨fun v w=>∃(A:Option Addr) (cap:Nat),v=.tuple #[.slice A m cap,.int .i64 0]/\MtV N lo w.heap.size w (.slice A m cap) m n X,fun e h=>by
  obtain⟨g,cap,h0,h1⟩:=h
  exact⟨g,cap,h0,MtR.wide (h1.ext e) (q_r) e.size (q_r)⟩⟩
def Mn.mf (N lo m n:Nat) (X:q_m):Mn:=⟨fun v w=>∃(A:Option Addr) (cap:Nat),v=.slice A m cap/\MtV N lo w.heap.size w (.slice A m cap) m n X,fun e h=>by
  obtain⟨g,cap,h0,h1⟩:=h
  exact⟨g,cap,h0,MtR.wide (h1.ext e) (q_r) e.size (q_r)⟩⟩
def q60 (F:Nat->Nat->Nat->Nat->Rat) (i j:Nat) (Y:q_m) (r c:Nat):Nat->Nat->Rat:=if r=i/\c=j then Y else F r c
theorem StM.put {B0 B1:Nat}{bz oz gm gr:Nat}{z:Nat->Nat}{F:Nat->Nat->Nat->Nat->Rat}{R:q_m}(h:StM N B0 B1 w bz oz gm gr m z F R){l:List ((Int×Int)×Value)}(h2:∀r c,c<=r->r<m->MpC N B0 B1 w (z r) (z c) (F r c) (lkp l (r:Int) (c:Int))){Y:q_m}(hv:Mx N B0 B1 w v (z i) (z j) Y) (hl:MpE w' gm (put v l (i:Int) (j:Int))) (C:Chg gm (gm+1) w w') (hne:gm≠gr) :
  StM N B0 B1 w' bz oz gm gr m z (q60 F i j Y) R:=by
 obtain⟨⟨s1,s2⟩,-,⟨cs,h3,h4⟩,h5,h6,h7,h8⟩:=h;refine⟨⟨s1,fun a ha=>C.cell (s2 a ha) (by show bz<gm\/gm+1<=bz;omega)⟩,⟨_,hl,fun r c hc hr=>?_⟩,⟨cs,C.blk h3 (by omega),fun a ha=>?_⟩,h5,h6,h7,q_l h8 C.size⟩
 ·rw[Jf];unfold q60
  by_cases hrc:r=i/\c=j
  ·rw[if_pos hrc,if_pos ⟨by rw[hrc.1],by rw[hrc.2]⟩,hrc.1,hrc.2];exact Mx.chg hv C (by omega) (by omega) (by omega)
  ·rw[if_neg hrc,if_neg (by rintro⟨e1,e2⟩;exact hrc ⟨by omega,by omega⟩)];exact (h2 r c hc hr).chg C (by omega) (by omega) (by omega)
 ·obtain⟨u,h9,h10⟩:=h4 a ha;exact⟨u,h9,h10.chg C (by omega) (by omega) (by omega)⟩
def q6s (N B0 B1:Nat) (w:World) (bz oz gm gr m:Nat) (z:Nat->Nat) (F:Nat->Nat->Nat->Nat->Rat) (R:q_m) (e:Ending) (w':World):Prop :=
 e=.returned (.tuple #[])/\StM N B0 B1 w' bz oz gm gr m z F R/\Chg gm (gm+1) w w'
theorem q1k {B0 B1:Nat}{bz oz cz gm gr cr:Nat}{z:Nat->Nat}{F:Nat->Nat->Nat->Nat->Rat}{R:q_m}(h:StM N B0 B1 w bz oz gm gr m z F R) (hne:gm≠gr) (hm:m<=12) (hz:∀i,i<m->0<z i/\z i<=64)(hi:i<m) (hj:j<=i) (hF:∀a,a<z i->∀b,b<z j->Sz (F i j a b)){hi':Nat}{X:q_m}(hX:MtV N lo hi' w v (z i) (z j) X) (hXs:∀a,a<z i->∀b,b<z j->Sz (X a b)) :
  Calls Tryz.prog 82 #[stV bz oz cz gm gr cr m,.int .i64 (i:Int),.int .i64 (j:Int),v] w (q6s N B0 B1 w bz oz gm gr m z (q60 F i j (fun a b=>F i j a b-X a b)) R):=by
 obtain⟨Q,hQ⟩:=qc (q6s N B0 B1 w bz oz gm gr m z (q60 F i j (fun a b=>F i j a b-X a b)) R);rw[<-hQ.out];have HS:=q_h h;obtain⟨l,hml,hmc⟩:=h.mp;have HML:=q_h hml;have HMC:=q_h hmc;have HBW:Hid (B1<=w.heap.size):=h.bw;have HGM:Hid (B0<=gm/\gm<B1):=h.mb;have HNB:Hid (N<=B0):=h.nb;have hkr:V7 (i:Int):=⟨by omega,by omega⟩
 have hkc:V7 (j:Int):=⟨by omega,by omega⟩
 have HKR:=q_h hkr;have HKC:=q_h hkc;have HZr:=q_h (hz i hi);have HZc:=q_h (hz j (by omega));have HFS:=q_h hF;have HXS:=q_h hXs;have HX:=q_h hX;have HNE:=q_h hne;have hl0:=fun (w':World) (e:Ext w w')=>vw (hml.ext e) hkr hkc
 have HL0:=q_h hl0;have HC0:=q_h (hmc i j hj hi);have hnl:=fun (w:World) (a:Option Addr) (n c:Nat)=>Lib.run_eql_slice_nil (P:=Tryz.prog) w 29 37 a n c 0 0 Tryz.underlying29
 obtain⟨A9,k9,rfl,-,-⟩:=hX.form;obtain⟨o,ho⟩:=qc (lkp l (i:Int) (j:Int));rw[<-ho.out] at HL0 HC0;unfold stV;clear h hml hmc hz hF hl0 hX hXs hne hkr hkc;go_enter Tryz.func82,Tryz.ntmps82;go_upto_region 1 with (fail);refine qo ?_;intro w1 e1 hsz B0';go_upto_region 2 with (fail);refine qo ?_;intro w2 e2 hsz2 B8;obtain⟨g8,hg8⟩:=qc w1.heap.size;rw[<-hg8.out] at B8 ⊢;replace B0':=e2.block B0';have hE:=e1.trans e2;obtain⟨a0,a1,a2,-⟩:=cells3 B0';obtain⟨k0,k1,-⟩:=cells2 B8;have hl:=HL0.out w2 hE;unfold kyV at hl;have HB0':=q_h B0';have HB8:=q_h B8;have hN2:N<=w2.heap.size:=by have:=HBW.out;have:=HNB.out;have:=HGM.out;have:=hE.size;omega
 clear e1 e2 hsz hsz2 hg8 B0' B8 HL0;cases o with
 | none =>
  have HM2:Hid (∀a b,a<z i->b<z j->F i j a b=0):=HC0.out;simp only[Option.getD_none] at hl;have p0:=hE.cell (HS.out.sz.2 i hi);have p1:=hE.cell (HS.out.sz.2 j (by omega));have hij:(i:Int)<(m:Int)/\(j:Int)<(m:Int):=⟨by omega,by omega⟩
  obtain⟨hi1,hj1⟩:=hij;have HBJ:Hid (∀ {w':World},Ext w2 w'->B1<=w'.heap.size):=fun e=>q_l HBW.out (q_l hE.size e.size)
  have HZ1:Hid (z i<1000/\z j<1000):=⟨by have:=HZr.out;omega,by have:=HZc.out;omega⟩
  clear HC0;go_upto_region 4 with (fail);clear hl hnl;refine yB [Mn.q w.heap.size 0,Mn.eq (.slice (some ⟨bz,oz,none⟩) m cz),Mn.i (i:Int),Mn.q bz (oz+i),Mn.i (z i:Int),Mn.q w.heap.size 0,Mn.eq (.slice (some ⟨bz,oz,none⟩) m cz),Mn.i (j:Int),Mn.q bz (oz+j),Mn.i (z j:Int),Mn.mf N B1 (z i) (z j) (fun _ _=>0),Mn.mf N B1 (z i) (z j) (fun _ _=>0)] (sM [19,20,21,22,23,24,25,26,27,28,29,9]) [] (rQ 12 0) 0 (by kernel_rfl) ?_ ?_
  ·show ∀i,i<12->_
   iterate 12 refine fs ?_ ?_
   ·exact fz
   all_goals intro hl;clear hl;refine stp rfl ?_;intro ac wi eI hB hA K hK
   have o4:=oOf (hB 4) rfl;rotate_left;obtain⟨_,s19,rfl⟩:=hA 0 19;have cc0:=eI.cell a0;rotate_left;have o1:=oOf (hB 1) rfl;rotate_left;obtain⟨_,s20,rfl⟩:=hA 1 20;obtain⟨_,s21,rfl⟩:=hA 2 21;rotate_left;obtain⟨_,s22,rfl⟩:=hA 3 22;have cc0:=eI.cell p0;rotate_left;have o4:=oOf (hB 4) rfl;rotate_left;obtain⟨_,s24,rfl⟩:=hA 5 24;have cc0:=eI.cell a0;rotate_left;have o2:=oOf (hB 2) rfl;rotate_left;obtain⟨_,s25,rfl⟩:=hA 6 25;obtain⟨_,s26,rfl⟩:=hA 7 26;rotate_left;obtain⟨_,s27,rfl⟩:=hA 8 27;have cc0:=eI.cell p1;rotate_left;obtain⟨_,s23,rfl⟩:=hA 4 23;obtain⟨_,s28,rfl⟩:=hA 9 28;clear hB hA
   ·go_simp;refine (q80 (q_l hN2 eI.size) HZ1.out.1 HZ1.out.2).mono ?_;rintro e wj ⟨Aj,cj,rfl,hj,ej⟩;go_wp2_with fail;exact hK.out _ _ ej ⟨_,_,rfl,MtR.wide hj (HBJ.out eI) (q_r) (q_r)⟩
   obtain⟨x29,s29,j29⟩:=hA 10 29;replace j29:Mn.p (Mn.mf N B1 (z i) (z j) (fun _ _=>0)) x29 wi:=j29;clear hB hA
   ·go_simp;exact q_k hK j29
   all_goals clear hB hA;go_simp;exact q_k hK rfl
  intro vals wz eZ hJ;have J9:Mn.p (Mn.mf N B1 (z i) (z j) (fun _ _=>0)) (vals 11) wz:=hJ 11 (by decide) (by decide);clear hJ;simp only[pr,Nat.reduceAdd]
  generalize vals 11=z9 at J9 ⊢
  refine qg (by kernel_rfl) ?_ _;obtain⟨A4,k4,rfl,hY0⟩:=J9;obtain⟨w4,hw4⟩:∃w4,w4=wz:=⟨_,rfl⟩
  subst hw4;have HY:=q_h (MtV.congr (Y:=F i j) hY0 (fun a ha b hb=>(HM2.out a b ha hb).symm));have E24:=eZ;clear hY0 eZ a0 a1 a2 k0 k1 p0 p1;obtain⟨a0,a1,a2,-⟩:=cells3 (E24.block HB0'.out);obtain⟨k0,k1,-⟩:=cells2 (E24.block HB8.out);have HBI:Hid (∀ {w':World},Ext w4 w'->B1<=w'.heap.size):=fun e=>q_l HBW.out (q_l (hE.trans E24).size e.size)
  go_upto_region 5 with (fail);refine q8h [Mn.q w.heap.size 1,Mn.eq (.map (some gm)),Mn.eq (.agg #[.int .i64 (i:Int),.int .i64 (j:Int)]),Mn.eq (.slice A4 (z i) k4),Mn.eq (.slice A9 (z i) k9),Mn.mfc N B1 (z i) (z j) (fun a b=>F i j a b-X a b),Mn.mfc N B1 (z i) (z j) (fun a b=>F i j a b-X a b),Mn.mf N B1 (z i) (z j) (fun a b=>F i j a b-X a b),Mn.i 0,Mn.any] [some 31,some 32,some 33,some 34,some 35,some 36,some 30,some 37,some 38,none] [9] [8] (rQ 9 1) 1 (by kernel_rfl) ?_ ?_ ?_
  ·show ∀i,i<10->_
   iterate 10 refine fs ?_ ?_
   ·exact fz
   all_goals intro hl hs;first|exact absurd hl (by decide)|exact absurd hs (by decide)|(clear hl hs;refine stp rfl ?_;intro ac wi eI hB hA K hK)
   have o4:=oOf (hB 4) rfl;rotate_left;obtain⟨_,s31,rfl⟩:=hA 0 31;have cc0:=eI.cell a1;rotate_left;have o8:=oOf (hB 8) rfl;have cc0:=eI.cell k0;have cc1:=eI.cell k1;rotate_left;have o9:=oOf (hB 9) rfl;rotate_left;have o3:=oOf (hB 3) rfl;rotate_left;obtain⟨_,s34,rfl⟩:=hA 3 34;obtain⟨_,s35,rfl⟩:=hA 4 35;clear hB hA
   ·go_simp;refine (q7k (HY.out.ext eI) (HX.out.ext ((hE.trans E24).trans eI)) HZr.out.1 HZr.out.2 HZc.out.1 HZc.out.2 HFS.out HXS.out).mono ?_;rintro e wj ⟨gj,cj,β,κ,rfl,hcap,ho,ej⟩;go_wp2_with fail;exact hK.out _ _ ej ⟨_,_,rfl,MtR.wide (ho.mtv ho.mle hcap) (HBI.out eI) (q_r) (q_r)⟩
   obtain⟨x36,s36,j36⟩:=hA 5 36;replace j36:Mn.p (Mn.mfc N B1 (z i) (z j) (fun a b=>F i j a b-X a b)) x36 wi:=j36;clear hB hA
   ·go_simp;exact q_k hK j36
   obtain⟨x30,s30,j30⟩:=hA 6 30;replace j30:Mn.p (Mn.mfc N B1 (z i) (z j) (fun a b=>F i j a b-X a b)) x30 wi:=j30;clear hB hA
   ·obtain⟨gj,cj,rfl,hj⟩:=j30;go_simp;exact q_k hK ⟨gj,cj,rfl,hj⟩
   all_goals clear hB hA;go_simp;exact q_k hK rfl
  ·intro i hs;have hi':i=8:=by simpa using hs
   clear hs
   rcases hi' with rfl
   ·refine sft rfl (fun _ _ _ _ h=>h) ?_;intro ac wi eI hB hA;obtain⟨x30,s30,j30⟩:=hA 6 30;replace j30:Mn.p (Mn.mfc N B1 (z i) (z j) (fun a b=>F i j a b-X a b)) x30 wi:=j30;clear hB hA;obtain⟨gj,cj,rfl,hj⟩:=j30;refine⟨(.int .i64 0),.inl ⟨rfl,fun w9 _=>?_⟩,rfl⟩;go_simp
  intro vals wz eZ hJ;have J32:vals 1=_:=hJ 1 (by decide) (by decide);have J33:vals 2=_:=hJ 2 (by decide) (by decide);have J37:Mn.p (Mn.mf N B1 (z i) (z j) (fun a b=>F i j a b-X a b)) (vals 7) wz:=hJ 7 (by decide) (by decide);clear hJ;simp only[pr,Nat.reduceAdd,J32,J33];clear J32 J33
  generalize vals 7=z37 at J37 ⊢
  obtain⟨gY,cY,rfl,hY⟩:=J37;have hEz:=(hE.trans E24).trans eZ;obtain⟨w9,hu,hM9,C9⟩:=ve (HML.out.ext hEz) HKR.out HKC.out (.slice gY (z i) cY);unfold kyV at hu;refine qj (i:=9) rfl (by kernel_rfl) (by kernel_rfl) (fun K hK=>?_);go_wp2_with fail;refine hK.out _ _ ?_;clear hK K;try simp only[nr]
  refine qg (by kernel_rfl) ?_ _;have HYY:=q_h hY;obtain⟨by_,oy_,hgy,-⟩:=MtV.addr HYY.out HZr.out.1;have HST:Hid (StM N B0 B1 w9 bz oz gm gr m z (q60 F i j (fun a b=>F i j a b-X a b)) R):=StM.put (HS.out.ext hEz) (fun r c hc hr=>(HMC.out r c hc hr).ext hEz) ⟨_,cY,B1,_,by rw[hgy],HYY.out,.inr (q_r)⟩ hM9 C9 HNE.out;have HCC:Hid (Chg gm (gm+1) w w9):=(hEz.chg gm (gm+1)).trans C9;clear hM9 C9 eZ hY HYY a0 a1 a2 k0 k1 hgy;go_wp2
  first|go_ret|go_end0|skip
  rw[hQ.out];exact⟨rfl,HST.out,HCC.out⟩
 | some v0 =>
  have HM2:Hid (Mx N B0 B1 w v0 (z i) (z j) (F i j)):=HC0.out;simp only[Option.getD_some] at hl;obtain⟨A4',k4,lo4,hi4,rfl,hmt⟩:=HM2.out.mtv;obtain⟨A4,hA4⟩:=qc (some A4');have HY:=q_h (hmt.ext hE);have E24:Ext w2 w2:=Ext.refl _;clear HC0 hmt;go_upto_region 5 with (fail);clear hl hnl a0 a1 a2 k0 k1;rw[<-hA4.out] at HY ⊢;obtain⟨w4,hw4⟩:∃w4,w4=w2:=⟨_,rfl⟩
  subst hw4;obtain⟨a0,a1,a2,-⟩:=cells3 (E24.block HB0'.out);obtain⟨k0,k1,-⟩:=cells2 (E24.block HB8.out);have HBI:Hid (∀ {w':World},Ext w4 w'->B1<=w'.heap.size):=fun e=>q_l HBW.out (q_l (hE.trans E24).size e.size)
  go_upto_region 5 with (fail);refine q8h [Mn.q w.heap.size 1,Mn.eq (.map (some gm)),Mn.eq (.agg #[.int .i64 (i:Int),.int .i64 (j:Int)]),Mn.eq (.slice A4 (z i) k4),Mn.eq (.slice A9 (z i) k9),Mn.mfc N B1 (z i) (z j) (fun a b=>F i j a b-X a b),Mn.mfc N B1 (z i) (z j) (fun a b=>F i j a b-X a b),Mn.mf N B1 (z i) (z j) (fun a b=>F i j a b-X a b),Mn.i 0,Mn.any] [some 31,some 32,some 33,some 34,some 35,some 36,some 30,some 37,some 38,none] [9] [8] (rQ 9 1) 1 (by kernel_rfl) ?_ ?_ ?_
  ·show ∀i,i<10->_
   iterate 10 refine fs ?_ ?_
   ·exact fz
   all_goals intro hl hs;first|exact absurd hl (by decide)|exact absurd hs (by decide)|(clear hl hs;refine stp rfl ?_;intro ac wi eI hB hA K hK)
   have o4:=oOf (hB 4) rfl;rotate_left;obtain⟨_,s31,rfl⟩:=hA 0 31;have cc0:=eI.cell a1;rotate_left;have o8:=oOf (hB 8) rfl;have cc0:=eI.cell k0;have cc1:=eI.cell k1;rotate_left;have o9:=oOf (hB 9) rfl;rotate_left;have o3:=oOf (hB 3) rfl;rotate_left;obtain⟨_,s34,rfl⟩:=hA 3 34;obtain⟨_,s35,rfl⟩:=hA 4 35;clear hB hA
   ·go_simp;refine (q7k (HY.out.ext eI) (HX.out.ext ((hE.trans E24).trans eI)) HZr.out.1 HZr.out.2 HZc.out.1 HZc.out.2 HFS.out HXS.out).mono ?_;rintro e wj ⟨gj,cj,β,κ,rfl,hcap,ho,ej⟩;go_wp2_with fail;exact hK.out _ _ ej ⟨_,_,rfl,MtR.wide (ho.mtv ho.mle hcap) (HBI.out eI) (q_r) (q_r)⟩
   obtain⟨x36,s36,j36⟩:=hA 5 36;replace j36:Mn.p (Mn.mfc N B1 (z i) (z j) (fun a b=>F i j a b-X a b)) x36 wi:=j36;clear hB hA
   ·go_simp;exact q_k hK j36
   obtain⟨x30,s30,j30⟩:=hA 6 30;replace j30:Mn.p (Mn.mfc N B1 (z i) (z j) (fun a b=>F i j a b-X a b)) x30 wi:=j30;clear hB hA
   ·obtain⟨gj,cj,rfl,hj⟩:=j30;go_simp;exact q_k hK ⟨gj,cj,rfl,hj⟩
   all_goals clear hB hA;go_simp;exact q_k hK rfl
  ·intro i hs;have hi':i=8:=by simpa using hs
   clear hs
   rcases hi' with rfl
   ·refine sft rfl (fun _ _ _ _ h=>h) ?_;intro ac wi eI hB hA;obtain⟨x30,s30,j30⟩:=hA 6 30;replace j30:Mn.p (Mn.mfc N B1 (z i) (z j) (fun a b=>F i j a b-X a b)) x30 wi:=j30;clear hB hA;obtain⟨gj,cj,rfl,hj⟩:=j30;refine⟨(.int .i64 0),.inl ⟨rfl,fun w9 _=>?_⟩,rfl⟩;go_simp
  intro vals wz eZ hJ;have J32:vals 1=_:=hJ 1 (by decide) (by decide);have J33:vals 2=_:=hJ 2 (by decide) (by decide);have J37:Mn.p (Mn.mf N B1 (z i) (z j) (fun a b=>F i j a b-X a b)) (vals 7) wz:=hJ 7 (by decide) (by decide);clear hJ;simp only[pr,Nat.reduceAdd,J32,J33];clear J32 J33
  generalize vals 7=z37 at J37 ⊢
  obtain⟨gY,cY,rfl,hY⟩:=J37;have hEz:=(hE.trans E24).trans eZ;obtain⟨w9,hu,hM9,C9⟩:=ve (HML.out.ext hEz) HKR.out HKC.out (.slice gY (z i) cY);unfold kyV at hu;refine qj (i:=9) rfl (by kernel_rfl) (by kernel_rfl) (fun K hK=>?_);go_wp2_with fail;refine hK.out _ _ ?_;clear hK K;try simp only[nr]
  refine qg (by kernel_rfl) ?_ _;have HYY:=q_h hY;obtain⟨by_,oy_,hgy,-⟩:=MtV.addr HYY.out HZr.out.1;have HST:Hid (StM N B0 B1 w9 bz oz gm gr m z (q60 F i j (fun a b=>F i j a b-X a b)) R):=StM.put (HS.out.ext hEz) (fun r c hc hr=>(HMC.out r c hc hr).ext hEz) ⟨_,cY,B1,_,by rw[hgy],HYY.out,.inr (q_r)⟩ hM9 C9 HNE.out;have HCC:Hid (Chg gm (gm+1) w w9):=(hEz.chg gm (gm+1)).trans C9;clear hM9 C9 eZ hY HYY a0 a1 a2 k0 k1 hgy;go_wp2
  first|go_ret|go_end0|skip
  rw[hQ.out];exact⟨rfl,HST.out,HCC.out⟩
end
section
def q1p (n:Nat) (M:q_m) (E:Nat->Bool):Prop:=∀x:Nat->Rat,(∀i,i<n->E i=false->x i=0)->(∀i,i<n->E i=true->av n M x i=0)->∀i,i<n->x i=0
def Fil (n:Nat) (M:q_m) (E:Nat->Bool):Prop:=∀y:Nat->Rat,∃x:Nat->Rat,(∀i,E i=false->x i=y i)/\∀i,i<n->E i=true->av n M x i=0
def Wl (n:Nat) (M:q_m) (E:Nat->Bool) (S:q_m):Prop:=∀x:Nat->Rat,(∀i,i<n->E i=true->av n M x i=0)->∀i,i<n->E i=false->av n M x i=sum n (fun j=>if E j=true then 0 else S i j*x j)
structure Enm (n k:Nat) (E:Nat->Bool) (e:Nat->Nat):Prop where
 low:∀a,a<k->e a<n
 mem:∀a,a<k->E (e a)=true
 inj:∀a b,a<k->b<k->e a=e b->a=b
 onto:∀i,i<n->E i=true->∃a,a<k/\e a=i
theorem Enm.dlt{E:Nat->Bool}{e:Nat->Nat}(h:Enm n k E e)(hc:c<n):sum k (fun b=>dlt (e b) c)=if E c=true then 1 else 0:=by
 cases hE:E c with
 | true =>
  obtain⟨a,ha,rfl⟩:=h.onto c hc hE;rw[kN ha (fun b hb hne=>kY (fun e9=>hne (h.inj b a hb ha e9))),kX];rfl
 | false =>
  rw[qy (fun b hb=>kY (fun e9=>by rw[<-e9,h.mem b hb] at hE;cases hE))];rfl
theorem Enm.sum{E:Nat->Bool}{e:Nat->Nat}(h:Enm n k E e) (f:q_v):Go.Proofs.YtflhlobiipejeaaGreat.sum n (fun c=>if E c=true then f c else 0)=Go.Proofs.YtflhlobiipejeaaGreat.sum k (fun b=>f (e b)):=by
 have h1:Go.Proofs.YtflhlobiipejeaaGreat.sum n (fun c=>if E c=true then f c else 0)=Go.Proofs.YtflhlobiipejeaaGreat.sum n (fun c=>Go.Proofs.YtflhlobiipejeaaGreat.sum k (fun b=>Go.Proofs.YtflhlobiipejeaaGreat.dlt (e b) c*f c)):=qf fun c hc=>by
  rw[qE,h.dlt hc];cases E c with
  | true=>simp
  | false=>simp
 rw[h1,zu];exact qf fun b hb=>zi (h.low b hb) f
theorem q1G (n:Nat) (E:Nat->Bool) (f:q_v):sum n f=sum n (fun c=>if E c=true then 0 else f c)+sum n (fun c=>if E c=true then f c else 0):=by
 rw[<-Ql];exact qf fun c _=>by cases E c<;>simp<;>grind
theorem Enm.parts{E:Nat->Bool}{e:Nat->Nat}(h:Enm n k E e) (f:q_v):Go.Proofs.YtflhlobiipejeaaGreat.sum n f=Go.Proofs.YtflhlobiipejeaaGreat.sum n (fun c=>if E c=true then 0 else f c)+Go.Proofs.YtflhlobiipejeaaGreat.sum k (fun b=>f (e b)):=by
 rw[q1G n E f,h.sum]
def x9 (M:q_m) (e:Nat->Nat) (a b:Nat):Rat:=M (e a) (e b)
theorem q2c{M:q_m}{E:Nat->Bool}{e:Nat->Nat}(h:Enm n k E e) (hr:Reg k (x9 M e)):q1p n M E:=by
 intro x hx h0 i hi;cases hE:E i with
 | false=>exact hx i hi hE
 | true =>
  obtain⟨a,ha,rfl⟩:=h.onto i hi hE;refine hr (fun a=>x (e a)) (fun b hb=>?_) a ha;have h1:=h0 (e b) (h.low b hb) (h.mem b hb);unfold av at h1
  rw[h.parts,qy (fun c hcn=>by
   cases hc:E c with
   | true=>rfl
   | false=>rw[if_neg (by simp),hx c hcn hc];grind),Rat.zero_add] at h1
  exact h1
def spr (k:Nat) (e:Nat->Nat) (z:q_v) (i:Nat):Rat:=sum k (fun a=>dlt (e a) i*z a)
theorem Ws{E:Nat->Bool}{e:Nat->Nat}(h:Enm n k E e) (z:q_v){a:Nat}(ha:a<k):spr k e z (e a)=z a:=by
 unfold spr;rw[kN ha (fun b hb hne=>by rw[kY (fun e9=>hne (h.inj b a hb ha e9))];grind),kX]
 grind
theorem q2a{M:q_m}{E:Nat->Bool}{e:Nat->Nat}(h:Enm n k E e) (hr:q1p n M E):Reg k (x9 M e):=by
 intro z hz a ha
 have h1:=hr (fun i=>if E i=true then spr k e z i else 0) (fun i _ hi=>by simp[hi]) (fun i hi hE=>by
  obtain⟨b,hb,rfl⟩:=h.onto i hi hE;unfold av;rw[h.parts,qy (fun c _=>by cases hc:E c<;>simp[hc]),Rat.zero_add];refine Eq.trans (qf fun c hc=>?_) (hz b hb);simp only[h.mem c hc,if_true]
  rw[Ws h z hc];rfl) (e a) (h.low a ha)
 simp only[h.mem a ha,if_true] at h1;rw[<-Ws h z ha];exact h1
def q0K (k:Nat) (M:q_m) (e:Nat->Nat) (X:q_m) (i j:Nat):Rat:=M i j-sum k (fun a=>M i (e a)*sum k (fun b=>X a b*M (e b) j))
theorem q8U{M X:q_m}{E:Nat->Bool}{e:Nat->Nat}(h:Enm n k E e) (hX:∀i,i<k->∀c,c<k->mm k (x9 M e) X i c=dlt i c):Fil n M E:=by
 intro y;obtain⟨z,hz⟩:∃z:Nat->Rat,z=fun a=>- sum k (fun b=>X a b*sum n (fun j=>if E j=true then 0 else M (e b) j*y j)):=⟨_,rfl⟩
 refine⟨fun i=>if E i=true then spr k e z i else y i,fun i hi=>by simp[hi],fun i hi hE=>?_⟩;obtain⟨a,ha,rfl⟩:=h.onto i hi hE;unfold av;rw[h.parts];have h1:sum n (fun c=>if E c=true then 0 else M (e a) c*(if E c=true then spr k e z c else y c))=sum n (fun j=>if E j=true then 0 else M (e a) j*y j):=qf fun c _=>by cases E c<;>simp
 have h2:sum k (fun b=>M (e a) (e b)*(if E (e b)=true then spr k e z (e b) else y (e b))) = - sum n (fun j=>if E j=true then 0 else M (e a) j*y j):=by
  have h3:sum k (fun b=>M (e a) (e b)*(if E (e b)=true then spr k e z (e b) else y (e b)))=sum k (fun b=>x9 M e a b*z b):=qf fun b hb=>by
   rw[if_pos (h.mem b hb),Ws h z hb];rfl
  rw[h3,hz]
  have h4:sum k (fun b=>x9 M e a b*(- sum k (fun d=>X b d*sum n (fun j=>if E j=true then 0 else M (e d) j*y j)))) = - sum k (fun d=>mm k (x9 M e) X a d*sum n (fun j=>if E j=true then 0 else M (e d) j*y j)):=by
   rw[<-jV]
   have h5:sum k (fun b=>x9 M e a b*(- sum k (fun d=>X b d*sum n (fun j=>if E j=true then 0 else M (e d) j*y j))))=sum k (fun b=>sum k (fun d=>- (x9 M e a b*X b d*sum n (fun j=>if E j=true then 0 else M (e d) j*y j)))):=qf fun b _=>by
    rw[<-jV,<-zN];exact qf fun d _=>by grind
   rw[h5,zu]
   exact qf fun d _=>by
    unfold mm;rw[<-qE,<-jV]
  rw[h4]
  congr 1
  have h6:sum k (fun d=>mm k (x9 M e) X a d*sum n (fun j=>if E j=true then 0 else M (e d) j*y j))=sum k (fun d=>dlt a d*sum n (fun j=>if E j=true then 0 else M (e d) j*y j)):=qf fun d hd=>by rw[hX a ha d hd]
  rw[h6,zi ha (fun d=>sum n (fun j=>if E j=true then 0 else M (e d) j*y j))]
 rw[h1,h2]
 grind
theorem q59{M X:q_m}{E:Nat->Bool}{e:Nat->Nat}(h:Enm n k E e) (hX:∀i,i<k->∀c,c<k->mm k X (x9 M e) i c=dlt i c):Wl n M E (q0K k M e X):=by
 intro x hx i hi hE;obtain⟨u,hu⟩:∃u:Nat->Rat,u=fun b=>sum n (fun j=>if E j=true then 0 else M (e b) j*x j):=⟨_,rfl⟩
 have h0:∀b,b<k->sum k (fun a=>x9 M e b a*x (e a)) = - u b:=fun b hb=>by
  have h1:=hx (e b) (h.low b hb) (h.mem b hb);unfold av at h1;rw[h.parts] at h1;have h2:sum k (fun a=>x9 M e b a*x (e a))=sum k (fun a=>M (e b) (e a)*x (e a)):=rfl;rw[h2,hu]
  grind
 have hz:∀a,a<k->x (e a) = - sum k (fun b=>X a b*u b):=fun a ha=>by
  have h1:sum k (fun b=>X a b*sum k (fun c=>x9 M e b c*x (e c)))=x (e a):=by
   have h2:sum k (fun b=>X a b*sum k (fun c=>x9 M e b c*x (e c)))=sum k (fun c=>mm k X (x9 M e) a c*x (e c)):=by
    have h3:sum k (fun b=>X a b*sum k (fun c=>x9 M e b c*x (e c)))=sum k (fun b=>sum k (fun c=>X a b*x9 M e b c*x (e c))):=qf fun b _=>by
     rw[<-zN];exact qf fun c _=>by grind
    rw[h3,zu];exact qf fun c _=>by unfold mm;rw[<-qE]
   rw[h2];have h4:sum k (fun c=>mm k X (x9 M e) a c*x (e c))=sum k (fun c=>dlt a c*x (e c)):=qf fun c hc=>by rw[hX a ha c hc]
   rw[h4,zi ha (fun c=>x (e c))]
  rw[<-h1,<-jV];exact qf fun b hb=>by rw[h0 b hb];grind
 unfold av;rw[h.parts]
 have h5:sum k (fun b=>M i (e b)*x (e b)) = - sum n (fun j=>if E j=true then 0 else sum k (fun a=>M i (e a)*sum k (fun b=>X a b*M (e b) j))*x j):=by
  have h6:sum k (fun b=>M i (e b)*x (e b)) = - sum k (fun a=>M i (e a)*sum k (fun b=>X a b*u b)):=by
   rw[<-jV];exact qf fun a ha=>by rw[hz a ha];grind
  rw[h6,hu]
  congr 1
  have h7:sum k (fun a=>M i (e a)*sum k (fun b=>X a b*sum n (fun j=>if E j=true then 0 else M (e b) j*x j)))=sum k (fun a=>sum n (fun j=>if E j=true then 0 else M i (e a)*sum k (fun b=>X a b*M (e b) j)*x j)):=qf fun a _=>by
   have h8:sum k (fun b=>X a b*sum n (fun j=>if E j=true then 0 else M (e b) j*x j))=sum n (fun j=>if E j=true then 0 else sum k (fun b=>X a b*M (e b) j)*x j):=by
    have h9:sum k (fun b=>X a b*sum n (fun j=>if E j=true then 0 else M (e b) j*x j))=sum k (fun b=>sum n (fun j=>X a b*(if E j=true then 0 else M (e b) j*x j))):=qf fun b _=>by rw[<-zN]
    rw[h9,zu]
    exact qf fun j _=>by
     cases E j with
     | true=>simp only[if_true];exact qy fun b _=>by grind
     | false=>simp only[Bool.false_eq_true,if_false];rw[<-qE];exact qf fun b _=>by grind
   rw[h8,<-zN];exact qf fun j _=>by cases E j<;>simp<;>grind
  rw[h7,zu]
  exact qf fun j _=>by
   cases E j with
   | true=>simp only[if_true];exact qy fun a _=>rfl
   | false=>simp only[Bool.false_eq_true,if_false];rw[qE]
 rw[h5,<-Rat.sub_eq_add_neg,<-XE];exact qf fun j _=>by unfold q0K;cases E j<;>simp<;>grind
def both (E1 E2:Nat->Bool) (i:Nat):Bool:=E1 i||E2 i
def kJ (E:Nat->Bool) (i:Nat):Bool:=!E i
theorem q0q {E1 E2:Nat->Bool}(h:E1 i=true):both E1 E2 i=true:=by unfold both;rw[h];rfl
theorem q3P {E1 E2:Nat->Bool}(h:E2 i=true):both E1 E2 i=true:=by unfold both;rw[h,Bool.or_true]
theorem JE {E1 E2:Nat->Bool}(h:both E1 E2 i=false):E1 i=false/\E2 i=false:=by unfold both at h;exact Bool.or_eq_false_iff.1 h
theorem Enm.rest {n1:Nat}{E:Nat->Bool}{l:Nat->Nat}(h:Enm n n1 (kJ E) l) (f:q_v):Go.Proofs.YtflhlobiipejeaaGreat.sum n (fun j=>if E j=true then 0 else f j)=Go.Proofs.YtflhlobiipejeaaGreat.sum n1 (fun p=>f (l p)):=by
 rw[<-h.sum];exact qf fun c _=>by unfold kJ;cases E c<;>rfl
theorem q6V {n1:Nat}{M S:q_m}{E:Nat->Bool}{l:Nat->Nat}(hl:Enm n n1 (kJ E) l) (hS:Wl n M E S){x:q_v}(hx:∀i,i<n->E i=true->av n M x i=0){p:Nat}(hp:p<n1):av n M x (l p)=av n1 (x9 S l) (fun q=>x (l q)) p:=by
 have hE:E (l p)=false:=by have:=hl.mem p hp;unfold kJ at this;simpa using this
 rw[hS x hx (l p) (hl.low p hp) hE,hl.rest]
 rfl
theorem q8M {n1:Nat}{E:Nat->Bool}{l:Nat->Nat}(hl:Enm n n1 (kJ E) l) (y:q_v):∃v:Nat->Rat,∀p,p<n1->v (l p)=y p:=⟨spr n1 l y,fun p hp=>Ws hl y hp⟩
theorem q2d{M S1:q_m}{E1 E2:Nat->Bool}(h1:q1p n M E1) (hS:Wl n M E1 S1) (h2:q1p n S1 E2) (hd:∀i,E2 i=true->E1 i=false):q1p n M (both E1 E2):=by
 intro x hx h0;obtain⟨u,hu⟩:∃u:Nat->Rat,u=fun i=>if E2 i=true then x i else 0:=⟨_,rfl⟩
 have h00:∀i,i<n->E1 i=true->av n M x i=0:=fun i hi h=>h0 i hi (q0q h)
 have hu0:∀i,i<n->u i=0:=h2 u (fun i _ hi=>by rw[hu];simp[hi]) (fun i hi hE=>by
  have h3:=h0 i hi (q3P hE);rw[hS x h00 i hi (hd i hE)] at h3;refine Eq.trans (qf fun j hj=>?_) h3;rw[hu]
  show S1 i j*(if E2 j=true then x j else 0)=if E1 j=true then 0 else S1 i j*x j
  cases h4:E1 j with
  | true =>
   have:E2 j=false:=by
    cases h5:E2 j with
    | false=>rfl
    | true=>have:=hd j h5;rw[h4] at this;cases this
   rw[this,if_pos rfl,if_neg (by simp)];grind
  | false =>
   cases h5:E2 j with
   | true=>simp
   | false =>
    have:=hx j hj (by unfold both;rw[h4,h5];rfl)
    rw[this];simp)
 refine h1 x (fun i hi hE1=>?_) h00;cases h5:E2 i with
 | false=>exact hx i hi (by unfold both;rw[hE1,h5];rfl)
 | true =>
  have:=hu0 i hi;rw[hu] at this;simpa[h5] using this
theorem q0N{M S1:q_m}{E1 E2:Nat->Bool}(hf:Fil n M E1) (hS:Wl n M E1 S1) (h:q1p n M (both E1 E2)) (hd:∀i,E2 i=true->E1 i=false):q1p n S1 E2:=by
 intro y hy h0 i hi;obtain⟨x,hx,hx0⟩:=hf y
 have hz:=h x (fun i hin hi=>by
  obtain⟨a1,a2⟩:=JE hi;rw[hx i a1,hy i hin a2]) (fun i hi hb=>by
  cases h1:E1 i with
  | true=>exact hx0 i hi h1
  | false =>
   have h2:E2 i=true:=by unfold both at hb;rw[h1] at hb;simpa using hb
   rw[hS x hx0 i hi h1];refine Eq.trans (qf fun j hj=>?_) (h0 i hi h2)
   show (if E1 j=true then 0 else S1 i j*x j)=S1 i j*y j
   cases h3:E1 j with
   | true =>
    have:E2 j=false:=by
     cases h5:E2 j with
     | false=>rfl
     | true=>have:=hd j h5;rw[h3] at this;cases this
    rw[hy j hj this,if_pos rfl];grind
   | false=>rw[if_neg (by simp),hx j h3])
 cases h2:E2 i with
 | false=>exact hy i hi h2
 | true=>rw[<-hx i (hd i h2)];exact hz i hi
theorem wJ{M:q_m}(h:V6 n M) (E:Nat->Bool):q1p n M E:=by
 intro x hx h0 i hi;refine Classical.byContradiction fun hne=>?_
 have h1:=h x ⟨i,hi,hne⟩
 rw[qy (fun j hj=>by
  cases hE:E j with
  | true=>rw[h0 j hj hE];grind
  | false=>rw[hx j hj hE];grind)] at h1
 exact absurd h1 (by decide)
theorem q4Q {n1:Nat}{M S:q_m}{E:Nat->Bool}{l:Nat->Nat}(h:V6 n M) (hl:Enm n n1 (kJ E) l) (hf:Fil n M E) (hS:Wl n M E S):V6 n1 (x9 S l):=by
 rintro y ⟨p,hp,hne⟩;obtain⟨v,hv⟩:=q8M hl y;obtain⟨x,hx,hx0⟩:=hf v;have hE1:∀q,q<n1->E (l q)=false:=fun q hq=>by have:=hl.mem q hq;unfold kJ at this;simpa using this
 have hxl:∀q,q<n1->x (l q)=y q:=fun q hq=>by rw[hx (l q) (hE1 q hq),hv q hq]
 have h1:=h x ⟨l p,hl.low p hp,by rw[hxl p hp];exact hne⟩
 have h2:sum n (fun i=>x i*av n M x i)=sum n (fun i=>if E i=true then 0 else x i*av n M x i):=qf fun i hi=>by
  cases hE:E i with
  | true=>rw[hx0 i hi hE];simp
  | false=>rfl
 rw[h2,hl.rest] at h1
 have h3:sum n1 (fun p=>x (l p)*av n M x (l p))=sum n1 (fun p=>y p*av n1 (x9 S l) y p):=qf fun q hq=>by
  rw[hxl q hq,q6V hl hS hx0 hq]
  congr 1
  exact qf fun c hc=>by show x9 S l q c*x (l c)=_;rw[hxl c hc]
 rw[h3] at h1;exact h1
def VL (m:Nat) (R:q_m) (i j:Nat):Rat:=dlt i j+sum m (fun r=>R r i*R r j)
theorem q3f (n m:Nat) (R:q_m) (x:q_v):sum n (fun i=>x i*av n (VL m R) x i)=sum n (fun i=>x i*x i)+sum m (fun r=>av n R x r*av n R x r):=by
 have h1:∀i,i<n->x i*av n (VL m R) x i=x i*x i+sum m (fun r=>x i*R r i*av n R x r):=fun i hi=>by
  have h2:av n (VL m R) x i=sum n (fun c=>dlt i c*x c)+sum n (fun c=>sum m (fun r=>R r i*(R r c*x c))):=by
   rw[<-Ql]
   exact qf fun c _=>by
    unfold VL;have:sum m (fun r=>R r i*(R r c*x c))=sum m (fun r=>R r i*R r c)*x c:=by rw[<-qE];exact qf fun r _=>by grind
    rw[this];grind
  have h3:sum n (fun c=>sum m (fun r=>R r i*(R r c*x c)))=sum m (fun r=>R r i*av n R x r):=by
   rw[zu];exact qf fun r _=>by unfold av;rw[zN]
  rw[h2,zi hi,h3,Rat.mul_add,<-zN]
  congr 1
  exact qf fun r _=>by grind
 rw[qf h1,Ql,zu]
 congr 1
 exact qf fun r _=>by
  rw[qE]
  congr 1
  unfold av;exact qf fun i _=>by grind
theorem q3e (n m:Nat) (R:q_m):V6 n (VL m R):=by
 rintro x ⟨i,hi,hne⟩;rw[q3f];have h1:0<=sum m (fun r=>av n R x r*av n R x r):=KR fun r _=>xK _
 have h2:x i*x i<=sum n (fun i=>x i*x i):=q0C (f:=fun i=>x i*x i) hi (fun k _=>xK _)
 have h3:0<x i*x i:=by
  have h4:=xK (x i);have h5:x i*x i≠0:=fun h=>hne (XH h)
  grind
 grind
theorem q2b{M:q_m}:Reg n M↔q1p n M (fun _=>true):=by
 constructor
 ·intro h x _ h0 i hi;exact h x (fun a ha=>h0 a ha rfl) i hi
 ·intro h x h0 i hi;exact h x (fun _ _ h=>by cases h) (fun a ha _=>h0 a ha) i hi
theorem Za{K:q_m}:(zI k (Qh k K) k).2.length=k↔Reg k K:=by
 have h:q1s k k (zg k K) (zI k (Qh k K) k).1 (zI k (Qh k K) k).2:=by
  have:=xY k (Qh k K) k;rw[Ko] at this ⊢;exact this
 constructor
 ·intro hl x hx c hc;have h2:=(WZ h hl).2
  have h3:sum k (fun b=>(zI k (Qh k K) k).1 c (k+b)*sum k (fun d=>K b d*x d))=x c:=by
   have h4:sum k (fun b=>(zI k (Qh k K) k).1 c (k+b)*sum k (fun d=>K b d*x d))=sum k (fun d=>mm k (fun a b=>(zI k (Qh k K) k).1 a (k+b)) K c d*x d):=by
    have h5:sum k (fun b=>(zI k (Qh k K) k).1 c (k+b)*sum k (fun d=>K b d*x d))=sum k (fun b=>sum k (fun d=>(zI k (Qh k K) k).1 c (k+b)*K b d*x d)):=qf fun b _=>by
     rw[<-zN];exact qf fun d _=>by grind
    rw[h5,zu];exact qf fun d _=>by unfold mm;rw[<-qE]
   rw[h4];have h6:sum k (fun d=>mm k (fun a b=>(zI k (Qh k K) k).1 a (k+b)) K c d*x d)=sum k (fun d=>dlt c d*x d):=qf fun d hd=>by rw[h2 c hc d hd]
   rw[h6,zi hc]
  rw[<-h3];exact qy fun b hb=>by rw[hx b hb];grind
 ·exact fun hr=>VE h hr
theorem jD{K:q_m}(hr:Reg k K):(∀i,i<k->∀c,c<k->mm k K (x8 k K) i c=dlt i c)/\(∀i,i<k->∀c,c<k->mm k (x8 k K) K i c=dlt i c):=by
 have h:q1s k k (zg k K) (zI k (Qh k K) k).1 (zI k (Qh k K) k).2:=by
  have:=xY k (Qh k K) k;rw[Ko] at this ⊢;exact this
 exact WZ h (VE h hr)
noncomputable def XK (k:Nat) (M:q_m) (e:Nat->Nat):Nat->Nat->Rat:=q0K k M e (x8 k (x9 M e))
theorem q1T{M:q_m}{E:Nat->Bool}{e:Nat->Nat}(h:Enm n k E e) (hr:q1p n M E):Fil n M E/\Wl n M E (XK k M e):=by
 have h1:=jD (q2a h hr);exact⟨q8U h h1.1,q59 h h1.2⟩
theorem Y4{M:q_m}{e:Nat->Nat}(hs:∀i j,M i j=M j i) (hr:Reg k (x9 M e)) (i j:Nat):XK k M e i j=XK k M e j i:=by
 have h1:=jD hr;have h2:=q5a (K:=x9 M e) (fun a b=>hs _ _) h1.1 h1.2;unfold XK q0K;rw[hs i j]
 congr 1
 have h3:∀i j,sum k (fun a=>M i (e a)*sum k (fun b=>x8 k (x9 M e) a b*M (e b) j))=sum k (fun a=>sum k (fun b=>M i (e a)*x8 k (x9 M e) a b*M (e b) j)):=fun i j=>qf fun a _=>by
  rw[<-zN];exact qf fun b _=>by grind
 rw[h3,h3,zu]
 exact qf fun a ha=>qf fun b hb=>by
  rw[h2 b hb a ha,hs i (e b),hs (e a) j];grind
end
section
open Go.RowKit
def xk (lf:Nat->Nat) (n r:Nat):Bool:=kT n (fun t=>decide (lf t=r))
theorem wM (lf:Nat->Nat) (n r:Nat):xk lf (n+1) r=(xk lf n r||decide (lf n=r)):=by
 unfold xk kT;rw[List.range_succ,List.any_append]
 simp
theorem yF {lf:Nat->Nat}{r:Nat}:xk lf n r=true↔∃t,t<n/\lf t=r:=by
 unfold xk kT;simp[List.any_eq_true]
theorem Qx {lf:Nat->Nat}{r:Nat}(h:∀t,t<n->lf t≠r):xk lf n r=false:=by
 cases h9:xk lf n r with
 | false=>rfl
 | true =>
  obtain⟨t,h1,h2⟩:=yF.1 h9;exact absurd h2 (h t h1)
def Fct (k zk:Nat) (F:Nat->Nat->Nat->Nat->Rat) (X:q_m) (r:Nat):Nat->Nat->Rat:=mm zk (Fsy F r k) X
def Gx (k zk:Nat) (F:Nat->Nat->Nat->Nat->Rat) (X:q_m) (r c:Nat):Nat->Nat->Rat:=mm zk (Fct k zk F X r) (Fsy F k c)
def Fel (k zk:Nat) (F:Nat->Nat->Nat->Nat->Rat) (X:q_m) (p:Nat->Nat->Bool) (r c a b:Nat):Rat:=if p r c=true then F r c a b-Gx k zk F X r c a b else F r c a b
def Rel (k zk:Nat) (F:Nat->Nat->Nat->Nat->Rat) (X:q_m) (R:q_m) (p:Nat->Bool) (r a:Nat):Rat:=if p r=true then R r a-av zk (Fct k zk F X r) (R k) a else R r a
def pA (lf:Nat->Nat) (nl n:Nat) (r c:Nat):Bool:=xk lf n r&&xk lf nl c
def pB (lf:Nat->Nat) (nl n t:Nat) (r c:Nat):Bool:=pA lf nl n r c||(decide (r=lf n)&&xk lf t c)
theorem q9s {zk:Nat}{F:Nat->Nat->Nat->Nat->Rat}{X:q_m}{p:Nat->Nat->Bool}{r:Nat}(h1:p r k=false) (h2:p k r=false):Fsy (Fel k zk F X p) r k=Fsy F r k/\Fsy (Fel k zk F X p) k r=Fsy F k r:=by
 constructor<;>(funext a b;unfold Fsy Fel;split<;>simp[h1,h2])
theorem Yu(hk:0<k){M:q_m}(h:∀a b,a<k->b<k->M a b=0):¬Reg k M:=fun hr=>by
 have h1:=hr (fun _=>1) (fun i hi=>by
  exact qy fun c hc=>by rw[h i c hi hc];grind) 0 hk
 exact absurd h1 (by decide)
theorem ZE {p:Nat}{A B:q_m}(h:∀a b,a<m->b<n->A a b=0)(hi:i<m):mm n A B i j=0:=by
 unfold mm;exact qy fun c hc=>by rw[h i c hi hc];grind
theorem q2K {p:Nat}{A B:q_m}(h:∀a b,a<n->b<p->B a b=0)(hj:j<p):mm n A B i j=0:=by
 unfold mm;exact qy fun c hc=>by rw[h c j hc hj];grind
theorem StM.congr {B0 B1:Nat}{bz oz gm gr:Nat}{z:Nat->Nat}{F F':Nat->Nat->Nat->Nat->Rat}{R R':q_m}(h:StM N B0 B1 w bz oz gm gr m z F R) (hF:∀r c,c<=r->r<m->∀a,a<z r->∀b,b<z c->F r c a b=F' r c a b) (hR:∀i,i<m->∀a,a<z i->R i a=R' i a):StM N B0 B1 w bz oz gm gr m z F' R':=by
 obtain⟨h0,⟨l,h1,h2⟩,⟨cs,h3,h4⟩,h5,h6,h7,h8⟩:=h;refine⟨h0,⟨l,h1,fun r c hc hr=>?_⟩,⟨cs,h3,fun i hi=>?_⟩,h5,h6,h7,h8⟩
 ·have h9:=h2 r c hc hr
  generalize lkp l (r:Int) (c:Int)=o at h9 ⊢
  cases o with
  | none=>exact fun a b ha hb=>by rw[<-hF r c hc hr a ha b hb];exact h9 a b ha hb
  | some v =>
   obtain⟨A,k,lo,hi,hv,h10,h11⟩:=h9;exact⟨A,k,lo,hi,hv,MtV.congr h10 (fun a ha b hb=>hF r c hc hr a ha b hb),h11⟩
 ·obtain⟨v,h9,A,c,lo,hi',hv,h10,h11⟩:=h4 i hi;exact⟨v,h9,A,c,lo,hi',hv,LsV.congr h10 (fun a ha=>hR i hi a ha),h11⟩
theorem StM.setR {B0 B1:Nat}{bz oz gm gr:Nat}{z:Nat->Nat}{F:Nat->Nat->Nat->Nat->Rat}{R:q_m}(h:StM N B0 B1 w bz oz gm gr m z F R) (hne:gm≠gr)(hi:i<m){y:q_v}(hv:Lx N B0 B1 w v (z i) y) :
  ∃w',w.setCell ⟨gr,i,none⟩ v=w'/\StM N B0 B1 w' bz oz gm gr m z F (fun j=>if j=i then y else R j)/\Chg gr (gr+1) w w':=by
 obtain⟨⟨s1,s2⟩,⟨l,h1,h2⟩,⟨cs,h3,h4⟩,h5,h6,h7,h8⟩:=h;have U:=(Upd.refl gr w).set i v;have C:Chg gr (gr+1) w (w.setCell ⟨gr,i,none⟩ v):=U.chg (NoU.mk h3 WP);refine⟨_,rfl,⟨⟨s1,fun a ha=>C.cell (s2 a ha) (by show bz<gr\/gr+1<=bz;omega)⟩,⟨l,?_,fun r c hc hr=>(h2 r c hc hr).chg C (by omega) (by omega) (by omega)⟩,⟨_,heap_set h3 i v,fun a ha=>?_⟩,h5,h6,h7,by rw[U.size];exact h8⟩,C⟩
 ·obtain⟨es,q,h9,h10⟩:=h1;exact⟨es,q,C.blk h9 (by omega),h10⟩
 ·obtain⟨u,h9,h10⟩:=h4 a ha;rw[Array.getElem?_setIfInBounds]
  by_cases hai:i=a
  ·subst hai
   have hlt:i<cs.size:=by
    rcases Nat.lt_or_ge i cs.size with h11|h11
    ·exact h11
    ·rw[Array.getElem?_eq_none h11] at h9;cases h9
   rw[if_pos rfl,if_pos hlt];refine⟨v,rfl,?_⟩
   show Lx N B0 B1 _ v (z i) (if i=i then y else R i)
   rw[if_pos rfl];exact hv.chg C (by omega) (by omega) (by omega)
  ·rw[if_neg hai];refine⟨u,h9,?_⟩
   show Lx N B0 B1 _ u (z a) (if a=i then y else R a)
   rw[if_neg (fun e=>hai e.symm)];exact h10.chg C (by omega) (by omega) (by omega)
theorem QL {p K':Nat}{A B:q_m}(h:HtM m n K A) (h':HtM n p K' B):HtM m p (n*(K+K'+1)+1) (mm n A B):=fun i hi j hj=>by
 unfold mm;exact wR fun c hc=>(h i hi c hc).mul (h' c hc j hj)
theorem ZJ {q:Nat}{M:q_m}(h:HtM n n q M):HtM n n (5 ^ n*(q+1)) (x8 n M):=fun i hi j hj=>by
 unfold x8;exact (XO (q05 h) (by omega) (.inl (q_r))) i hi (n+j) (by omega)
theorem Xm{z:Nat->Nat}{F:Nat->Nat->Nat->Nat->Rat}(hF:∀r c,c<=r->r<m->HtM (z r) (z c) K (F r c)){r:Nat}(hr:r<m) (hc:c<m):HtM (z r) (z c) K (Fsy F r c):=fun a ha b hb=>by
 unfold Fsy
 split
 ·exact hF r c (by omega) hr a ha b hb
 ·exact hF c r (by omega) hc b hb a ha
end
end Go.Proofs.YtflhlobiipejeaaGreat
