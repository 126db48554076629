import Derived.Test.YtflhlobiipejeaaGreatWb13
set_option linter.all false
set_option maxHeartbeats 8000000
namespace Go.Proofs.YtflhlobiipejeaaGreat
open Go.RowKit
variable {w:World} {N n lo hi k b K:Nat} {v:Value} {q:Rat}
theorem vO{f:q_v}(h:f n=0):sum (n+1) f=sum n f:=by rw[qN,h];grind
theorem m_dot {lo' hi':Nat}{v':Value}{x y:q_v}(h:LsV N lo hi w v n x) (h':LsV N lo' hi' w v' n y){k':Nat}(hk:HtL n k x) (hk':HtL n k' y) (hK:n*(k+k'+1)+1<=29000000000) :
  Calls Tryz.prog 100 #[v,v'] w (jP N w (sum n (fun j=>x j*y j))):=by
 obtain⟨A,c,rfl,hnc,hcm⟩:=h.form;obtain⟨A',c',rfl,hnc',hcm'⟩:=h'.form;unfold maxLen at hcm hcm';have hN:=h.le;have hI:=h;have hI':=h'
 have HZ:Hid (∀i,i<n->Sz (x i)/\Sz (y i)/\Sz (x i*y i)):=fun i hi=>by
  have h1:=Nat.le_mul_of_pos_left (k+k'+1) (show 0<n by omega);exact⟨(hk i hi).sz (by omega),(hk' i hi).sz (by omega),((hk i hi).mul (hk' i hi)).sz (by omega)⟩
 have HS:Hid (∀i,i<=n->Sz (sum i (fun j=>x j*y j))):=fun i hi=>(JV (k:=k+k') (fun j hj=>(hk j hj).mul (hk' j hj)) hi hK).sz (q_r)
 obtain⟨q,hq⟩:=qc (sum n (fun j=>x j*y j));rw[<-hq.out];clear h h' hk hk' hK;go_enter Tryz.func100,Tryz.ntmps100;go_wp2_with (go_at_call 127;refine q_o ?_);refine qW ?_;intro W hE hsz B0;refine (f_whole (N:=N) (by have:=hE.size;omega) 0 (by omega) (by omega)).mono ?_;intro e w1 hh;obtain⟨b1,A1,k1,c1,A2,k2,c2,rfl,hb1,g1,g2,e1⟩:=hh.form;replace hE:=hE.trans e1;replace B0:=e1.block B0;replace hsz:=q_l hsz e1.size;go_upto_region 2 with (fail);refine qo ?_;intro w2 e2 hsz2 BS;have hB:je N w2 w1.heap.size (sum 0 (fun j=>x j*y j)):=je.mk BS hb1 (g1.ext e2) (g2.ext e2);replace hE:=hE.trans e2;replace B0:=e2.block B0;clear g1 g2 hb1 BS e2 e1;go_wp2
 go_loopw [11] (fun i wr=>∃k:Nat,k<=n/\i=.int .i64 k/\Ext w wr/\w1.heap.size<wr.heap.size/\wr.heap[w.heap.size]?=some (.cells #[.bool false,.slice none 0 0,.bool false,.slice none 0 0] 35 (0,0))/\je N wr w1.heap.size (sum k (fun j=>x j*y j))) (fun i _=>n-(intOf i).toNat)
 case atStart=>exact⟨0,Nat.zero_le _,rfl,hE,by omega,B0,hB⟩
 case round =>
  clear hB hE B0 hsz2;obtain⟨k,hk,rfl,hE,hsz2,B0,hB⟩:=hrel
  by_cases hlt:k<n
  ·obtain⟨b,off,rfl,-,-,hx⟩:=(hI.ext hE).addr (by omega);obtain⟨A3,n3,c3,A4,n4,c4,p0,p1,p2,p3,hv'⟩:=(hx k hlt).val;clear hx;obtain⟨sx,hsx⟩:=qc (x k).num.sign;obtain⟨sy,hsy⟩:=qc (y k).num.sign;go_wp2_with (go_at_call 106;refine q_o ?_);refine qW ?_;intro w3 e3 hsz3 BX;refine (Xn (q:=x k) (hv'.ext e3) (HZ.out k hlt).1).mono ?_;rintro e w4 ⟨rfl,e4⟩;rw[<-hsx.out];replace hE:=(hE.trans e3).trans e4;replace B0:=e4.block (e3.block B0);replace hB:=(hB.ext e3).ext e4;replace hv':=(hv'.ext e3).ext e4;replace BX:=e4.block BX;have hsz4:w1.heap.size<w4.heap.size:=by have:=e3.size;have:=e4.size;omega
   have hsz5:wr.heap.size<w4.heap.size:=by have:=e4.size;omega
   clear p0 p1 p2 p3 e3 e4
   by_cases hx0:x k=0
   ·have hs0:sx=0:=by rw[hsx.out,hx0];rfl
    have HS0:Hid (sum (k+1) (fun j=>x j*y j)=sum k (fun j=>x j*y j)):=vO (by simp only[hx0];grind);clear hsx hx0;subst hs0;go_wp2;go_roundw
    case rel=>exact⟨k+1,by omega,by go_num,hE,hsz4,B0,by rw[HS0.out];exact hB⟩
    case measure=>simp[intOf];omega
   ·have hs0:(sx == 0)=false:=by
     have:sx≠0:=by rw[hsx.out];intro e;exact hx0 (Rat.num_eq_zero.1 (Int.sign_eq_zero_iff_zero.1 e))
     simpa using this
    have hs1:(sx != 0)=true:=by simpa using hs0
    clear hsx hx0;obtain⟨b',off',rfl,-,-,hx'⟩:=(hI'.ext hE).addr (by omega);obtain⟨A5,n5,c5,A6,n6,c6,q0,q1,q2,q3,hv''⟩:=(hx' k hlt).val;clear hx';go_wp2_with (go_at_call 106;refine q_o ?_);refine (Xn (q:=y k) hv'' (HZ.out k hlt).2.1).mono ?_;rintro e w5 ⟨rfl,e5⟩;rw[<-hsy.out];replace hE:=hE.trans e5;replace B0:=e5.block B0;replace hB:=hB.ext e5;replace hv':=hv'.ext e5;replace hv'':=hv''.ext e5;replace BX:=e5.block BX;replace q0:=e5.cell q0;replace q1:=e5.cell q1;replace q2:=e5.cell q2;replace q3:=e5.cell q3;replace hsz4:=Nat.lt_of_lt_of_le hsz4 e5.size
    by_cases hy0:y k=0
    ·have hs2:sy=0:=by rw[hsy.out,hy0];rfl
     have HS0:Hid (sum (k+1) (fun j=>x j*y j)=sum k (fun j=>x j*y j)):=vO (by simp only[hy0];grind);clear hsy hy0;subst hs2;go_wp2;go_roundw
     case rel=>exact⟨k+1,by omega,by go_num,hE,hsz4,B0,by rw[HS0.out];exact hB⟩
     case measure=>simp[intOf];omega
    ·have hs2:(sy == 0)=false:=by
      have:sy≠0:=by rw[hsy.out];intro e;exact hy0 (Rat.num_eq_zero.1 (Int.sign_eq_zero_iff_zero.1 e))
      simpa using this
     have hs3:(sy != 0)=true:=by simpa using hs2
     clear hsy hy0;obtain⟨p0,p1,p2,p3,-⟩:=cells4 BX;obtain⟨b1,A1,k1,c1,A2,k2,c2,BS,hb1,g1,g2⟩:=hB;obtain⟨s0,s1,s2,s3,s4,s5,s6,s7⟩:=cells4 BS;have hv:=qX.mk hb1 g1 g2;go_upto_region 6 with (fail);have eC:=(Ext.refl w5).drew;refine qw (fun w'=>w'.cell? ⟨w1.heap.size,0,none⟩=some (.bool b1)/\w'.cell? ⟨w1.heap.size,1,none⟩=some (.slice A1 k1 c1)/\w'.cell? ⟨w1.heap.size,2,none⟩=some (.bool false)/\w'.cell? ⟨w1.heap.size,3,none⟩=some (.slice A2 k2 c2)/\w'.cell? ⟨wr.heap.size,0,none⟩=some (.bool (raw (x k)).b1)/\w'.cell? ⟨wr.heap.size,1,none⟩=some (.slice A3 n3 c3)/\w'.cell? ⟨wr.heap.size,2,none⟩=some (.bool (raw (x k)).b2)/\w'.cell? ⟨wr.heap.size,3,none⟩=some (.slice A4 n4 c4)/\w'.cell? ⟨b',off'+k*4,none⟩=some (.bool (raw (y k)).b1)/\w'.cell? ⟨b',off'+k*4+1,none⟩=some (.slice A5 n5 c5)/\w'.cell? ⟨b',off'+k*4+2,none⟩=some (.bool (raw (y k)).b2)/\w'.cell? ⟨b',off'+k*4+3,none⟩=some (.slice A6 n6 c6)) [8] (by kernel_rfl) (by exact⟨eC.cell s0,eC.cell s1,eC.cell s2,eC.cell s3,eC.cell p0,eC.cell p1,eC.cell p2,eC.cell p3,eC.cell q0,eC.cell q1,eC.cell q2,eC.cell q3⟩) (fun hHeld=>?_);refine sT 0 (h:=?_);refine sT 1 (h:=?_);refine sP 2 (h:=?_);refine sP 3 (h:=?_);refine sP 4 (h:=?_);refine sT 5 (h:=?_);refine qp (i:=6) rfl (by kernel_rfl) (fun K hK=>?_);go_simp;refine (q5k (x:=x k) (y:=y k) (by exact hv'.ext eC) (by exact hv''.ext eC) (HZ.out k hlt).1 (HZ.out k hlt).2.1).mono ?_
     rintro e w6 ⟨v4,rfl,h4,e6⟩;replace eC:=eC.trans e6;go_wp2_with fail;clear hHeld;refine hK.out _ _ (by exact⟨eC.cell s0,eC.cell s1,eC.cell s2,eC.cell s3,eC.cell p0,eC.cell p1,eC.cell p2,eC.cell p3,eC.cell q0,eC.cell q1,eC.cell q2,eC.cell q3⟩) fun hHeld=>?_
     clear hK K;try simp only[nr]
     refine qp (i:=7) rfl (by kernel_rfl) (fun K hK=>?_);go_simp;refine (f_add (x:=sum k (fun j=>x j*y j)) (y:=x k*y k) (by exact hv.ext eC) (by exact h4) (HS.out k (by omega)) (HZ.out k hlt).2.2).mono ?_;intro e w7 hh;obtain⟨b5,A5,k5,c5,A6,k6,c6,rfl,hb5,g5,g6,e7⟩:=hh.form;replace eC:=eC.trans e7;have D0:=eC.block BS;obtain⟨t0,t1,t2,t3,t4,t5,t6,t7⟩:=cells4 D0;go_wp2_with fail;clear hHeld;refine hK.out _ _ (by exact⟨eC.cell s0,eC.cell s1,eC.cell s2,eC.cell s3,eC.cell p0,eC.cell p1,eC.cell p2,eC.cell p3,eC.cell q0,eC.cell q1,eC.cell q2,eC.cell q3⟩) fun hHeld=>?_
     clear hK K;try simp only[nr]
     refine qj (i:=8) rfl (by kernel_rfl) (by kernel_rfl) (fun K hK=>?_);go_simp;refine hK.out _ _ ?_;clear hK K;try simp only[nr]
     refine qg (by kernel_rfl) ?_ _;clear hHeld;obtain⟨w8,E8,hB8,K8,hs8⟩:=Q7 D0 (by omega) (q:=sum (k+1) (fun j=>x j*y j)) hb5 g5 g6;rw[E8];have hsz8:w1.heap.size<w8.heap.size:=by have:=eC.size;omega
     clear E8 hs8;go_wp2;go_roundw
     case rel=>exact⟨k+1,by omega,by go_num,K8.ext (hE.trans eC) (by omega),hsz8,K8.blk (eC.block B0) (by omega),hB8⟩
     case measure=>simp[intOf];omega
  ·obtain rfl:k=n:=by omega
   obtain⟨b1,A1,k1,c1,A2,k2,c2,BS,hb1,g1,g2⟩:=hB;obtain⟨s0,s1,s2,s3,s4,s5,s6,s7⟩:=cells4 BS;have hv:=qX.mk hb1 g1 g2;obtain⟨r0,r1,r2,r3,r4,r5,r6,r7⟩:=cells4 B0;go_wp2;rw[<-hq.out] at hb1 g1 g2;exact qQ rfl rfl rfl hE B0 (by omega) hN g1 g2 hb1
def yZ (x y:q_v) (k:Rat) (a b c:Nat):Rat:=if a<=c/\c<b then x c-k*y c else x c
theorem Vb (x y:q_v) (k:Rat) (a c:Nat):yZ x y k a a c=x c:=by unfold yZ;rw[if_neg (by omega)]
theorem KU (x y:q_v) (k:Rat){a:Nat}(h:a<=b) (c:Nat):yZ x y k a (b+1) c=upd (yZ x y k a b) b (x b-k*y b) c:=by
 unfold yZ upd
 by_cases e:c=b
 ·subst e;rw[if_pos (by omega),if_pos rfl]
 ·rw[if_neg e]
  show (if a<=c/\c<b+1 then x c-k*y c else x c)=(if a<=c/\c<b then x c-k*y c else x c)
  by_cases e2:a<=c/\c<b
  ·rw[if_pos e2,if_pos (by omega)]
  ·rw[if_neg e2,if_neg (by omega)]
theorem q0D (x y:q_v) (k:Rat){a:Nat}(h:a<=b) (hy:y b=0) (c:Nat):yZ x y k a (b+1) c=yZ x y k a b c:=by
 rw[KU x y k h];unfold upd
 split
 ·rename_i e;subst e;unfold yZ;rw[if_neg (by omega),hy];grind
 ·rfl
def q9i (N:Nat) (w:World) (br kr n:Nat) (x:q_v) (e:Ending) (w':World):Prop:=e=.returned (.tuple #[])/\Chg br (br+1) w w'/\kS N w' br kr n x
theorem q0V{br kr bo ko:Nat}{x y:q_v}{cr co:Nat}(hr:kS N w br kr n x) (ho:kS N w bo ko n y) (hne:bo≠br)(hq:qX N w v q){a:Nat}{F:Int}(hF:F=(a:Int)) (han:a<=n) (hn:n<1000000)
(hx:HtL n K x) (hy:HtL n K y) (hq':Ht K q) (hK:2*K<=29000000000) :
  Calls Tryz.prog 131 #[.slice (some ⟨br,0,none⟩) n cr,.slice (some ⟨bo,0,none⟩) n co,v,.int .i64 F] w (q9i N w br kr n (yZ x y q a n)):=by
 subst hF;have hNb:N<=br:=hr.1;have HZ:Hid (∀i,i<n->Sz (x i)/\Sz (y i)/\Sz (q*y i)):=fun i hi=>⟨(hx i hi).sz (by omega),(hy i hi).sz (by omega),(hq'.mul (hy i hi)).sz (by omega)⟩
 have HQ:Hid (Sz q):=hq'.sz (by omega);have hI:=hq;obtain⟨m1,X1,i1,d1,X2,i2,d2,rfl,hm1,gx1,gx2⟩:=hq.parts;clear hq hx hy hq' hK gx1 gx2;have hbr:=hr.lt;have hbo:=ho.lt;go_enter Tryz.func131,Tryz.ntmps131
 go_upto_block 0 with (fail)
 refine qo ?_;intro W hE hsz B0;obtain⟨gB,hgB⟩:∃gB,gB=w.heap.size:=⟨_,rfl⟩
 have hC:Chg br (br+1) w W:=hE.chg _ _;replace hr:=hr.ext hE;replace ho:=ho.ext hE
 have hBk:je N W w.heap.size q:=by
  obtain⟨n9,A9,k9,c9,A8,k8,c8,h9,hb9,g9,g8⟩:=(hI.ext hE).parts;have e9:(#[Value.bool m1,Value.slice X1 i1 d1,Value.bool false,Value.slice X2 i2 d2]:Array Value)=#[Value.bool n9,Value.slice A9 k9 c9,Value.bool false,Value.slice A8 k8 c8]:=by injection h9
  rw[e9] at B0;exact je.mk B0 hb9 g9 g8
 rw[<-hgB] at hBk hsz;have hgb:br<gB:=by omega
 generalize hgw:w.heap.size=gw at *
 obtain rfl:gB=gw:=hgB;clear hE hI B0 hgw;go_wp2
 go_loopw [8] (fun i wr=>∃k:Nat,a<=k/\k<=n/\i=.int .i64 k/\Chg br (br+1) w wr/\gB<wr.heap.size/\kS N wr br kr n (yZ x y q a k)/\kS N wr bo ko n y/\je N wr gB q) (fun i _=>n-(intOf i).toNat)
 case atStart=>exact⟨a,q_r,han,rfl,hC,by omega,hr.congr (fun c _=>(Vb x y q a c).symm),ho,hBk⟩
 case round =>
  clear hC hr ho hBk hsz;obtain⟨k,hak,hk,rfl,hC,hsz,hr,ho,hBk⟩:=hrel
  by_cases hlt:k<n
  ·obtain⟨n5,A5,k5,c5,A6,k6,c6,o0,o1,o2,o3,-,-,-,-,hb5,g5,g6⟩:=ho.at_ hlt;obtain⟨sy,hsy⟩:=qc (y k).num.sign;go_wp2_with (go_at_call 106;refine q_o ?_);refine (Xn (qX.mk hb5 g5 g6) (HZ.out k hlt).2.1).mono ?_;rintro e w1 ⟨rfl,e1⟩;rw[<-hsy.out];replace hC:=hC.trans (e1.chg _ _);replace hr:=hr.ext e1;replace ho:=ho.ext e1;replace hBk:=hBk.ext e1;replace hsz:=Nat.lt_of_lt_of_le hsz e1.size;replace g5:=g5.ext e1;replace g6:=g6.ext e1;replace o0:=e1.cell o0;replace o1:=e1.cell o1;replace o2:=e1.cell o2;replace o3:=e1.cell o3;clear e1
   by_cases hy0:y k=0
   ·have hs2:sy=0:=by rw[hsy.out,hy0];rfl
    have HS:=q_h (q0D x y q hak hy0);clear hsy hy0;subst hs2;go_wp2;go_roundw
    case rel=>exact⟨k+1,by omega,by omega,by go_num,hC,hsz,hr.congr (fun c _=>(HS.out c).symm),ho,hBk⟩
    case measure=>simp[intOf];omega
   ·have hs2:(sy == 0)=false:=by
     have:sy≠0:=by rw[hsy.out];intro e;exact hy0 (Rat.num_eq_zero.1 (Int.sign_eq_zero_iff_zero.1 e))
     simpa using this
    have hs3:(sy != 0)=true:=by simpa using hs2
    clear hsy hy0;obtain⟨b1,A1,k1,c1,A2,k2,c2,BS,hb1,g1,g2⟩:=hBk;obtain⟨s0,s1,s2,s3,-⟩:=cells4 BS;obtain⟨n1,A3,k3,c3,A4,k4,c4,t0,t1,t2,t3,t4,t5,t6,t7,hb3,g3,g4⟩:=hr.at_ hlt;have HV:Hid (yZ x y q a k k=x k):=by rw[Hid];unfold yZ;rw[if_neg (by omega)]
    rw[HV.out] at hb3 g3 g4;have HS:=q_h (KU x y q hak);go_upto_region 5 with (fail);have eC:=(Ext.refl w1).drew;refine qw (fun w'=>w'.cell? ⟨br,k*4,none⟩=some (.bool n1)/\w'.cell? ⟨br,k*4+1,none⟩=some (.slice A3 k3 c3)/\w'.cell? ⟨br,k*4+2,none⟩=some (.bool false)/\w'.cell? ⟨br,k*4+3,none⟩=some (.slice A4 k4 c4)/\w'.cell? ⟨bo,k*4,none⟩=some (.bool n5)/\w'.cell? ⟨bo,k*4+1,none⟩=some (.slice A5 k5 c5)/\w'.cell? ⟨bo,k*4+2,none⟩=some (.bool false)/\w'.cell? ⟨bo,k*4+3,none⟩=some (.slice A6 k6 c6)/\w'.cell? ⟨gB,0,none⟩=some (.bool b1)/\w'.cell? ⟨gB,1,none⟩=some (.slice A1 k1 c1)/\w'.cell? ⟨gB,2,none⟩=some (.bool false)/\w'.cell? ⟨gB,3,none⟩=some (.slice A2 k2 c2)) [14] (by kernel_rfl) (by exact⟨eC.cell t0,eC.cell t1,eC.cell t2,eC.cell t3,eC.cell o0,eC.cell o1,eC.cell o2,eC.cell o3,eC.cell s0,eC.cell s1,eC.cell s2,eC.cell s3⟩) (fun hHeld=>?_);refine sP 0 (h:=?_);refine sP 1 (h:=?_);refine sP 2 (h:=?_);refine sP 3 (h:=?_);refine sP 4 (h:=?_);refine sT 5 (h:=?_);refine sT 6 (h:=?_);refine sP 7 (h:=?_);refine sP 8 (h:=?_);refine sP 9 (h:=?_);refine sT 10 (h:=?_);refine qp (i:=11) rfl (by kernel_rfl) (fun K hK=>?_);go_simp;refine (q5k (x:=q) (y:=y k) (by exact (qX.mk hb1 g1 g2).ext eC) (by exact (qX.mk hb5 g5 g6).ext eC) HQ.out (HZ.out k hlt).2.1).mono ?_;rintro e w4 ⟨v4,rfl,h4,e4⟩;replace eC:=eC.trans e4;go_wp2_with fail
    clear hHeld;refine hK.out _ _ (by exact⟨eC.cell t0,eC.cell t1,eC.cell t2,eC.cell t3,eC.cell o0,eC.cell o1,eC.cell o2,eC.cell o3,eC.cell s0,eC.cell s1,eC.cell s2,eC.cell s3⟩) fun hHeld=>?_
    clear hK K;try simp only[nr]
    refine qp (i:=12) rfl (by kernel_rfl) (fun K hK=>?_);go_simp;refine (q7C (x:=x k) (y:=q*y k) (by exact (qX.mk hb3 g3 g4).ext eC) (by exact h4) (HZ.out k hlt).1 (HZ.out k hlt).2.2).mono ?_;intro e w5 hh;obtain⟨b9,A9,k9,c9,A10,k10,c10,rfl,hb9,g9,g10,e5⟩:=hh.form;replace eC:=eC.trans e5;have hr5:=hr.ext eC;obtain⟨zb,zA,zn,zc,zA2,zn2,zc2,u0,u1,u2,u3,u4,u5,u6,u7,-⟩:=hr5.at_ hlt;go_wp2_with fail;clear hHeld;refine hK.out _ _ (by exact⟨eC.cell t0,eC.cell t1,eC.cell t2,eC.cell t3,eC.cell o0,eC.cell o1,eC.cell o2,eC.cell o3,eC.cell s0,eC.cell s1,eC.cell s2,eC.cell s3⟩) fun hHeld=>?_
    clear hK K;try simp only[nr]
    refine sP 13 (h:=?_);refine qj (i:=14) rfl (by kernel_rfl) (by kernel_rfl) (fun K hK=>?_);go_simp;refine hK.out _ _ ?_;clear hK K;try simp only[nr]
    refine qg (by kernel_rfl) ?_ _;clear hHeld;obtain⟨w6,E6,C6,hs6,hr6⟩:=hr5.set (i:=k) (q:=x k-q*y k) (by have:=hr5.2.1;omega) (by omega) hb9 g9 g10;rw[E6];replace hC:=(hC.trans (eC.chg _ _)).trans C6;have hr7:=(hr6.less (n':=n) (by omega)).congr (y:=yZ x y q a (k+1)) (fun c _=>(HS.out c).symm);have ho7:=(ho.ext eC).chg C6 hNb (by omega);have hB7:=(je.mk (eC.block BS) hb1 (g1.ext eC) (g2.ext eC)).chg C6 hNb (.inr (by omega));have hsz7:gB<w6.heap.size:=by have:=eC.size;omega
    clear E6 C6 hs6 hr6 hr5 u0 u1 u2 u3 u4 u5 u6 u7 t0 t1 t2 t3 t4 t5 t6 t7 s0 s1 s2 s3 o0 o1 o2 o3 BS hr;go_wp2;go_roundw
    case rel=>exact⟨k+1,by omega,by omega,by go_num,hC,hsz7,hr7,ho7,hB7⟩
    case measure=>simp[intOf];omega
  ·obtain rfl:k=n:=by omega
   go_wp2
   go_end0
   exact⟨rfl,hC,hr⟩
end Go.Proofs.YtflhlobiipejeaaGreat
