import Derived.Test.YtflhlobiipejeaaGreatWb04
set_option linter.all false
set_option maxHeartbeats 8000000
namespace Go.Proofs.YtflhlobiipejeaaGreat
open Go.RowKit
variable {w:World} {N:Nat} {v:Value}
def q6y (N:Nat) (w:World) (q r:Int) (e:Ending) (w':World):Prop:=∃v v',e=.returned (.tuple #[v,v',.int .i64 0])/\zy N w' v q/\zy N w' v' r/\Ext w w'
def QW (x y:Int):Int :=
 if decide (x<0)=decide (y<0) then ((x.natAbs / y.natAbs:Nat):Int)
 else if x.natAbs % y.natAbs=0 then -((x.natAbs / y.natAbs:Nat):Int) else -((x.natAbs / y.natAbs:Nat):Int)-1
def q49 (x y:Int):Int:=x-QW x y*y
theorem wY {x y:Int}(h:decide (x<0)=decide (y<0)):QW x y=((x.natAbs / y.natAbs:Nat):Int):=by unfold QW;rw[if_pos h]
theorem wX {x y:Int}(h:¬decide (x<0)=decide (y<0)) (h0:x.natAbs % y.natAbs=0):QW x y = -((x.natAbs / y.natAbs:Nat):Int):=by unfold QW;rw[if_neg h,if_pos h0]
theorem ZV {x y:Int}(h:¬decide (x<0)=decide (y<0)) (h0:x.natAbs % y.natAbs≠0):QW x y = -((x.natAbs / y.natAbs:Nat):Int)-1:=by unfold QW;rw[if_neg h,if_neg h0]
theorem q5t (x y:Int):(QW x y).natAbs<=x.natAbs+1:=by
 have:=Nat.div_le_self x.natAbs y.natAbs;unfold QW
 generalize x.natAbs / y.natAbs=t at *
 split
 ·omega
 ·split<;>omega
theorem q1g {k y:Int}(hy:y≠0):QW (k*y) y=k:=by
 have h1:(k*y).natAbs / y.natAbs=k.natAbs:=by rw[Int.natAbs_mul,Nat.mul_div_cancel _ (by omega)]
 have h2:(k*y).natAbs % y.natAbs=0:=by rw[Int.natAbs_mul,Nat.mul_mod_left]
 by_cases h:decide (k*y<0)=decide (y<0)
 ·rw[wY h,h1];have h':k*y<0↔y<0:=by simpa using h
  rcases Int.lt_or_gt_of_ne hy with hy|hy
  ·have h3:=h'.2 hy
   have:0<=k:=by
    rcases Int.lt_or_le k 0 with hk|hk
    ·have:=Int.mul_pos_of_neg_of_neg hk hy;omega
    ·exact hk
   omega
  ·have:0<=k:=by
    rcases Int.lt_or_le k 0 with hk|hk
    ·have:=Int.mul_neg_of_neg_of_pos hk hy;have:=h'.1 this;omega
    ·exact hk
   omega
 ·rw[wX h h2,h1];have h':¬(k*y<0↔y<0):=by simpa using h
  rcases Int.lt_or_gt_of_ne hy with hy|hy
  ·have:k<=0:=by
    rcases Int.lt_or_le 0 k with hk|hk
    ·have:=Int.mul_neg_of_pos_of_neg hk hy;exact absurd ⟨fun _=>hy,fun _=>this⟩ h'
    ·exact hk
   omega
  ·have:k<=0:=by
    rcases Int.lt_or_le 0 k with hk|hk
    ·have:=Int.mul_pos hk hy;exact absurd ⟨fun h=>by omega,fun h=>by omega⟩ h'
    ·exact hk
   omega
theorem wH{v':Value}{x y:Int}(h:zy N w v x) (h':zy N w v' y) (hL:ln x.natAbs<=10000000000) (hL':ln y.natAbs<=10000000000) (hy:y≠0) :
  Calls Tryz.prog 70 #[v,v'] w (q6y N w (QW x y) (q49 x y)):=by
 obtain⟨q,hq⟩:=qc (QW x y);obtain⟨r,hr⟩:=qc (q49 x y);rw[<-hq.out,<-hr.out];have Hy:=q_h hy;clear hy;have hI:=h;have hI':=h';obtain⟨s,rfl,hs⟩:=h;obtain⟨s',rfl,hs'⟩:=h';have hN:=hs.le;obtain⟨A1,k1,c1,rfl,hlen,-,-⟩:=hs.form;obtain⟨A2,k2,c2,rfl,hlen',-,-⟩:=hs'.form
 generalize hneg:decide (x<0)=n1 at *
 generalize hneg':decide (y<0)=n2 at *
 have Hn1:=q_h hneg;have Hn2:=q_h hneg';clear hneg hneg';have HL:=q_h hL;have HL':=q_h hL';clear hL hL';go_enter Tryz.func70,Tryz.ntmps70;go_wp2;refine q6o ?_;intro W hE hsz B0 B1 B2 B3;obtain⟨a0,a1,a2,a3⟩:=cells2 B0;obtain⟨b0,b1,b2,b3⟩:=cells2 B1
 go_cut [] (fun wx=>∃A1 k1 c1 A2 k2 c2,Ext w wx/\w.heap.size+4<=wx.heap.size/\wx.heap[w.heap.size]?=some (.cells #[.bool n1,.slice A1 k1 c1] 33 (0,0))/\wx.heap[w.heap.size+1]?=some (.cells #[.bool n2,.slice A2 k2 c2] 33 (0,0))/\wx.heap[w.heap.size+1+1]?=some (.cells #[.bool false,.slice none 0 0] 33 (0,0))/\wx.heap[w.heap.size+1+1+1]?=some (.cells #[.bool false,.slice none 0 0] 33 (0,0))/\Gs N wx (.slice A1 k1 c1) (dg x.natAbs)/\Gs N wx (.slice A2 k2 c2) (dg y.natAbs))
 case first =>
  go_region_with (first
   | (go_at_call 71;refine (xm (by exact hI.ext hE.drew) (by have:=HL.out;omega)).mono ?_;rintro e w1 ⟨v1,rfl,⟨s1,rfl,hv1⟩,e1⟩;obtain⟨A1,k1,c1,rfl,hl1,-,-⟩:=hv1.form;rw[Hn1.out];obtain⟨p0,p1,p2,p3⟩:=cells2 (e1.block B0);obtain⟨q0,q1,q2,q3⟩:=cells2 (e1.block B1))
   | (go_at_call 71;refine (xm (by exact hI'.ext (hE.drew.trans e1)) (by have:=HL'.out;omega)).mono ?_;rintro e w2 ⟨v2,rfl,⟨s2,rfl,hv2⟩,e2⟩;obtain⟨A2,k2,c2,rfl,hl2,-,-⟩:=hv2.form;rw[Hn2.out];have B0':=e2.block (e1.block B0);have B1':=e2.block (e1.block B1);obtain⟨p0,p1,p2,p3⟩:=cells2 B0';obtain⟨q0,q1,q2,q3⟩:=cells2 B1'))
  all_goals
   go_wp2_with fail
   go_meet
   obtain⟨w3,E3,C0,U⟩:=ex2 B0' (.bool n1) (.slice A1 k1 c1);rw[E3];obtain⟨w4,E4,C1,U'⟩:=ex2 (U.blk B1' (by omega)) (.bool n2) (.slice A2 k2 c2);rw[E4];have hE2:Ext w w2:=(hE.drew.trans e1).trans e2;have hE4:Ext w w4:=U'.ext (U.ext hE2 (q_r)) (by omega);refine⟨A1,k1,c1,A2,k2,c2,hE4,?_,U'.blk C0 (by omega),C1,U'.blk (U.blk (e2.block (e1.block B2)) (by omega)) (by omega),U'.blk (U.blk (e2.block (e1.block B3)) (by omega)) (by omega),?_,?_⟩
   ·rw[U'.size,U.size];have h1:=e2.size;have h2:=e1.size;simp at h2;omega
   ·exact ((hv1.ext e2).upd U (by omega) (NoU.mk B0' (by decide))).upd U' (by omega) (NoU.mk (U.blk B1' (by omega)) (by decide))
   ·exact (hv2.upd U (by omega) (NoU.mk B0' (by decide))).upd U' (by omega) (NoU.mk (U.blk B1' (by omega)) (by decide))
 case rest =>
  obtain⟨A1,k1,c1,A2,k2,c2,hE,hsz,B0,B1,B2,B3,g1,g2⟩:=hcut;obtain⟨a0,a1,a2,a3⟩:=cells2 B0;obtain⟨b0,b1,b2,b3⟩:=cells2 B1;have hlb:Hid ((dg y.natAbs).length=k2):=by obtain⟨A',n',c',hv,hl',-,-⟩:=g2.form;cases hv;exact hl'
  have t1:((k2:Int) == 0)=false:=by
   have:k2≠0:=by
    rintro rfl;have:=zU.1 (List.eq_nil_of_length_eq_zero hlb.out);have:=Hy.out;omega
   simpa using this
  go_wp2_with (go_at_call 117;refine q_o ?_);refine (J5 g1 g2 (by have:=Hy.out;omega) (by have:=HL.out;omega)).mono ?_;rintro e w5 ⟨A5,k5,c5,A6,k6,c6,rfl,g5,g6,e5⟩;replace B0:=e5.block B0;replace B1:=e5.block B1;replace B2:=e5.block B2;replace B3:=e5.block B3;clear a0 a1 a2 a3 b0 b1 b2 b3;obtain⟨a0,a1,a2,a3⟩:=cells2 B0;obtain⟨b0,b1,b2,b3⟩:=cells2 B1;have HQL:Hid (ln (x.natAbs / y.natAbs)<=10000000000):=q_l (YC _ _) HL.out
  have HDL:Hid (ln q.natAbs<=10000000001):=by
   have h1:=zJ (q5t x y);have h2:=WY x.natAbs 1;have h3:ln 1<=1:=zo (by decide);have h4:=HL.out;rw[Hid,hq.out];omega
  have hlb6:Hid ((dg (x.natAbs % y.natAbs)).length=k6):=by obtain⟨A',n',c',hv,hl',-,-⟩:=g6.form;cases hv;exact hl'
  have HML:Hid (ln (q*y).natAbs<=35184372088800):=by
   have h1:=WX q.natAbs y.natAbs;have h2:=HDL.out;have h3:=HL'.out;rw[Hid,Int.natAbs_mul];omega
  have HRR:Hid (r=x-q*y):=by rw[Hid,hr.out,hq.out];rfl
  by_cases hnn:n1=n2
  ·have hbb:(n1 == n2)=true:=by simpa using hnn
   have HQ:Hid (q=((x.natAbs / y.natAbs:Nat):Int)):=by rw[Hid,hq.out];exact wY (by rw[Hn1.out,Hn2.out];exact hnn)
   have HNN:=q_h hnn;clear hnn;go_wp2_with (go_at_call 72;refine q_o ?_);refine (yD g5 (by have:=HQL.out;omega) q (by rw[HQ.out];simp[Hid])).mono ?_;intro e w7 hh;obtain⟨b7,A7,k7,c7,rfl,hb7,h7,e7⟩:=hh.form;replace B0:=e7.block B0;replace B1:=e7.block B1;replace B2:=e7.block B2;replace B3:=e7.block B3;clear a0 a1 a2 a3 b0 b1 b2 b3;obtain⟨a0,a1,a2,a3⟩:=cells2 B0;obtain⟨b0,b1,b2,b3⟩:=cells2 B1;have hw7:w.heap.size+4<=w7.heap.size:=q_l (q_l hsz e5.size) e7.size;have hl0:w.heap.size<w7.heap.size:=by omega
   have hl1:w.heap.size+1<w7.heap.size:=by omega
   go_wp2;refine qo ?_;intro W8 e8 hsz8 B9;have hE8:=((hE.trans e5).trans e7).trans e8;replace B0:=e8.block B0;replace B1:=e8.block B1;replace B2:=e8.block B2;replace B3:=e8.block B3;clear a0 a1 a2 a3 b0 b1 b2 b3;obtain⟨a0,a1,a2,a3⟩:=cells2 B0;obtain⟨b0,b1,b2,b3⟩:=cells2 B1;obtain⟨p0,p1,p2,p3⟩:=cells2 B9;have h7e:=h7.ext e8;have vq:zy N W8 (.agg #[.bool b7,.slice A7 k7 c7]) q:=⟨_,by rw[hb7.out],h7e⟩
   have vx:zy N W8 (.agg #[.bool n1,.slice A1 k1 c1]) x:=⟨_,by rw[Hn1.out],((g1.ext e5).ext e7).ext e8⟩
   have vy:zy N W8 (.agg #[.bool n2,.slice A2 k2 c2]) y:=⟨_,by rw[Hn2.out],((g2.ext e5).ext e7).ext e8⟩
   have eC:=(Ext.refl W8).drew
   go_region_held3 (fun w'=>(w'.cell? ⟨w.heap.size,0,none⟩=some (.bool n1)/\w'.cell? ⟨w.heap.size,1,none⟩=some (.slice A1 k1 c1))/\(w'.cell? ⟨w.heap.size+1,0,none⟩=some (.bool n2)/\w'.cell? ⟨w.heap.size+1,1,none⟩=some (.slice A2 k2 c2))/\(w'.cell? ⟨w7.heap.size,0,none⟩=some (.bool b7)/\w'.cell? ⟨w7.heap.size,1,none⟩=some (.slice A7 k7 c7)))
    ((repeat' apply And.intro)<;>repeat with_reducible first|assumption|exact eC.cell (by assumption)|refine cell_far _ ?_ (by omega))
    (first
     | (go_at_call 29;refine (QJ (by exact vq.ext eC) (by exact vy.ext eC) (by have:=HDL.out;omega) (by have:=HL'.out;omega)).mono ?_;rintro e w10 ⟨v10,rfl,h10,e10⟩;replace eC:=eC.trans e10)
     | (go_at_call 119;refine (Yh (by exact vx.ext eC) (by exact h10) (by have:=HL.out;omega) HML.out).mono ?_;intro e w11 hh;obtain⟨b11,A11,k11,c11,rfl,hb11,h11,e11⟩:=hh.form;replace eC:=eC.trans e11;have D2:=eC.block B2;have D3:=eC.block B3;obtain⟨r0,r1,r2,r3⟩:=cells2 D2;obtain⟨s0,s1,s2,s3⟩:=cells2 D3))
   go_wp2;obtain⟨w12,E12,F2,U⟩:=ex2 D2 (.bool b7) (.slice A7 k7 c7);rw[E12];obtain⟨w13,E13,F3,U'⟩:=ex2 (U.blk D3 (by omega)) (.bool b11) (.slice A11 k11 c11);rw[E13];obtain⟨z0,z1,-,-⟩:=cells2 (U'.blk F2 (by omega));obtain⟨z2,z3,-,-⟩:=cells2 F3;have hEf:Ext w w13:=U'.ext (U.ext (hE8.trans eC) (by omega)) (by omega);refine bodyPost_ret (v:=.tuple #[.agg #[.bool b7,.slice A7 k7 c7],.agg #[.bool b11,.slice A11 k11 c11],.int .i64 0]) ?_ rfl ⟨_,_,rfl,⟨_,by rw[<-hb7.out],?_⟩,⟨_,by rw[hb11.out,<-HRR.out],?_⟩,hEf⟩
   ·simp[results,Tryz.results70,z0,z1,z2,z3,go_sem]
   ·exact ((h7e.ext eC).upd U (by omega) (NoU.mk D2 (by decide))).upd U' (by omega) (NoU.mk (U.blk D3 (by omega)) (by decide))
   ·rw[HRR.out];exact (h11.upd U (by omega) (NoU.mk D2 (by decide))).upd U' (by omega) (NoU.mk (U.blk D3 (by omega)) (by decide))
  ·have hbb:(n1 == n2)=false:=by simpa using hnn
   have HNN:Hid (¬decide (x<0)=decide (y<0)):=by rw[Hid,Hn1.out,Hn2.out];exact hnn
   clear hnn;go_wp2_with (go_at_call 72;refine q_o ?_);obtain⟨q0,hq0⟩:=qc (-((x.natAbs / y.natAbs:Nat):Int));refine (yD g5 (by have:=HQL.out;omega) q0 (by rw[hq0.out];simp[Hid])).mono ?_;intro e w7 hh;obtain⟨b7,A7,k7,c7,rfl,hb7,h7,e7⟩:=hh.form
   rcases Nat.eq_zero_or_pos k6 with h60|h60
   ·subst h60
    have HQ:Hid (q0=q):=by
     rw[Hid,hq.out,hq0.out];exact (wX HNN.out (zU.1 (List.eq_nil_of_length_eq_zero hlb6.out))).symm
    rw[HQ.out] at hb7 h7;replace B0:=e7.block B0;replace B1:=e7.block B1;replace B2:=e7.block B2;replace B3:=e7.block B3;clear a0 a1 a2 a3 b0 b1 b2 b3;obtain⟨a0,a1,a2,a3⟩:=cells2 B0;obtain⟨b0,b1,b2,b3⟩:=cells2 B1;have hw7:w.heap.size+4<=w7.heap.size:=q_l (q_l hsz e5.size) e7.size;have hl0:w.heap.size<w7.heap.size:=by omega
    have hl1:w.heap.size+1<w7.heap.size:=by omega
    go_wp2;refine qo ?_;intro W8 e8 hsz8 B9;have hE8:=((hE.trans e5).trans e7).trans e8;replace B0:=e8.block B0;replace B1:=e8.block B1;replace B2:=e8.block B2;replace B3:=e8.block B3;clear a0 a1 a2 a3 b0 b1 b2 b3;obtain⟨a0,a1,a2,a3⟩:=cells2 B0;obtain⟨b0,b1,b2,b3⟩:=cells2 B1;obtain⟨p0,p1,p2,p3⟩:=cells2 B9;have h7e:=h7.ext e8;have vq:zy N W8 (.agg #[.bool b7,.slice A7 k7 c7]) q:=⟨_,by rw[hb7.out],h7e⟩
    have vx:zy N W8 (.agg #[.bool n1,.slice A1 k1 c1]) x:=⟨_,by rw[Hn1.out],((g1.ext e5).ext e7).ext e8⟩
    have vy:zy N W8 (.agg #[.bool n2,.slice A2 k2 c2]) y:=⟨_,by rw[Hn2.out],((g2.ext e5).ext e7).ext e8⟩
    have eC:=(Ext.refl W8).drew
    go_region_held3 (fun w'=>(w'.cell? ⟨w.heap.size,0,none⟩=some (.bool n1)/\w'.cell? ⟨w.heap.size,1,none⟩=some (.slice A1 k1 c1))/\(w'.cell? ⟨w.heap.size+1,0,none⟩=some (.bool n2)/\w'.cell? ⟨w.heap.size+1,1,none⟩=some (.slice A2 k2 c2))/\(w'.cell? ⟨w7.heap.size,0,none⟩=some (.bool b7)/\w'.cell? ⟨w7.heap.size,1,none⟩=some (.slice A7 k7 c7)))
     ((repeat' apply And.intro)<;>repeat with_reducible first|assumption|exact eC.cell (by assumption)|refine cell_far _ ?_ (by omega))
     (first
      | (go_at_call 29;refine (QJ (by exact vq.ext eC) (by exact vy.ext eC) (by have:=HDL.out;omega) (by have:=HL'.out;omega)).mono ?_;rintro e w10 ⟨v10,rfl,h10,e10⟩;replace eC:=eC.trans e10)
      | (go_at_call 119;refine (Yh (by exact vx.ext eC) (by exact h10) (by have:=HL.out;omega) HML.out).mono ?_;intro e w11 hh;obtain⟨b11,A11,k11,c11,rfl,hb11,h11,e11⟩:=hh.form;replace eC:=eC.trans e11;have D2:=eC.block B2;have D3:=eC.block B3;obtain⟨r0,r1,r2,r3⟩:=cells2 D2;obtain⟨s0,s1,s2,s3⟩:=cells2 D3))
    go_wp2;obtain⟨w12,E12,F2,U⟩:=ex2 D2 (.bool b7) (.slice A7 k7 c7);rw[E12];obtain⟨w13,E13,F3,U'⟩:=ex2 (U.blk D3 (by omega)) (.bool b11) (.slice A11 k11 c11);rw[E13];obtain⟨z0,z1,-,-⟩:=cells2 (U'.blk F2 (by omega));obtain⟨z2,z3,-,-⟩:=cells2 F3;have hEf:Ext w w13:=U'.ext (U.ext (hE8.trans eC) (by omega)) (by omega);refine bodyPost_ret (v:=.tuple #[.agg #[.bool b7,.slice A7 k7 c7],.agg #[.bool b11,.slice A11 k11 c11],.int .i64 0]) ?_ rfl ⟨_,_,rfl,⟨_,by rw[<-hb7.out],?_⟩,⟨_,by rw[hb11.out,<-HRR.out],?_⟩,hEf⟩
    ·simp[results,Tryz.results70,z0,z1,z2,z3,go_sem]
    ·exact ((h7e.ext eC).upd U (by omega) (NoU.mk D2 (by decide))).upd U' (by omega) (NoU.mk (U.blk D3 (by omega)) (by decide))
    ·rw[HRR.out];exact (h11.upd U (by omega) (NoU.mk D2 (by decide))).upd U' (by omega) (NoU.mk (U.blk D3 (by omega)) (by decide))
   ·have HQ:Hid (q0-1=q):=by
     rw[Hid,hq.out,hq0.out];exact (ZV HNN.out (fun e=>by have:=hlb6.out;rw[e,zO] at this;simp at this;omega)).symm
    replace B0:=e7.block B0;replace B1:=e7.block B1;replace B2:=e7.block B2;replace B3:=e7.block B3;clear a0 a1 a2 a3 b0 b1 b2 b3;obtain⟨a0,a1,a2,a3⟩:=cells2 B0;obtain⟨b0,b1,b2,b3⟩:=cells2 B1;have hw7:w.heap.size+4<=w7.heap.size:=q_l (q_l hsz e5.size) e7.size;have hl0:w.heap.size<w7.heap.size:=by omega
    have hl1:w.heap.size+1<w7.heap.size:=by omega
    go_wp2;refine qo ?_;intro W8 e8 hsz8 B9;have hE8:=((hE.trans e5).trans e7).trans e8;replace B0:=e8.block B0;replace B1:=e8.block B1;replace B2:=e8.block B2;replace B3:=e8.block B3;clear a0 a1 a2 a3 b0 b1 b2 b3;obtain⟨a0,a1,a2,a3⟩:=cells2 B0;obtain⟨b0,b1,b2,b3⟩:=cells2 B1;obtain⟨p0,p1,p2,p3⟩:=cells2 B9;have h7e:=h7.ext e8;have vq0:zy N W8 (.agg #[.bool b7,.slice A7 k7 c7]) q0:=⟨_,by rw[hb7.out],h7e⟩
    have hq0L:Hid (ln q0.natAbs<=10000000000):=by rw[Hid,hq0.out,Int.natAbs_neg,Int.natAbs_natCast];exact HQL.out
    have hw8:w7.heap.size<W8.heap.size:=by omega
    have hg1:=((g1.ext e5).ext e7).ext e8;have hg2:=((g2.ext e5).ext e7).ext e8
    go_cut [] (fun wx=>∃b9 A9 k9 c9,Ext w wx/\wx.heap[w.heap.size]?=some (.cells #[.bool n1,.slice A1 k1 c1] 33 (0,0))/\wx.heap[w.heap.size+1]?=some (.cells #[.bool n2,.slice A2 k2 c2] 33 (0,0))/\wx.heap[w.heap.size+1+1]?=some (.cells #[.bool false,.slice none 0 0] 33 (0,0))/\wx.heap[w.heap.size+1+1+1]?=some (.cells #[.bool false,.slice none 0 0] 33 (0,0))/\wx.heap[w7.heap.size]?=some (.cells #[.bool b9,.slice A9 k9 c9] 33 (0,0))/\Hid (b9=decide (q<0))/\Gs N wx (.slice A9 k9 c9) (dg q.natAbs)/\Gs N wx (.slice A1 k1 c1) (dg x.natAbs)/\Gs N wx (.slice A2 k2 c2) (dg y.natAbs))
    case first =>
     have eC:=(Ext.refl W8).drew
     go_region_with (first
      | (go_at_call 76;refine (q8A (N:=N) (by have:=hE8.size;have:=eC.size;omega) 1 (by omega) (by omega)).mono ?_;rintro e w10 ⟨v10,rfl,h10,e10⟩;replace eC:=eC.trans e10;obtain⟨u0,u1,u2,u3⟩:=cells2 (eC.block B9))
      | (go_at_call 119;refine (Yh (by exact vq0.ext eC) (by exact h10) (by have:=hq0L.out;omega) (by exact q_l (zo (k:=1) (by decide)) (by omega))).mono ?_;intro e w11 hh;obtain⟨b11,A11,k11,c11,rfl,hb11,h11,e11⟩:=hh.form;replace eC:=eC.trans e11;have D9:=eC.block B9;obtain⟨u0,u1,u2,u3⟩:=cells2 D9))
     all_goals
      go_wp2_with fail
      go_meet
      obtain⟨w12,E12,F9,U⟩:=ex2 D9 (.bool b11) (.slice A11 k11 c11);rw[E12];rw[HQ.out] at hb11 h11;exact⟨b11,A11,k11,c11,U.ext (hE8.trans eC) (by omega),U.blk (eC.block B0) (by omega),U.blk (eC.block B1) (by omega),U.blk (eC.block B2) (by omega),U.blk (eC.block B3) (by omega),F9,hb11,h11.upd U (by omega) (NoU.mk D9 (by decide)),(hg1.ext eC).upd U (by omega) (NoU.mk D9 (by decide)),(hg2.ext eC).upd U (by omega) (NoU.mk D9 (by decide))⟩
    case rest =>
     clear a0 a1 a2 a3 b0 b1 b2 b3 p0 p1 p2 p3 B0 B1 B2 B3 B9 h7e hE8 hb7;obtain⟨b7,A7,k7,c7,hE8,B0,B1,B2,B3,B9,hb7,h7e,hg1,hg2⟩:=hcut;obtain⟨a0,a1,a2,a3⟩:=cells2 B0;obtain⟨b0,b1,b2,b3⟩:=cells2 B1;obtain⟨p0,p1,p2,p3⟩:=cells2 B9;have vq:zy N wc (.agg #[.bool b7,.slice A7 k7 c7]) q:=⟨_,by rw[hb7.out],h7e⟩
     have vx:zy N wc (.agg #[.bool n1,.slice A1 k1 c1]) x:=⟨_,by rw[Hn1.out],hg1⟩
     have vy:zy N wc (.agg #[.bool n2,.slice A2 k2 c2]) y:=⟨_,by rw[Hn2.out],hg2⟩
     go_wp2;have eC:=(Ext.refl wc).drew
     go_region_held3 (fun w'=>(w'.cell? ⟨w.heap.size,0,none⟩=some (.bool n1)/\w'.cell? ⟨w.heap.size,1,none⟩=some (.slice A1 k1 c1))/\(w'.cell? ⟨w.heap.size+1,0,none⟩=some (.bool n2)/\w'.cell? ⟨w.heap.size+1,1,none⟩=some (.slice A2 k2 c2))/\(w'.cell? ⟨w7.heap.size,0,none⟩=some (.bool b7)/\w'.cell? ⟨w7.heap.size,1,none⟩=some (.slice A7 k7 c7)))
      ((repeat' apply And.intro)<;>repeat with_reducible first|assumption|exact eC.cell (by assumption)|refine cell_far _ ?_ (by omega))
      (first
       | (go_at_call 29;refine (QJ (by exact vq.ext eC) (by exact vy.ext eC) (by have:=HDL.out;omega) (by have:=HL'.out;omega)).mono ?_;rintro e w10 ⟨v10,rfl,h10,e10⟩;replace eC:=eC.trans e10)
       | (go_at_call 119;refine (Yh (by exact vx.ext eC) (by exact h10) (by have:=HL.out;omega) HML.out).mono ?_;intro e w11 hh;obtain⟨b11,A11,k11,c11,rfl,hb11,h11,e11⟩:=hh.form;replace eC:=eC.trans e11;have D2:=eC.block B2;have D3:=eC.block B3;obtain⟨r0,r1,r2,r3⟩:=cells2 D2;obtain⟨s0,s1,s2,s3⟩:=cells2 D3))
     go_wp2;obtain⟨w12,E12,F2,U⟩:=ex2 D2 (.bool b7) (.slice A7 k7 c7);rw[E12];obtain⟨w13,E13,F3,U'⟩:=ex2 (U.blk D3 (by omega)) (.bool b11) (.slice A11 k11 c11);rw[E13];obtain⟨z0,z1,-,-⟩:=cells2 (U'.blk F2 (by omega));obtain⟨z2,z3,-,-⟩:=cells2 F3;have hEf:Ext w w13:=U'.ext (U.ext (hE8.trans eC) (by omega)) (by omega);refine bodyPost_ret (v:=.tuple #[.agg #[.bool b7,.slice A7 k7 c7],.agg #[.bool b11,.slice A11 k11 c11],.int .i64 0]) ?_ rfl ⟨_,_,rfl,⟨_,by rw[<-hb7.out],?_⟩,⟨_,by rw[hb11.out,<-HRR.out],?_⟩,hEf⟩
     ·simp[results,Tryz.results70,z0,z1,z2,z3,go_sem]
     ·exact ((h7e.ext eC).upd U (by omega) (NoU.mk D2 (by decide))).upd U' (by omega) (NoU.mk (U.blk D3 (by omega)) (by decide))
     ·rw[HRR.out];exact (h11.upd U (by omega) (NoU.mk D2 (by decide))).upd U' (by omega) (NoU.mk (U.blk D3 (by omega)) (by decide))
end Go.Proofs.YtflhlobiipejeaaGreat
