import Derived.Test.YtflhlobiipejeaaGreatWb01
import Derived.Deep.DeepCutAuto
import Derived.Deep.RegionWith
set_option linter.all false
set_option maxHeartbeats 8000000
namespace Go.Proofs.YtflhlobiipejeaaGreat
open Go.RowKit
variable {w w':World} {N n:Nat} {v s:Value} {z:Int}
theorem XY{t:Value}{x y:Nat}(h:Gs N w s (dg x)) (h':Gs N w t (dg y)) :
  Calls Tryz.prog 74 #[s,t] w (zH w (.int .i64 (Q5 x y))):=by
 obtain⟨r,hr⟩:=qc (Q5 x y);rw[<-hr.out];obtain⟨A,n,c,rfl,hlen,h2,h3⟩:=h.form;obtain⟨B,m,d,rfl,hlen',h2',h3'⟩:=h'.form
 rcases Nat.lt_trichotomy n m with hnm|hnm|hnm
 ·have HR:Hid (r = -1):=hr.out.trans (yl (jB (by rw[hlen.out,hlen'.out];exact hnm)));have t1:((n:Int) != (m:Int))=true:=by rw[bne_iff_ne];omega
  go_enter Tryz.func74,Tryz.ntmps74;go_wp2;go_ret;exact⟨qJ HR.out.symm,Ext.refl w⟩
 ·subst hnm;have t1:((n:Int) != (n:Int))=false:=by simp
  go_enter Tryz.func74,Tryz.ntmps74;go_wp2
  go_loopw [5] (fun i wr=>∃k:Nat,k<=n/\i=.int .i64 ((k:Int)-1)/\(dg x).drop k=(dg y).drop k/\Ext w wr) (fun i _=>(intOf i+1).toNat)
  case atStart=>exact⟨n,q_r,rfl,by rw[List.drop_of_length_le (by rw[hlen.out];exact q_r),List.drop_of_length_le (by rw[hlen'.out];exact q_r)],Ext.refl w⟩
  case round =>
   obtain⟨k,hk,rfl,hd,hE⟩:=hrel;have HD:=q_h hd;clear hd
   rcases Nat.eq_zero_or_pos k with h0|h0
   ·subst h0
    have HR:Hid (r=0):=by
     have:=HD.out;rw[List.drop_zero,List.drop_zero] at this;exact hr.out.trans (VY (q3y this))
    go_wp2;go_ret;exact⟨qJ HR.out.symm,hE⟩
   ·obtain⟨j,rfl⟩:∃j,k=j+1:=⟨k-1,by omega⟩
    obtain⟨b1,o1,za,rfl,hb1,g1,za0,za1,hza⟩:=(h.ext hE).at_ (k:=j) (by omega);obtain⟨b2,o2,zb,rfl,hb2,g2,zb0,zb1,hzb⟩:=(h'.ext hE).at_ (k:=j) (by omega);rw[show (((j+1:Nat):Int)-1)=(j:Int) from by omega];have i0:(j:Int)<(n:Int):=by omega
    rcases Int.lt_trichotomy za zb with hz|hz|hz
    ·have HR:Hid (r = -1):=hr.out.trans (yl (by
      have:=yx (qI x) (hlen.out.trans hlen'.out.symm) (k:=j) (by rw[hlen.out];omega) HD.out (by have:=hza.out;have:=hzb.out;omega)
      rwa [qC,qC] at this))
     go_wp2
     go_quiet (fail)
     go_wp2;go_ret;exact⟨qJ HR.out.symm,hE.drewN _⟩
    ·subst hz;have HD2:Hid ((dg x).drop j=(dg y).drop j):=drop_step (hlen.out.trans hlen'.out.symm) (by rw[hlen.out];omega) HD.out (by have:=hza.out;have:=hzb.out;omega);go_wp2
     go_quiet (fail)
     go_wp2
     go_quiet (fail)
     go_wp2;go_roundw
     case rel=>exact⟨j,by omega,rfl,HD2.out,hE.drewN _⟩
     case measure=>simp[intOf]
    ·have HR:Hid (r=1):=hr.out.trans (QD (by
      have:=yx (qI y) (hlen'.out.trans hlen.out.symm) (k:=j) (by rw[hlen'.out];omega) HD.out.symm (by have:=hza.out;have:=hzb.out;omega)
      rwa [qC,qC] at this))
     go_wp2
     go_quiet (fail)
     go_wp2
     go_quiet (fail)
     go_wp2;go_ret;exact⟨qJ HR.out.symm,(hE.drewN _).drewN _⟩
 ·have HR:Hid (r=1):=hr.out.trans (QD (jB (by rw[hlen.out,hlen'.out];exact hnm)));have t1:((n:Int) != (m:Int))=true:=by rw[bne_iff_ne];omega
  go_enter Tryz.func74,Tryz.ntmps74;go_wp2;go_ret;exact⟨qJ HR.out.symm,Ext.refl w⟩
theorem q4K{t:Value}{p q:Nat}(h:Gs N w s (dg p)) (h':Gs N w t (dg q)) (hL:ln p<=35184372088824) (hL':ln q<=35184372088824) :
  Calls Tryz.prog 73 #[s,t] w (q1t N w (p+q)):=by
 have:=q73 h h' (qI _) (qI _) hL hL'
 rwa [qC,qC] at this
theorem Yk{t:Value}{p q:Nat}(h:Gs N w s (dg p)) (h':Gs N w t (dg q)) (hL:ln p<=35184372088824) (hle:q<=p) :
  Calls Tryz.prog 75 #[s,t] w (q1t N w (p-q)):=by
 have:=q4L h h' (qI _) (qI _) hL (by rw[qC,qC];exact hle)
 rwa [qC,qC] at this
theorem yD{p:Nat}{neg:Bool}(h:Gs N w s (dg p)) (hL:ln p<=35184372088832) (z:Int) (hz:Hid (z=if neg then -(p:Int) else (p:Int))) :
  Calls Tryz.prog 72 #[.bool neg,s] w (Kr N w z):=xg h (qI _) hL z (by rw[qC];exact hz)
theorem q1t.form{e:Ending}(h:q1t N w n e w'):∃A k c,e=.returned (.slice A k c)/\Gs N w' (.slice A k c) (dg n)/\Ext w w':=by
 obtain⟨v,rfl,hg,he⟩:=h;obtain⟨A,k,c,rfl,-,-,-⟩:=hg.form;exact⟨A,k,c,rfl,hg,he⟩
theorem Kr.form{e:Ending}(h:Kr N w z e w'):∃(b:Bool) (A:Option Addr) (k c:Nat),e=.returned (.agg #[.bool b,.slice A k c])/\Hid (b=decide (z<0))/\Gs N w' (.slice A k c) (dg z.natAbs)/\Ext w w':=by
 obtain⟨v,rfl,⟨s,rfl,hg⟩,he⟩:=h;obtain⟨A,k,c,rfl,-,-,-⟩:=hg.form;exact⟨_,A,k,c,rfl,rfl,hg,he⟩
theorem q5N {x y:Int}(h:decide (x<0)=decide (y<0)):x+y=if decide (x<0)=true then -((x.natAbs+y.natAbs:Nat):Int) else ((x.natAbs+y.natAbs:Nat):Int):=by
 have h':x<0↔y<0:=by simpa using h
 split
 ·rename_i h1;simp at h1;omega
 ·rename_i h1;simp at h1;omega
theorem q0y {x y:Int}(h:¬decide (x<0)=decide (y<0)) (hle:y.natAbs<=x.natAbs):x+y=if decide (x<0)=true then -((x.natAbs-y.natAbs:Nat):Int) else ((x.natAbs-y.natAbs:Nat):Int):=by
 have h':¬(x<0↔y<0):=by simpa using h
 split
 ·rename_i h1;simp at h1;omega
 ·rename_i h1;simp at h1;omega
theorem yt {x y:Nat}:0<=Q5 x y↔y<=x:=by
 unfold Q5;split
 ·constructor<;>omega
 ·split<;>constructor<;>omega
theorem q5A (x y:Nat) : -1<=Q5 x y/\Q5 x y<=1:=by
 unfold Q5;split
 ·omega
 ·split<;>omega
theorem q6b{v':Value}{x y:Int}(h:zy N w v x) (h':zy N w v' y) (hL:ln x.natAbs<=35184372088800) (hL':ln y.natAbs<=35184372088800) :
  Calls Tryz.prog 28 #[v,v'] w (Kr N w (x+y)):=by
 have hI:=h;have hI':=h';obtain⟨s,rfl,hs⟩:=h;obtain⟨s',rfl,hs'⟩:=h';have hN:=hs.le;obtain⟨A,n,c,rfl,hlen,h2,h3⟩:=hs.form;obtain⟨B,m,d,rfl,hlen',h2',h3'⟩:=hs'.form;obtain⟨z,hz⟩:=qc (x+y);rw[<-hz.out]
 generalize hneg:decide (x<0)=n1 at *
 generalize hneg':decide (y<0)=n2 at *
 have Hn1:=q_h hneg;have Hn2:=q_h hneg';clear hneg hneg';have HL:=q_h hL;have HL':=q_h hL';clear hL hL';go_enter Tryz.func28,Tryz.ntmps28;go_wp2;refine xX ?_;intro W hE hsz B0 B1 B2;obtain⟨a0,a1,a2,a3⟩:=cells2 B0;obtain⟨b0,b1,b2,b3⟩:=cells2 B1
 go_cut [] (fun wx=>∃A1 k1 c1 A2 k2 c2,Ext w wx/\w.heap.size+3<=wx.heap.size/\wx.heap[w.heap.size]?=some (.cells #[.bool n1,.slice A1 k1 c1] 33 (0,0))/\wx.heap[w.heap.size+1]?=some (.cells #[.bool n2,.slice A2 k2 c2] 33 (0,0))/\wx.heap[w.heap.size+1+1]?=some (.cells #[.bool false,.slice none 0 0] 33 (0,0))/\Gs N wx (.slice A1 k1 c1) (dg x.natAbs)/\Gs N wx (.slice A2 k2 c2) (dg y.natAbs))
 case first =>
  go_region_with (first
   | (go_at_call 71;refine (xm (by exact hI.ext hE.drew) (by have:=HL.out;omega)).mono ?_;rintro e w1 ⟨v1,rfl,⟨s1,rfl,hv1⟩,e1⟩;obtain⟨A1,k1,c1,rfl,hl1,-,-⟩:=hv1.form;rw[Hn1.out];obtain⟨p0,p1,p2,p3⟩:=cells2 (e1.block B0);obtain⟨q0,q1,q2,q3⟩:=cells2 (e1.block B1))
   | (go_at_call 71;refine (xm (by exact hI'.ext (hE.drew.trans e1)) (by have:=HL'.out;omega)).mono ?_;rintro e w2 ⟨v2,rfl,⟨s2,rfl,hv2⟩,e2⟩;obtain⟨A2,k2,c2,rfl,hl2,-,-⟩:=hv2.form;rw[Hn2.out];have B0':=e2.block (e1.block B0);have B1':=e2.block (e1.block B1);obtain⟨p0,p1,p2,p3⟩:=cells2 B0';obtain⟨q0,q1,q2,q3⟩:=cells2 B1'))
  all_goals
   go_wp2_with fail
   go_meet
   obtain⟨w3,E3,C0,U⟩:=ex2 B0' (.bool n1) (.slice A1 k1 c1);rw[E3];obtain⟨w4,E4,C1,U'⟩:=ex2 (U.blk B1' (by omega)) (.bool n2) (.slice A2 k2 c2);rw[E4];have hE2:Ext w w2:=(hE.drew.trans e1).trans e2;have hE4:Ext w w4:=U'.ext (U.ext hE2 (q_r)) (by omega);refine⟨A1,k1,c1,A2,k2,c2,hE4,?_,U'.blk C0 (by omega),C1,U'.blk (U.blk (e2.block (e1.block B2)) (by omega)) (by omega),?_,?_⟩
   ·rw[U'.size,U.size];have h1:=e2.size;have h2:=e1.size;simp at h2;omega
   ·exact ((hv1.ext e2).upd U (by omega) (NoU.mk B0' (by decide))).upd U' (by omega) (NoU.mk (U.blk B1' (by omega)) (by decide))
   ·exact (hv2.upd U (by omega) (NoU.mk B0' (by decide))).upd U' (by omega) (NoU.mk (U.blk B1' (by omega)) (by decide))
 case rest =>
  obtain⟨A1,k1,c1,A2,k2,c2,hE,hsz,B0,B1,B2,g1,g2⟩:=hcut;obtain⟨a0,a1,a2,a3⟩:=cells2 B0;obtain⟨b0,b1,b2,b3⟩:=cells2 B1
  by_cases hnn:n1=n2
  ·have hb:(n1 == n2)=true:=by simpa using hnn
   have HNN:=q_h hnn;clear hnn;have HB:Hid (ln (x.natAbs+y.natAbs)<=35184372088832):=by have:=WY x.natAbs y.natAbs;have:=HL.out;have:=HL'.out;unfold Hid;omega
   go_wp2;have eC:=(Ext.refl wc).drew
   go_region_held3 (fun w'=>w'.cell? ⟨w.heap.size,0,none⟩=some (.bool n1)/\w'.cell? ⟨w.heap.size,1,none⟩=some (.slice A1 k1 c1)/\w'.cell? ⟨w.heap.size+1,0,none⟩=some (.bool n2)/\w'.cell? ⟨w.heap.size+1,1,none⟩=some (.slice A2 k2 c2)) ((repeat' apply And.intro)<;>repeat with_reducible first|assumption|exact eC.cell (by assumption)|refine cell_far _ ?_ (by omega))
    (first
     | (go_at_call 73;refine (q4K (by exact g1.ext eC) (by exact g2.ext eC) (by have:=HL.out;omega) (by have:=HL'.out;omega)).mono ?_;intro e w1 hh;obtain⟨A3,k3,c3,rfl,h3,e3⟩:=hh.form;replace eC:=eC.trans e3)
     | (go_at_call 72;refine (yD (by exact h3) HB.out z (by rw[<-Hn1.out];exact hz.out.trans (q5N (by rw[Hn1.out,Hn2.out];exact HNN.out)))).mono ?_;intro e w2 hh;obtain⟨bb,A4,k4,c4,rfl,hb4,h4,e4⟩:=hh.form;replace eC:=eC.trans e4;obtain⟨r0,r1,r2,r3⟩:=cells2 (eC.block B2)))
   go_wp2;exact zC rfl rfl rfl (hE.trans eC) (eC.block B2) (by omega) hN h4 hb4.out rfl
  ·have hb:(n1 == n2)=false:=by simpa using hnn
   have HNN:=q_h hnn;clear hnn;go_wp2_with (go_at_call 74;refine q_o ?_);refine (XY g1 g2).mono ?_;rintro e wd ⟨rfl,ed⟩;replace B0:=ed.block B0;replace B1:=ed.block B1;replace B2:=ed.block B2;replace hE:=hE.trans ed;replace g1:=g1.ext ed;replace g2:=g2.ext ed;replace hsz:=q_l hsz ed.size;clear a0 a1 a2 a3 b0 b1 b2 b3;obtain⟨a0,a1,a2,a3⟩:=cells2 B0;obtain⟨b0,b1,b2,b3⟩:=cells2 B1;clear ed;obtain⟨cz,hcz⟩:=qc (Q5 x.natAbs y.natAbs);rw[<-hcz.out]
   by_cases hle:y.natAbs<=x.natAbs
   ·have hc:0<=cz:=by rw[hcz.out];exact yt.2 hle
    have Hle:=q_h hle;clear hle;have HB:Hid (ln (x.natAbs-y.natAbs)<=35184372088832):=by have:=zJ (Nat.sub_le x.natAbs y.natAbs);have:=HL.out;unfold Hid;omega
    go_wp2;have eC:=(Ext.refl wd).drew
    go_region_held3 (fun w'=>w'.cell? ⟨w.heap.size,0,none⟩=some (.bool n1)/\w'.cell? ⟨w.heap.size,1,none⟩=some (.slice A1 k1 c1)/\w'.cell? ⟨w.heap.size+1,0,none⟩=some (.bool n2)/\w'.cell? ⟨w.heap.size+1,1,none⟩=some (.slice A2 k2 c2)) ((repeat' apply And.intro)<;>repeat with_reducible first|assumption|exact eC.cell (by assumption)|refine cell_far _ ?_ (by omega))
     (first
      | (go_at_call 75;refine (Yk (by exact g1.ext eC) (by exact g2.ext eC) (by have:=HL.out;omega) Hle.out).mono ?_;intro e w1 hh;obtain⟨A3,k3,c3,rfl,h3,e3⟩:=hh.form;replace eC:=eC.trans e3)
      | (go_at_call 72;refine (yD (by exact h3) HB.out z (by rw[<-Hn1.out];exact hz.out.trans (q0y (by rw[Hn1.out,Hn2.out];exact HNN.out) Hle.out))).mono ?_;intro e w2 hh;obtain⟨bb,A4,k4,c4,rfl,hb4,h4,e4⟩:=hh.form;replace eC:=eC.trans e4;obtain⟨r0,r1,r2,r3⟩:=cells2 (eC.block B2)))
    go_wp2;exact zC rfl rfl rfl (hE.trans eC) (eC.block B2) (by omega) hN h4 hb4.out rfl
   ·have hc:cz<0:=by
     rcases Int.lt_or_le cz 0 with h|h
     ·exact h
     ·rw[hcz.out] at h;exact absurd (yt.1 h) hle
    have Hle:Hid (x.natAbs<=y.natAbs):=by unfold Hid;omega
    clear hle;have HB:Hid (ln (y.natAbs-x.natAbs)<=35184372088832):=by have:=zJ (Nat.sub_le y.natAbs x.natAbs);have:=HL'.out;unfold Hid;omega
    go_wp2;have eC:=(Ext.refl wd).drew
    go_region_held3 (fun w'=>w'.cell? ⟨w.heap.size,0,none⟩=some (.bool n1)/\w'.cell? ⟨w.heap.size,1,none⟩=some (.slice A1 k1 c1)/\w'.cell? ⟨w.heap.size+1,0,none⟩=some (.bool n2)/\w'.cell? ⟨w.heap.size+1,1,none⟩=some (.slice A2 k2 c2)) ((repeat' apply And.intro)<;>repeat with_reducible first|assumption|exact eC.cell (by assumption)|refine cell_far _ ?_ (by omega))
     (first
      | (go_at_call 75;refine (Yk (by exact g2.ext eC) (by exact g1.ext eC) (by have:=HL'.out;omega) Hle.out).mono ?_;intro e w1 hh;obtain⟨A3,k3,c3,rfl,h3,e3⟩:=hh.form;replace eC:=eC.trans e3)
      | (go_at_call 72;refine (yD (by exact h3) HB.out z (by rw[<-Hn2.out];exact hz.out.trans ((Int.add_comm x y).trans (q0y (by rw[Hn1.out,Hn2.out];exact fun e=>HNN.out e.symm) Hle.out)))).mono ?_;intro e w2 hh;obtain⟨bb,A4,k4,c4,rfl,hb4,h4,e4⟩:=hh.form;replace eC:=eC.trans e4;obtain⟨r0,r1,r2,r3⟩:=cells2 (eC.block B2)))
    go_wp2;exact zC rfl rfl rfl (hE.trans eC) (eC.block B2) (by omega) hN h4 hb4.out rfl
end Go.Proofs.YtflhlobiipejeaaGreat
