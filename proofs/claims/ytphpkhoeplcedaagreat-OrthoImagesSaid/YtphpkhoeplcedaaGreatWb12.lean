import Derived.Test.YtphpkhoeplcedaaGreatWb11
import Derived.Deep.AppendLies
set_option linter.all false
set_option maxHeartbeats 8000000
namespace Go.Proofs.YtphpkhoeplcedaaGreat
open Go.RowKit
variable {w w':World} {N n lo hi k g i m base c b j:Nat} {v s:Value} {l:List Nat} {q x:Rat} {R:Raw} {A:Option Addr}
theorem Yl {v':Value} {y:Rat} (h:qp N w v x) (h':qp N w v' y) (hz:Sz x) (hz':Sz y) :
  Calls Tryz.prog 26 #[v,v'] w (yM N w (x+y)):=by
 obtain⟨q,hq⟩:=qf (x+y);rw [<-hq.out];have HQ:Hid (Rat.divInt (x.num*y.den+y.num*x.den) ((x.den:Int)*y.den)=q):=by rw [Hid,hq.out,yu]
 have L1:Hid (ln (x.num*(y.den:Int)).natAbs<=2000000000):=by rw [Hid,Int.natAbs_mul,Int.natAbs_natCast]; exact zI hz.1 hz'.2
 have L2:Hid (ln (y.num*(x.den:Int)).natAbs<=2000000000):=by rw [Hid,Int.natAbs_mul,Int.natAbs_natCast]; exact zI hz'.1 hz.2
 have L3:Hid (ln ((x.den:Int)*(y.den:Int)).natAbs<=2000000000):=by rw [Hid,Int.natAbs_mul,Int.natAbs_natCast,Int.natAbs_natCast]; exact zI hz.2 hz'.2
 have D0:Hid ((x.den:Int)*(y.den:Int)≠0):=by have h8:=x.den_pos; have h9:=y.den_pos; exact Int.mul_ne_zero (by omega) (by omega)
 clear hq;have hI:=h;have hI':=h';have hN:=h.le;obtain⟨m1,X1,i1,d1,X2,i2,d2,rfl,hm1,gx1,gx2⟩:=h.parts;obtain⟨m2,Y1,i3,d3,Y2,i4,d4,rfl,hm2,gy1,gy2⟩:=h'.parts;have HZ:=q_h hz;have HZ':=q_h hz';clear hz hz' h h' gx1 gx2 gy1 gy2;go_enter Tryz.func26,Tryz.ntmps26;go_wp2_with (go_at_call 69; refine q_o ?_);refine kV ?_;intro W hE hsz B0 B1 B2;refine (xN (hI.ext hE) HZ.out).mono ?_;intro e w1 hh;obtain⟨n1,A1,k1,c1,A2,k2,c2,rfl,hb1,g1,g2,e1⟩:=hh.form;replace hE:=hE.trans e1;replace hsz:=q_l hsz e1.size;replace B1:=e1.block B1;replace B2:=e1.block B2;obtain⟨b0,b1,b2,b3,-⟩:=cells4 B1;have hl1:w.heap.size+1 < w1.heap.size:=by omega
 go_wp2_with (go_at_call 69; refine q_o ?_);refine qF ?_;intro W2 e2 hsz2 C0;replace hE:=hE.trans e2;refine (xN (hI'.ext hE) HZ'.out).mono ?_;intro e w3 hh;obtain⟨n2,A3,k3,c3,A4,k4,c4,rfl,hb2,g3,g4,e3⟩:=hh.form;replace hE:=hE.trans e3;have hsz3:w1.heap.size+1<=w3.heap.size:=by have:=e3.size; omega
 go_upto_region 3 with (fail);refine ql ?_;intro W4 e4 hsz4 C1;replace hE:=hE.trans e4;replace B2:=e4.block (e3.block (e2.block B2));replace C0:=e4.block (e3.block C0);replace g1:=((g1.ext e2).ext e3).ext e4;replace g2:=((g2.ext e2).ext e3).ext e4;replace g3:=g3.ext e4;replace g4:=g4.ext e4;clear b0 b1 b2 b3 B0 B1;obtain⟨a0,a1,a2,a3,-⟩:=cells4 C0;obtain⟨b0,b1,b2,b3,-⟩:=cells4 C1;have eC:=(Ext.refl W4).drew
 go_region_held3 (fun w'=>(w'.cell? ⟨w1.heap.size,0,none⟩=some (.bool n1)/\w'.cell? ⟨w1.heap.size,1,none⟩=some (.slice A1 k1 c1)/\w'.cell? ⟨w1.heap.size,2,none⟩=some (.bool false)/\w'.cell? ⟨w1.heap.size,3,none⟩=some (.slice A2 k2 c2))/\(w'.cell? ⟨w3.heap.size,0,none⟩=some (.bool n2)/\w'.cell? ⟨w3.heap.size,1,none⟩=some (.slice A3 k3 c3)/\w'.cell? ⟨w3.heap.size,2,none⟩=some (.bool false)/\w'.cell? ⟨w3.heap.size,3,none⟩=some (.slice A4 k4 c4)))
  ((repeat' apply And.intro) <;> repeat with_reducible first | assumption | exact eC.cell (by assumption) | refine cell_far _ ?_ (by omega))
  (first
   | (go_at_call_of 72 A1; refine (yB (by exact qK hb1 (g1.ext eC)) (by exact qJ (g4.ext eC)) (by have:=HZ.out.1; omega) (by rw [Int.natAbs_natCast]; have:=HZ'.out.2; omega)).mono ?_; rintro e w5 ⟨v5,rfl,h5,e5⟩; replace eC:=eC.trans e5)
   | (go_at_call_of 72 A3; refine (yB (by exact qK hb2 (g3.ext eC)) (by exact qJ (g2.ext eC)) (by have:=HZ'.out.1; omega) (by rw [Int.natAbs_natCast]; have:=HZ.out.2; omega)).mono ?_; rintro e w6 ⟨v6,rfl,h6,e6⟩; replace eC:=eC.trans e6)
   | (go_at_call_of 72 A2; refine (yB (by exact qJ (g2.ext eC)) (by exact qJ (g4.ext eC)) (by rw [Int.natAbs_natCast]; have:=HZ.out.2; omega) (by rw [Int.natAbs_natCast]; have:=HZ'.out.2; omega)).mono ?_; rintro e w9 ⟨v9,rfl,h9,e9⟩; replace eC:=eC.trans e9)
   | (go_at_call 71; refine (q2k (by exact h5.ext e6) (by exact h6) (by have:=L1.out; omega) (by have:=L2.out; omega)).mono ?_; rintro e w7 ⟨v7,rfl,h7,e7⟩; replace eC:=eC.trans e7)
   | (go_at_call 70; refine (wI (by exact h7.ext e9) (by exact h9) D0.out (q_l (JI L1.out L2.out) (by omega)) (by have:=L3.out; omega)).mono ?_; rw [HQ.out]; intro e w10 hh; obtain⟨n10,A10,k10,c10,A11,k11,c11,rfl,hb10,h10,h11,e10⟩:=hh.form; replace eC:=eC.trans e10; obtain⟨r0,r1,r2,r3,r4,r5,r6,r7⟩:=cells4 (eC.block B2)))
 go_wp2;exact qM rfl rfl rfl (hE.trans eC) (eC.block B2) (by omega) hN h10 h11 hb10
def XZ (N:Nat) (w:World) (q:Rat) (e:Ending) (w':World):Prop:=∃ v,e=.returned (.tuple #[v,.int .i64 0])/\qp N w' v q/\Ext w w'
theorem q1F {v':Value} {y:Rat} (h:qp N w v x) (h':qp N w v' y) (hz:Sz x) (hz':Sz y) (hy:y≠0) :
  Calls Tryz.prog 152 #[v,v'] w (XZ N w (x / y)):=by
 obtain⟨q,hq⟩:=qf (x / y);rw [<-hq.out];have HQ:Hid (Rat.divInt (x.num*y.den) ((x.den:Int)*y.num)=q):=by rw [Hid,hq.out,wV]
 have L1:Hid (ln (x.num*(y.den:Int)).natAbs<=2000000000):=by rw [Hid,Int.natAbs_mul,Int.natAbs_natCast]; exact zI hz.1 hz'.2
 have L3:Hid (ln ((x.den:Int)*y.num).natAbs<=2000000000):=by rw [Hid,Int.natAbs_mul,Int.natAbs_natCast]; exact zI hz.2 hz'.1
 have Y0:Hid (y.num≠0):=by unfold Hid; intro e; exact hy (Rat.num_eq_zero.1 e)
 have D0:Hid ((x.den:Int)*y.num≠0):=by have h8:=x.den_pos; exact Int.mul_ne_zero (by omega) Y0.out
 clear hq hy;have hI:=h;have hI':=h';have hN:=h.le;obtain⟨m1,X1,i1,d1,X2,i2,d2,rfl,hm1,gx1,gx2⟩:=h.parts;obtain⟨m2,Y1,i3,d3,Y2,i4,d4,rfl,hm2,gy1,gy2⟩:=h'.parts;have HZ:=q_h hz;have HZ':=q_h hz';clear hz hz' h h' gx1 gx2 gy1 gy2;go_enter Tryz.func152,Tryz.ntmps152;go_wp2;refine zK ?_;intro W hE hsz B0 B1 B2;obtain⟨a0,a1,a2,a3,-⟩:=cells4 B0;obtain⟨b0,b1,b2,b3,-⟩:=cells4 B1
 go_cut [] (fun wx=>∃ n1 A1 k1 c1 A2 k2 c2 n2 A3 k3 c3 A4 k4 c4,Ext w wx/\w.heap.size+2<=wx.heap.size/\wx.heap[w.heap.size]?=some (.cells #[.bool n1,.slice A1 k1 c1,.bool false,.slice A2 k2 c2] 29 (0,0))/\wx.heap[w.heap.size+1]?=some (.cells #[.bool n2,.slice A3 k3 c3,.bool false,.slice A4 k4 c4] 29 (0,0))/\Hid (n1=decide (x.num < 0))/\Hid (n2=decide (y.num < 0))/\Gs N wx (.slice A1 k1 c1) (dg x.num.natAbs)/\Gs N wx (.slice A2 k2 c2) (dg x.den)/\Gs N wx (.slice A3 k3 c3) (dg y.num.natAbs)/\Gs N wx (.slice A4 k4 c4) (dg y.den)/\w.heap.size+3<=wx.heap.size/\wx.heap[w.heap.size+1+1]?=some (.cells #[.bool false,.slice none 0 0,.bool false,.slice none 0 0] 29 (0,0)))
 case first =>
  have eC:=(Ext.refl W).drew
  go_region_with (first
   | (go_at_call_of 111 X1; refine (xh (by exact hI.ext (hE.trans eC)) HZ.out).mono ?_; intro e w1 hh; obtain⟨n1,A1,k1,c1,A2,k2,c2,rfl,hb1,g1,g2,e1⟩:=hh.form; replace eC:=eC.trans e1; have C0:=eC.block B0; have C1:=eC.block B1; obtain⟨p0,p1,p2,p3,p4,p5,p6,p7⟩:=cells4 C0; obtain⟨q0,q1,q2,q3,q4,q5,q6,q7⟩:=cells4 C1)
   | (go_at_call_of 111 Y1; refine (xh (by exact hI'.ext (hE.trans eC)) HZ'.out).mono ?_; intro e w2 hh; obtain⟨n2,A3,k3,c3,A4,k4,c4,rfl,hb2,g3,g4,e2⟩:=hh.form; replace eC:=eC.trans e2; have C0:=eC.block B0; have C1:=eC.block B1; obtain⟨p0,p1,p2,p3,p4,p5,p6,p7⟩:=cells4 C0; obtain⟨q0,q1,q2,q3,q4,q5,q6,q7⟩:=cells4 C1))
  all_goals
   go_wp2_with fail
   go_meet
   obtain⟨w3,E3,D0,U⟩:=ex4 C0 (.bool n1) (.slice A1 k1 c1) (.bool false) (.slice A2 k2 c2);rw [E3];obtain⟨w4,E4,D1,U'⟩:=ex4 (U.blk C1 (by omega)) (.bool n2) (.slice A3 k3 c3) (.bool false) (.slice A4 k4 c4);rw [E4];have hT0:=NoU.mk C0 (by decide);have hT1:=NoU.mk (U.blk C1 (by omega)) (by decide);refine⟨n1,A1,k1,c1,A2,k2,c2,n2,A3,k3,c3,A4,k4,c4,U'.ext (U.ext (hE.trans eC) (q_r)) (by omega),?_,U'.blk D0 (by omega),D1,hb1,hb2,((g1.ext e2).upd U (by omega) hT0).upd U' (by omega) hT1,((g2.ext e2).upd U (by omega) hT0).upd U' (by omega) hT1,(g3.upd U (by omega) hT0).upd U' (by omega) hT1,(g4.upd U (by omega) hT0).upd U' (by omega) hT1,(by rw [U'.size,U.size]; have:=eC.size; omega),U'.blk (U.blk (eC.block B2) (by omega)) (by omega)⟩;rw [U'.size,U.size]; have:=eC.size; omega
 case rest =>
  clear a0 a1 a2 a3 b0 b1 b2 b3 B0 B1 B2 hE hsz hI hI';obtain⟨n1,A1,k1,c1,A2,k2,c2,n2,A3,k3,c3,A4,k4,c4,hE,-,B0,B1,hb1,hb2,g1,g2,g3,g4,hsz,B2⟩:=hcut;obtain⟨a0,a1,a2,a3,-⟩:=cells4 B0;obtain⟨b0,b1,b2,b3,-⟩:=cells4 B1;obtain⟨sy,hsy⟩:=qf y.num.sign
  have t1:(sy == 0)=false:=by
   have:sy≠0:=by rw [hsy.out]; intro e; exact Y0.out (Int.sign_eq_zero_iff_zero.1 e)
   simpa using this
  go_wp2_with (go_at_call 110; refine q_o ?_);refine (QO (qK hb2 g3)).mono ?_;rintro e w4 ⟨rfl,e4⟩;rw [<-hsy.out];replace hE:=hE.trans e4;replace B0:=e4.block B0;replace B1:=e4.block B1;replace B2:=e4.block B2;replace hsz:=q_l hsz e4.size;replace g1:=g1.ext e4;replace g2:=g2.ext e4;replace g3:=g3.ext e4;replace g4:=g4.ext e4;clear a0 a1 a2 a3 b0 b1 b2 b3;obtain⟨a0,a1,a2,a3,-⟩:=cells4 B0;obtain⟨b0,b1,b2,b3,-⟩:=cells4 B1;go_wp2;have eC:=(Ext.refl w4).drew
  go_region_held3 (fun w'=>(w'.cell? ⟨w.heap.size,0,none⟩=some (.bool n1)/\w'.cell? ⟨w.heap.size,1,none⟩=some (.slice A1 k1 c1)/\w'.cell? ⟨w.heap.size,2,none⟩=some (.bool false)/\w'.cell? ⟨w.heap.size,3,none⟩=some (.slice A2 k2 c2))/\(w'.cell? ⟨w.heap.size+1,0,none⟩=some (.bool n2)/\w'.cell? ⟨w.heap.size+1,1,none⟩=some (.slice A3 k3 c3)/\w'.cell? ⟨w.heap.size+1,2,none⟩=some (.bool false)/\w'.cell? ⟨w.heap.size+1,3,none⟩=some (.slice A4 k4 c4)))
   ((repeat' apply And.intro) <;> repeat with_reducible first | assumption | exact eC.cell (by assumption) | refine cell_far _ ?_ (by omega))
   (first
    | (go_at_call_of 113 A1; refine (Qe (by exact qK hb1 (g1.ext eC)) (by exact qJ (g4.ext eC)) (by have:=HZ.out.1; omega) (by rw [Int.natAbs_natCast]; have:=HZ'.out.2; omega)).mono ?_; rintro e w5 ⟨v5,rfl,h5,e5⟩; replace eC:=eC.trans e5)
    | (go_at_call_of 113 A2; refine (Qe (by exact qJ (g2.ext eC)) (by exact qK hb2 (g3.ext eC)) (by rw [Int.natAbs_natCast]; have:=HZ.out.2; omega) (by have:=HZ'.out.1; omega)).mono ?_; rintro e w6 ⟨v6,rfl,h6,e6⟩; replace eC:=eC.trans e6)
    | (go_at_call 199; refine (jK (by exact h5.ext e6) (by exact h6) D0.out (by have:=L1.out; omega) (by have:=L3.out; omega)).mono ?_; rw [HQ.out]; intro e w10 hh; obtain⟨n10,A10,k10,c10,A11,k11,c11,rfl,hb10,h10,h11,e10⟩:=hh.form; replace eC:=eC.trans e10; have D2:=eC.block B2; obtain⟨r0,r1,r2,r3,r4,r5,r6,r7⟩:=cells4 D2))
  go_wp2;obtain⟨w12,E12,F2,U⟩:=ex4 D2 (.bool n10) (.slice A10 k10 c10) (.bool false) (.slice A11 k11 c11);rw [E12];obtain⟨z0,z1,z2,z3,-⟩:=cells4 F2;refine bodyPost_ret (v:=.tuple #[.agg #[.bool n10,.slice A10 k10 c10,.bool false,.slice A11 k11 c11],.int .i64 0]) ?_ rfl ⟨_,rfl,qp.mk hb10 (h10.upd U (by omega) (NoU.mk D2 (by decide))) (h11.upd U (by omega) (NoU.mk D2 (by decide))),U.ext (hE.trans eC) (by omega)⟩;simp [results,Tryz.results152,z0,z1,z2,z3,go_sem]
theorem Sz.neg (h:Sz q):Sz (-q):=⟨by rw [Rat.neg_num,Int.natAbs_neg]; exact h.1,by rw [Rat.neg_den]; exact h.2⟩
theorem f_sub {v':Value} {y:Rat} (h:qp N w v x) (h':qp N w v' y) (hz:Sz x) (hz':Sz y) :
  Calls Tryz.prog 153 #[v,v'] w (yM N w (x - y)):=by
 obtain⟨q,hq⟩:=qf (x - y);rw [<-hq.out];have HQ:Hid (x + -y=q):=by rw [Hid,hq.out,Rat.sub_eq_add_neg]
 clear hq;have hI:=h;have hI':=h';have hN:=h.le;obtain⟨m1,X1,i1,d1,X2,i2,d2,rfl,hm1,gx1,gx2⟩:=h.parts;obtain⟨m2,Y1,i3,d3,Y2,i4,d4,rfl,hm2,gy1,gy2⟩:=h'.parts;have HZ:=q_h hz;have HZ':=q_h hz';clear hz hz' h h' gx1 gx2 gy1 gy2;go_enter Tryz.func153,Tryz.ntmps153;go_wp2;refine zK ?_;intro W hE hsz B0 B1 B2;obtain⟨a0,a1,a2,a3,-⟩:=cells4 B0;obtain⟨b0,b1,b2,b3,-⟩:=cells4 B1;have eC:=(Ext.refl W).drew
 go_region_held3 (fun w'=>(w'.cell? ⟨w.heap.size,0,none⟩=some (.bool m1)/\w'.cell? ⟨w.heap.size,1,none⟩=some (.slice X1 i1 d1)/\w'.cell? ⟨w.heap.size,2,none⟩=some (.bool false)/\w'.cell? ⟨w.heap.size,3,none⟩=some (.slice X2 i2 d2))/\(w'.cell? ⟨w.heap.size+1,0,none⟩=some (.bool m2)/\w'.cell? ⟨w.heap.size+1,1,none⟩=some (.slice Y1 i3 d3)/\w'.cell? ⟨w.heap.size+1,2,none⟩=some (.bool false)/\w'.cell? ⟨w.heap.size+1,3,none⟩=some (.slice Y2 i4 d4)))
  ((repeat' apply And.intro) <;> repeat with_reducible first | assumption | exact eC.cell (by assumption) | refine cell_far _ ?_ (by omega))
  (first
   | (go_at_call 200; refine (q4N (by exact hI'.ext (hE.trans eC)) HZ'.out).mono ?_; rintro e w5 ⟨v5,rfl,h5,e5⟩; replace eC:=eC.trans e5)
   | (go_at_call 154; refine (f_add (by exact hI.ext (hE.trans eC)) (by exact h5) HZ.out HZ'.out.neg).mono ?_; rw [HQ.out]; intro e w7 hh; obtain⟨n7,A7,k7,c7,A8,k8,c8,rfl,hb7,h7,h8,e7⟩:=hh.form; replace eC:=eC.trans e7; obtain⟨r0,r1,r2,r3,r4,r5,r6,r7⟩:=cells4 (eC.block B2)))
 go_wp2;exact qM rfl rfl rfl (hE.trans eC) (eC.block B2) (by omega) hN h7 h8 hb7
structure Chg (lo hi:Nat) (w w':World):Prop where
 os:w'.os=w.os
 tape:w'.tape=w.tape
 output:w'.output=w.output
 size:w.heap.size<=w'.heap.size
 block:∀ k,k < w.heap.size->(k < lo\/hi<=k\/∃ cs fr,w.heap[k]?=some (.cells cs 152 fr))->w'.heap[k]?=w.heap[k]?
theorem Ext.chg (h:Ext w w') (lo hi:Nat):Chg lo hi w w':=by
 have h':Below w.heap.size w w':=h;exact⟨h'.os,h'.tape,h'.output,h'.size,fun k hk _=>h'.block k hk⟩
theorem Chg.refl (lo hi:Nat) (w:World):Chg lo hi w w:=(Ext.refl w).chg lo hi
theorem Chg.trans {a b c:World} (h:Chg lo hi a b) (h':Chg lo hi b c):Chg lo hi a c :=
 ⟨h'.os.trans h.os,h'.tape.trans h.tape,h'.output.trans h.output,q_l h.size h'.size,fun k hk hc=>by
  have e:=h.block k hk hc;rw [<-e];refine h'.block k (Nat.lt_of_lt_of_le hk h.size) ?_
  rcases hc with hc | hc | ⟨cs,fr,hc⟩
  ·exact .inl hc
  ·exact .inr (.inl hc)
  ·exact .inr (.inr ⟨cs,fr,e.trans hc⟩)⟩
theorem Chg.wide {lo' hi':Nat} (h:Chg lo hi w w') (h1:lo'<=lo) (h2:hi<=hi'):Chg lo' hi' w w' :=
 ⟨h.os,h.tape,h.output,h.size,fun k hk hc=>h.block k hk (hc.imp (fun h=>by omega) (fun h=>h.imp (fun h=>by omega) id))⟩
theorem Upd.chg (h:Upd g w w') (ht:NoU w g):Chg g (g+1) w w' :=
 ⟨h.os,h.tape,h.output,by rw [h.size]; exact q_r,fun k _ hc=>h.block k (by
  rintro rfl
  rcases hc with hc | hc | ⟨cs,fr,hc⟩
  ·omega
  ·omega
  ·exact ht cs fr hc)⟩
theorem Chg.ext {a:World} (h:Chg lo hi w w') (e:Ext a w) (hl:a.heap.size<=lo):Ext a w':=by
 have e':Below a.heap.size a w:=e;exact⟨h.os.trans e'.os,h.tape.trans e'.tape,h.output.trans e'.output,q_l e'.size h.size,fun k hk=>(h.block k (Nat.lt_of_lt_of_le hk e'.size) (.inl (by omega))).trans (e'.block k hk)⟩
theorem qI {o:Obj} (h:w.heap[k]?=some o):k < w.heap.size:=by
 rcases Nat.lt_or_ge k w.heap.size with h1 | h1
 ·exact h1
 ·rw [Array.getElem?_eq_none h1] at h; cases h
theorem Chg.blk (h:Chg lo hi w w') {o:Obj} (hk:w.heap[k]?=some o) (hc:k < lo\/hi<=k):w'.heap[k]?=some o :=
 (h.block k (qI hk) (hc.imp id .inl)).trans hk
theorem cell_lt {p:Addr} (h:w.cell? p=some v):p.block < w.heap.size:=World.block_lt_of_cell? w p h
theorem Chg.cell (h:Chg lo hi w w') {p:Addr} (hp:w.cell? p=some v) (hc:p.block < lo\/hi<=p.block):w'.cell? p=some v:=by
 have e:=h.block p.block (cell_lt hp) (hc.imp id .inl);rw [World.cell?_of_block (w:=w) e]; exact hp
theorem Gs.chg (h:Gs N w v l) (c:Chg lo hi w w') (hN:N<=lo):Gs N w' v l:=by
 obtain⟨hN',A,n,k,hv,h1,h2,h3,h4,h5⟩:=h;refine⟨q_l hN' c.size,A,n,k,hv,h1,h2,h3,h4,fun hn=>?_⟩;obtain⟨b,off,hA,⟨hs1,hs2⟩,hc⟩:=h5 hn;have e:w'.heap[b]?=w.heap[b]?:=c.block b hs1 (hs2.imp (fun h=>by omega) (fun h=>.inr h));refine⟨b,off,hA,⟨Nat.lt_of_lt_of_le hs1 c.size,?_⟩,fun i hi=>by rw [World.cell?_of_block (w:=w) e]; exact hc i hi⟩
 rcases hs2 with hs2 | ⟨cs,fr,hs2⟩
 ·exact .inl hs2
 ·exact .inr ⟨cs,fr,e.trans hs2⟩
theorem xy.chg (h:xy N w v R) (c:Chg lo hi w w') (hN:N<=lo):xy N w' v R:=by
 obtain⟨s,t,hv,h1,h2⟩:=h; exact⟨s,t,hv,h1.chg c hN,h2.chg c hN⟩
theorem qp.chg (h:qp N w v q) (c:Chg lo hi w w') (hN:N<=lo):qp N w' v q:=xy.chg h c hN
def At4 (N:Nat) (w:World) (b o:Nat) (R:Raw):Prop :=
 ∃ s t,w.cell? ⟨b,o,none⟩=some (.bool R.b1)/\w.cell? ⟨b,o+1,none⟩=some s/\w.cell? ⟨b,o+2,none⟩=some (.bool R.b2)/\w.cell? ⟨b,o+3,none⟩=some t/\Gs N w s R.l1/\Gs N w t R.l2
theorem At4.move {o:Nat} (h:At4 N w b o R) (hc:∀ k v,w.cell? ⟨b,k,none⟩=some v->w'.cell? ⟨b,k,none⟩=some v) (hg:∀ v l,Gs N w v l->Gs N w' v l):At4 N w' b o R:=by
 obtain⟨s,t,h0,h1,h2,h3,g1,g2⟩:=h;exact⟨s,t,hc _ _ h0,hc _ _ h1,hc _ _ h2,hc _ _ h3,hg _ _ g1,hg _ _ g2⟩
theorem At4.ext {o:Nat} (h:At4 N w b o R) (e:Ext w w'):At4 N w' b o R:=h.move (fun _ _ h=>e.cell h) (fun _ _ h=>h.ext e)
theorem At4.chg {o:Nat} (h:At4 N w b o R) (c:Chg lo hi w w') (hN:N<=lo) (hb:b < lo\/hi<=b):At4 N w' b o R :=
 h.move (fun k _ h=>c.cell (p:=⟨b,k,none⟩) h hb) (fun _ _ h=>h.chg c hN)
theorem At4.val {o:Nat} (h:At4 N w b o R):∃ (A:Option Addr) (n c:Nat) (A':Option Addr) (n' c':Nat),w.cell? ⟨b,o,none⟩=some (.bool R.b1)/\w.cell? ⟨b,o+1,none⟩=some (.slice A n c)/\w.cell? ⟨b,o+2,none⟩=some (.bool R.b2)/\w.cell? ⟨b,o+3,none⟩=some (.slice A' n' c')/\xy N w (.agg #[.bool R.b1,.slice A n c,.bool R.b2,.slice A' n' c']) R:=by
 obtain⟨s,t,h0,h1,h2,h3,g1,g2⟩:=h;obtain⟨A,n,c,rfl,-,-,-⟩:=g1.form;obtain⟨A',n',c',rfl,-,-,-⟩:=g2.form;exact⟨A,n,c,A',n',c',h0,h1,h2,h3,_,_,rfl,g1,g2⟩
def LsR (N lo hi:Nat) (w:World) (v:Value) (n:Nat) (R:Nat->Raw):Prop :=
 N<=w.heap.size/\hi<=w.heap.size/\∃ (A:Option Addr) (c:Nat),v=.slice A n c/\n<=c/\c<=maxLen /\
  (0 < n->∃ b off,A=some ⟨b,off,none⟩/\lo<=b/\b < hi/\∀ i,i < n->At4 N w b (off+i*4) (R i))
theorem LsR.le {R:Nat->Raw} (h:LsR N lo hi w v n R):N<=w.heap.size:=h.1
theorem LsR.ext {R:Nat->Raw} (h:LsR N lo hi w v n R) (e:Ext w w'):LsR N lo hi w' v n R:=by
 obtain⟨h1,h2,A,c,hv,h3,h4,h5⟩:=h;refine⟨q_l h1 e.size,q_l h2 e.size,A,c,hv,h3,h4,fun hn=>?_⟩;obtain⟨b,off,hA,hl,hh,hx⟩:=h5 hn;exact⟨b,off,hA,hl,hh,fun i hi=>(hx i hi).ext e⟩
theorem LsR.wide {lo' hi':Nat} {R:Nat->Raw} (h:LsR N lo hi w v n R) (h1:lo'<=lo) (h2:hi<=hi') (h3:hi'<=w.heap.size):LsR N lo' hi' w v n R:=by
 obtain⟨a1,a2,A,c,hv,a3,a4,a5⟩:=h;refine⟨a1,h3,A,c,hv,a3,a4,fun hn=>?_⟩;obtain⟨b,off,hA,hl,hh,hx⟩:=a5 hn;exact⟨b,off,hA,by omega,by omega,hx⟩
theorem LsR.form {R:Nat->Raw} (h:LsR N lo hi w v n R):∃ (A:Option Addr) (c:Nat),v=.slice A n c/\n<=c/\c<=maxLen:=by
 obtain⟨a1,a2,A,c,hv,a3,a4,a5⟩:=h;exact⟨A,c,hv,a3,a4⟩
theorem LsR.addr {R:Nat->Raw} (h:LsR N lo hi w (.slice A n c) n R) (hn:0 < n):∃ b off,A=some ⟨b,off,none⟩/\lo<=b/\b < hi/\∀ i,i < n->At4 N w b (off+i*4) (R i):=by
 obtain⟨a1,a2,A,c,hv,a3,a4,a5⟩:=h;injection hv with e1 e2 e3
 subst e1;exact a5 hn
def LsV (N lo hi:Nat) (w:World) (v:Value) (n:Nat) (x:Nat->Rat):Prop:=LsR N lo hi w v n (fun i=>raw (x i))
def MtR (N lo hi:Nat) (w:World) (v:Value) (m:Nat) (L:Nat->Nat) (R:Nat->Nat->Raw):Prop :=
 N<=w.heap.size/\hi<=w.heap.size/\∃ (A:Option Addr) (c:Nat),v=.slice A m c/\m<=c/\c<=maxLen /\
  (0 < m->∃ b off,A=some ⟨b,off,none⟩/\lo<=b/\b < hi/\∀ i,i < m->∃ u,w.cell? ⟨b,off+i,none⟩=some u/\LsR N lo hi w u (L i) (R i))
theorem MtR.wide {lo' hi':Nat} {L:Nat->Nat} {R:Nat->Nat->Raw} (h:MtR N lo hi w v m L R) (h1:lo'<=lo) (h2:hi<=hi') (h3:hi'<=w.heap.size):MtR N lo' hi' w v m L R:=by
 obtain⟨a1,a2,A,c,hv,a3,a4,a5⟩:=h;refine⟨a1,h3,A,c,hv,a3,a4,fun hn=>?_⟩;obtain⟨b,off,hA,hl,hh,hx⟩:=a5 hn;refine⟨b,off,hA,by omega,by omega,fun i hi=>?_⟩;obtain⟨u,hu,hr⟩:=hx i hi;exact⟨u,hu,hr.wide h1 h2 h3⟩
theorem MtR.addr {L:Nat->Nat} {R:Nat->Nat->Raw} (h:MtR N lo hi w (.slice A m c) m L R) (hm:0 < m):∃ b off,A=some ⟨b,off,none⟩/\lo<=b/\b < hi/\∀ i,i < m->∃ (A':Option Addr) (c':Nat),w.cell? ⟨b,off+i,none⟩=some (.slice A' (L i) c')/\L i<=c'/\c'<=maxLen/\LsR N lo hi w (.slice A' (L i) c') (L i) (R i):=by
 obtain⟨a1,a2,A,c,hv,a3,a4,a5⟩:=h;injection hv with e1 e2 e3
 subst e1;obtain⟨b,off,hA,hl,hh,hx⟩:=a5 hm;refine⟨b,off,hA,hl,hh,fun i hi=>?_⟩;obtain⟨u,hu,hr⟩:=hx i hi;obtain⟨A',c',rfl,h6,h7⟩:=hr.form;exact⟨A',c',hu,h6,h7,hr⟩
def MtV (N lo hi:Nat) (w:World) (v:Value) (m n:Nat) (A:Nat->Nat->Rat):Prop:=MtR N lo hi w v m (fun _=>n) (fun i j=>raw (A i j))
theorem zJ {row:Option Nat} (h:w.grownBy w' row) (hg:∀ k,row=some k->k=g) (ht:NoU w g):Chg g (g+1) w w':=by
 have hb:=(Below.refl w.heap.size w)
 refine⟨h.os,h.tape,h.output,h.size,fun k hk hc=>h.block k hk (fun e=>?_)⟩;have:=hg k e.symm;subst this
 rcases hc with hc | hc | ⟨cs,fr,hc⟩
 ·omega
 ·omega
 ·exact ht cs fr hc
theorem st4 {o:Nat} {cs:Array Value} {t:TypeId} (hb:w.heap[b]?=some (.cells cs t (0,0))) (ho:o+4<=cs.size) (v0 v1 v2 v3:Value) :
  ∃ w' cs',(((w.setCell ⟨b,o,none⟩ v0).setCell ⟨b,o+1,none⟩ v1).setCell ⟨b,o+2,none⟩ v2).setCell ⟨b,o+3,none⟩ v3=w'/\Upd b w w'/\w'.heap[b]?=some (.cells cs' t (0,0))/\cs'.size=cs.size /\
   (∀ k,k < o\/o+4<=k->cs'[k]?=cs[k]?)/\cs'[o]?=some v0/\cs'[o+1]?=some v1/\cs'[o+2]?=some v2/\cs'[o+3]?=some v3:=by
 refine⟨_,_,rfl,((((Upd.refl b w).set o v0).set (o+1) v1).set (o+2) v2).set (o+3) v3,heap_set (heap_set (heap_set (heap_set hb o v0) (o+1) v1) (o+2) v2) (o+3) v3,by simp,fun k hk=>?_,?_,?_,?_,?_⟩
 ·rw [Array.getElem?_setIfInBounds_ne (by omega),Array.getElem?_setIfInBounds_ne (by omega),Array.getElem?_setIfInBounds_ne (by omega),Array.getElem?_setIfInBounds_ne (by omega)]
 ·rw [Array.getElem?_setIfInBounds_ne (by omega),Array.getElem?_setIfInBounds_ne (by omega),Array.getElem?_setIfInBounds_ne (by omega),Array.getElem?_setIfInBounds_self_of_lt (by omega)]
 ·rw [Array.getElem?_setIfInBounds_ne (by omega),Array.getElem?_setIfInBounds_ne (by omega),Array.getElem?_setIfInBounds_self_of_lt (by simp; omega)]
 ·rw [Array.getElem?_setIfInBounds_ne (by omega),Array.getElem?_setIfInBounds_self_of_lt (by simp; omega)]
 ·rw [Array.getElem?_setIfInBounds_self_of_lt (by simp; omega)]
def xG (N:Nat) (w:World) (b k n:Nat) (x:Nat->Rat):Prop :=
 N<=b/\n<=k/\(∃ cs,w.heap[b]?=some (.cells cs 29 (0,0))/\cs.size=k*4)/\∀ j,j < n->At4 N w b (j*4) (raw (x j))
theorem xG.lt {x:Nat->Rat} (h:xG N w b k n x):b < w.heap.size:=by
 obtain⟨-,-,⟨cs,h2,-⟩,-⟩:=h; exact qI h2
theorem xG.noU {x:Nat->Rat} (h:xG N w b k n x):NoU w b:=by
 obtain⟨-,-,⟨cs,h2,-⟩,-⟩:=h; exact NoU.mk h2 (by decide)
theorem xG.frozen {x:Nat->Rat} (h:xG N w b k n x) (o:Nat):w.frozen? ⟨b,o,none⟩=false:=by
 obtain⟨-,-,⟨cs,h2,-⟩,-⟩:=h; exact zB h2 o
theorem xG.there {x:Nat->Rat} (h:xG N w b k n x) {o:Nat} (ho:o < k*4):∃ u,w.cell? ⟨b,o,none⟩=some u:=by
 obtain⟨-,-,⟨cs,h2,h3⟩,-⟩:=h;rw [qg h2];exact⟨_,Array.getElem?_eq_getElem (by omega)⟩
theorem xG.ext {x:Nat->Rat} (h:xG N w b k n x) (e:Ext w w'):xG N w' b k n x:=by
 obtain⟨h1,h0,⟨cs,h2,h3⟩,h4⟩:=h;exact⟨h1,h0,⟨cs,e.block h2,h3⟩,fun j hj=>(h4 j hj).ext e⟩
theorem xG.chg {x:Nat->Rat} (h:xG N w b k n x) (c:Chg lo hi w w') (hN:N<=lo) (hb:b < lo\/hi<=b):xG N w' b k n x:=by
 obtain⟨h1,h0,⟨cs,h2,h3⟩,h4⟩:=h;exact⟨h1,h0,⟨cs,c.blk h2 hb,h3⟩,fun j hj=>(h4 j hj).chg c hN hb⟩
theorem xG.congr {x y:Nat->Rat} (h:xG N w b k n x) (he:∀ j,j < n->x j=y j):xG N w b k n y:=by
 obtain⟨h1,h0,h2,h4⟩:=h;exact⟨h1,h0,h2,fun j hj=>by rw [<-he j hj]; exact h4 j hj⟩
def upd (x:Nat->Rat) (i:Nat) (q:Rat) (j:Nat):Rat:=if j=i then q else x j
theorem upd_same (x:Nat->Rat) (i:Nat) (q:Rat):upd x i q i=q:=by simp [upd]
theorem upd_ne (x:Nat->Rat) (q:Rat) (h:j≠i):upd x i q j=x j:=by simp [upd,h]
theorem xG.set {x:Nat->Rat} (h:xG N w b k n x) (hi:i < k) (hin:i<=n) {neg:Bool} {t:Value} (hneg:Hid (neg=decide (q.num < 0))) (hs:Gs N w s (dg q.num.natAbs)) (ht:Gs N w t (dg q.den)) :
  ∃ w',(((w.setCell ⟨b,i*4,none⟩ (.bool neg)).setCell ⟨b,i*4+1,none⟩ s).setCell ⟨b,i*4+2,none⟩ (.bool false)).setCell ⟨b,i*4+3,none⟩ t=w'/\Chg b (b+1) w w'/\w'.heap.size=w.heap.size/\xG N w' b k (max n (i+1)) (upd x i q):=by
 obtain⟨h1,h0,⟨cs,h2,h3⟩,h4⟩:=h;obtain⟨w',cs',E,U,hb,hsz,hoth,c0,c1,c2,c3⟩:=st4 (o:=i*4) h2 (by omega) (.bool neg) s (.bool false) t;have c:=U.chg (NoU.mk h2 (by decide));refine⟨w',E,c,U.size,h1,by omega,⟨cs',hb,by omega⟩,fun j hj=>?_⟩
 by_cases hji:j=i
 ·subst hji;rw [upd_same];refine⟨s,t,?_,?_,?_,?_,hs.chg c (by omega),ht.chg c (by omega)⟩
  ·rw [qg hb,c0,hneg.out]; rfl
  ·rw [qg hb,c1]
  ·rw [qg hb,c2]; rfl
  ·rw [qg hb,c3]
 ·rw [upd_ne x q hji];obtain⟨s',t',d0,d1,d2,d3,g1,g2⟩:=h4 j (by omega);rw [qg h2] at d0 d1 d2 d3;refine⟨s',t',?_,?_,?_,?_,g1.chg c (by omega),g2.chg c (by omega)⟩ <;> rw [qg hb,hoth _ (by omega)] <;> assumption
theorem xG.lsv {x:Nat->Rat} (h:xG N w b k n x) (hc:n<=c) (hm:c<=maxLen) (h1:lo<=b) (h2:b < hi) (h3:hi<=w.heap.size):LsV N lo hi w (.slice (some ⟨b,0,none⟩) n c) n x:=by
 have hl:=h.lt;obtain⟨a1,a0,-,a4⟩:=h;refine⟨by omega,h3,_,c,rfl,hc,hm,fun _=>⟨b,0,rfl,h1,h2,fun i hi=>?_⟩⟩;rw [Nat.zero_add]; exact a4 i hi
theorem YG:(Tryz.prog.info? 29).map (fun i=>(i.zero,i.size,i.bytes))=some (some (.agg #[.bool false,.slice none 0 0,.bool false,.slice none 0 0]),4,64):=by kernel_rfl
theorem q1t:(Tryz.prog.info? 45).map (fun i=>(i.zero,i.size,i.bytes))=some (some (.slice none 0 0),1,24):=by kernel_rfl
def Grow (N base:Nat) (w:World) (v:Value) (n:Nat) (x:Nat->Rat):Prop :=
 N<=base/\base<=w.heap.size/\((v=.slice none 0 0/\n=0)\/∃ g cap,v=.slice (some ⟨g,0,none⟩) n cap/\base<=g/\cap<=maxLen/\xG N w g cap n x)
theorem Grow.nil (h1:N<=base) (h2:base<=w.heap.size) (x:Nat->Rat):Grow N base w (.slice none 0 0) 0 x:=⟨h1,h2,.inl ⟨rfl,rfl⟩⟩
theorem Grow.form {x:Nat->Rat} (h:Grow N base w v n x):∃ A c,v=.slice A n c/\n<=c:=by
 obtain⟨-,-,⟨rfl,rfl⟩ | ⟨g,cap,rfl,-,-,hr⟩⟩:=h
 ·exact⟨_,_,rfl,q_r⟩
 ·exact⟨_,_,rfl,hr.2.1⟩
theorem Grow.ext {x:Nat->Rat} (h:Grow N base w v n x) (e:Ext w w'):Grow N base w' v n x:=by
 obtain⟨h1,h2,h3⟩:=h;refine⟨h1,q_l h2 e.size,?_⟩
 rcases h3 with h3 | ⟨g,cap,hv,hg,hm,hr⟩
 ·exact .inl h3
 ·exact .inr ⟨g,cap,hv,hg,hm,hr.ext e⟩
theorem Grow.congr {x y:Nat->Rat} (h:Grow N base w v n x) (he:∀ j,j < n->x j=y j):Grow N base w v n y:=by
 obtain⟨h1,h2,h3⟩:=h;refine⟨h1,h2,?_⟩
 rcases h3 with h3 | ⟨g,cap,hv,hg,hm,hr⟩
 ·exact .inl h3
 ·exact .inr ⟨g,cap,hv,hg,hm,hr.congr he⟩
theorem Grow.lsv {x:Nat->Rat} (h:Grow N base w v n x) (h1:lo<=base) (h2:hi=w.heap.size):LsV N lo hi w v n x:=by
 subst h2;obtain⟨a1,a2,⟨rfl,rfl⟩ | ⟨g,cap,rfl,hg,hm,hr⟩⟩:=h
 ·exact⟨by omega,q_r,none,0,rfl,q_r,Nat.zero_le _,fun h=>absurd h (by omega)⟩
 ·exact hr.lsv hr.2.1 hm (by omega) hr.lt (q_r)
theorem Xf {cap:Nat} {x:Nat->Rat} (h:xG N w g cap n x) (hm:cap<=maxLen) (hb:base<=g):∃ xs,w.ownsRow base 29 4 (.slice (some ⟨g,0,none⟩) n cap) n xs/\∀ k,k < n*4->xs[k]?=w.cell? ⟨g,k,none⟩:=by
 obtain⟨h1,h0,⟨cs,h2,h3⟩,h4⟩:=h;refine⟨cs.toList.take (n*4),⟨by rw [List.length_take]; simp; omega,.inr ⟨g,cap,cs,rfl,hb,h2,h0,hm,h3,rfl⟩⟩,fun k hk=>?_⟩;rw [List.getElem?_take,if_pos hk,qg h2]; simp
theorem yw (t ty:TypeId) (ht:Tryz.prog.underlying t=some (.slice 29)) {x:Nat->Rat} (h:Grow N base w v n x)
 {neg:Bool} {u:Value} {fr:Nat×Nat} (hb:w.heap[b]?=some (.cells #[.bool neg,s,.bool false,u] 29 fr)) (hneg:Hid (neg=decide (q.num < 0))) (hs:Gs N w s (dg q.num.natAbs)) (hu:Gs N w u (dg q.den)) (hn:n < 1000000000) :
  ∃ g cap w',(Builtin.append_ #[t,t] ty #[v,.slice (some ⟨b,0,none⟩) 1 1]).run Tryz.prog w=.ok (.slice (some ⟨g,0,none⟩) (n+1) cap) w'/\Grow N base w' (.slice (some ⟨g,0,none⟩) (n+1) cap) (n+1) (upd x n q)/\(∃ g',base<=g'/\Chg g' (g'+1) w w'/\NoU w g')/\g < w'.heap.size:=by
 obtain⟨i0,hi0,hz0,hz1,hz2⟩:=info_parts YG;obtain⟨h1,h2,h3⟩:=h
 have hown:∃ xs,w.ownsRow base 29 4 v n xs/\∀ g k,v.ownBlock=some g->k < n*4->xs[k]?=w.cell? ⟨g,k,none⟩:=by
  rcases h3 with ⟨rfl,rfl⟩ | ⟨g,cap,rfl,hg,hm,hr⟩
  ·exact⟨[],⟨by simp,.inl ⟨rfl,rfl⟩⟩,fun g k hg hk=>by omega⟩
  ·obtain⟨xs,hx,hc⟩:=Xf hr hm hg
   exact⟨xs,hx,fun g' k hg' hk=>by
    have:g=g':=by simpa [Value.ownBlock] using hg'
    subst this; exact hc k hk⟩
 obtain⟨xs,hown,hcell⟩:=hown;obtain⟨As,ns,cs0,rfl,-,-,-⟩:=hs.form;obtain⟨Au,nu,cu,rfl,-,-,-⟩:=hu.form
 obtain⟨g,cap,w',hrun,ho,hgr,hat,hlt⟩:=run_append_lies (P:=Tryz.prog) w t ty base 29 i0 _ 4 64 ht hi0 hz0 hz1 hz2 rfl (by omega) v n xs hown ⟨b,0,none⟩ 1 1 [.bool neg,.slice As ns cs0,.bool false,.slice Au nu cu] rfl
  (fun j u hj=>by
   have e:(⟨b,0,none⟩:Addr).add j=⟨b,j,none⟩:=by
    unfold Addr.add; split
    ·rename_i e; subst e; rfl
    ·simp
   rw [e,qg hb]
   simpa using hj)
  (fun u hu=>by simp at hu; rcases hu with rfl | rfl | rfl | rfl <;> rfl) (by omega) (by unfold maxLen; omega) (by omega) h2 w.heap.size rfl
 have hchg:∃ g',base<=g'/\Chg g' (g'+1) w w'/\NoU w g':=by
  rcases h3 with ⟨rfl,rfl⟩ | ⟨g0,cap0,rfl,hg,hm,hr⟩
  ·have hT:NoU w w.heap.size:=fun cs fr h=>by rw [Array.getElem?_eq_none (q_r)] at h; cases h
   exact⟨w.heap.size,h2,zJ hgr (fun k hk=>by simp [Value.ownBlock] at hk) hT,hT⟩
  ·exact⟨g0,hg,zJ hgr (fun k hk=>by simpa [Value.ownBlock] using hk.symm) hr.noU,hr.noU⟩
 refine⟨g,cap,w',hrun,⟨h1,q_l h2 hgr.size,.inr ⟨g,cap,rfl,?_,?_,?_⟩⟩,hchg,hlt⟩
 ·rcases ho.2 with ⟨h,_⟩ | ⟨g2,cap2,cur,hv,hbg,_⟩
  ·cases h
  ·injection hv with e1 _ _; injection e1 with e1; injection e1 with e1 _; omega
 ·rcases ho.2 with ⟨h,_⟩ | ⟨g2,cap2,cur,hv,hbg,_,_,hcm,_⟩
  ·cases h
  ·injection hv with _ _ e3; subst e3; exact hcm
 ·rcases ho.2 with ⟨h,_⟩ | ⟨g2,cap2,cur,hv,hbg,hh,hnc,hcm,hcs,htk⟩
  ·cases h
  ·injection hv with e1 _ e3
   injection e1 with e1
   injection e1 with e1 _
   subst e1 e3;obtain⟨g',hg',hc,hT⟩:=hchg;have hNg:N<=g':=by omega
   have hx:∀ k,k < (n+1)*4->w'.cell? ⟨g,k,none⟩=(xs ++ [.bool neg,.slice As ns cs0,.bool false,.slice Au nu cu])[k]?:=by
    intro k hk;rw [qg hh,<-htk,List.getElem?_take,if_pos hk]; simp
   have hxl:xs.length=n*4:=hown.1;refine⟨by omega,hnc,⟨cur,hh,hcs⟩,fun j hj=>?_⟩
   by_cases hjn:j=n
   ·subst hjn;rw [upd_same];refine⟨.slice As ns cs0,.slice Au nu cu,?_,?_,?_,?_,hs.chg hc hNg,hu.chg hc hNg⟩
    ·rw [hx _ (by omega),List.getElem?_append_right (by omega),show j*4 - xs.length=0 by omega,hneg.out]; rfl
    ·rw [hx _ (by omega),List.getElem?_append_right (by omega),show j*4+1 - xs.length=1 by omega]; rfl
    ·rw [hx _ (by omega),List.getElem?_append_right (by omega),show j*4+2 - xs.length=2 by omega]; rfl
    ·rw [hx _ (by omega),List.getElem?_append_right (by omega),show j*4+3 - xs.length=3 by omega]; rfl
   ·rw [upd_ne x q hjn]
    rcases h3 with ⟨rfl,rfl⟩ | ⟨g0,cap0,rfl,hg,hm,hr⟩
    ·omega
    ·obtain⟨s',t',d0,d1,d2,d3,g1,g2⟩:=hr.2.2.2 j (by omega)
     have hy:∀ k,k < n*4->w'.cell? ⟨g,k,none⟩=w.cell? ⟨g0,k,none⟩:=fun k hk=>by
      rw [hx k (by omega),List.getElem?_append_left (by omega),hcell g0 k rfl hk]
     exact⟨s',t',(hy _ (by omega)).trans d0,(hy _ (by omega)).trans d1,(hy _ (by omega)).trans d2,(hy _ (by omega)).trans d3,g1.chg hc hNg,g2.chg hc hNg⟩
end Go.Proofs.YtphpkhoeplcedaaGreat
namespace Go.Proofs.YtphpkhoeplcedaaGreat
variable {w w':World} {N n lo hi k g i m base c b j:Nat} {v s:Value} {l:List Nat} {q x:Rat} {R:Raw} {A:Option Addr}
section
variable {P:Program} {ops:Array Oper} {Q:Exit->Act->World->Prop} {S:World->Prop} {late:List Nat}
def kE (ops:Array Oper) (i:Nat):List Nat :=
 match ops[i]? with
 | some o=>(o.after.toList.filter (fun e=>Region.binds .any e)).map (·.on)
 | none=>[]
def sweep (ops:Array Oper):Nat->List Nat->List Nat
 | 0,s=>s
 | i+1,s=>sweep ops i (if s.contains i then kE ops i ++ s else s)
def jw (ops:Array Oper) (late:List Nat) (i:Nat):Bool :=
 !late.contains i && late.all fun t=>(sweep ops t (kE ops t)).contains i
def Closed (ops:Array Oper) (listed:Array Bool):Prop:=∀ i,listed.getD i false=true->∀ j∈kE ops i,listed.getD j false=true
theorem zZ {listed:Array Bool} (h:i∈Region.ready .any ops listed):∀ j∈kE ops i,listed.getD j false=true:=by
 obtain⟨_,o,ho,hall⟩:=mem_ready.1 h;intro j hj;unfold kE at hj;rw [ho] at hj;simp only [List.mem_map,List.mem_filter] at hj;obtain⟨e,⟨he,hb⟩,rfl⟩:=hj;exact hall e (by simpa using he) hb
theorem Closed.start (n:Nat):Closed ops (Array.replicate n false):=by
 intro i hi
 exfalso
 rw [Array.getD_eq_getD_getElem?,Array.getElem?_replicate] at hi
 split at hi <;> simp at hi
theorem Closed.set {listed:Array Bool} (h:Closed ops listed) (hi:i∈Region.ready .any ops listed):Closed ops (listed.setIfInBounds i true):=by
 intro k hk j hj
 by_cases hki:i=k
 ·subst hki; exact getD_set_true (zZ hi j hj)
 ·rw [Go.getD_set_ne false hki] at hk; exact getD_set_true (h k hk j hj)
theorem xI {listed:Array Bool} (h:Closed ops listed):∀ (n:Nat) (s:List Nat),(∀ j∈s,listed.getD j false=true)->∀ j∈sweep ops n s,listed.getD j false=true
 | 0,_,hs=>hs
 | n+1,s,hs=>by
  unfold sweep;refine xI h n _ ?_
  split
  ·rename_i hc
   intro j hj
   rcases List.mem_append.1 hj with h1 | h1
   ·exact h n (hs n (by simpa using hc)) j h1
   ·exact hs j h1
  ·exact hs
theorem kU (hl:jw ops late i=true) {listed:Array Bool} (h:Closed ops listed) {t:Nat} (ht:t∈Region.ready .any ops listed) (htl:late.contains t=true):listed.getD i false=true:=by
 unfold jw at hl;rw [Bool.and_eq_true] at hl;have h2:=List.all_eq_true.1 hl.2 t (by simpa using htl);exact xI h t _ (zZ ht) i (by simpa using h2)
def Je (P:Program) (ops:Array Oper) (Q:Exit->Act->World->Prop) (S:World->Prop) (late:List Nat):Nat->Array Bool->Act->World->Prop
 | 0,listed,a,w=>Region.ready .any ops listed=[]/\Q .normal a w
 | fuel+1,listed,a,w =>
  (Region.ready .any ops listed=[]->Q .normal a w) /\
  ∀ i∈Region.ready .any ops listed,wpOp P ops Q i (fun a' w'=>(late.contains i=false->S w->S w')/\Je P ops Q S late fuel (listed.setIfInBounds i true) a' w') a w
theorem xE:∀ (fuel:Nat) (listed:Array Bool) (a:Act) (w:World),Je P ops Q S late fuel listed a w->wpAny P .any ops Q fuel listed a w
 | 0,_,_,_,h=>h
 | fuel+1,_,_,_,h=>⟨h.1,fun i hi=>wpOp_mono (fun a' w' h'=>xE fuel _ a' w' h'.2) (h.2 i hi)⟩
theorem jF {listed:Array Bool} (h:i∈Region.ready .any ops listed):listed.getD i false=false:=by
 have h0:=(mem_ready.1 h).1
 rcases Nat.lt_or_ge i listed.size with h' | h'
 ·simp [h'] at h0 ⊢; exact h0
 ·simp [Array.getElem?_eq_none h']
theorem Zy {oi:Oper} (hi:ops[i]?=some oi) (hl:jw ops late i=true) (hsel:∀ (j:Nat) (o:Oper) cs b,ops[j]?=some o->o.op≠.select cs b)
  (hQ:∀ c a w,Q (.panic c) (a.put oi.dst v) w->Q (.panic c) a w) :
  ∀ (fuel:Nat) (listed:Array Bool) (a:Act) (w:World),Closed ops listed ->
   (∀ j oj,ops[j]?=some oj->j≠i->listed.getD j true=false->(∀ e∈oj.after,Region.binds .any e=true->e.on≠i)->oi.apart ops oj=true) ->
   i∈Region.ready .any ops listed->YieldsIf P ops S oi v a->S w ->
   Je P ops Q S late fuel (listed.setIfInBounds i true) (a.put oi.dst v) w->Je P ops Q S late (fuel+1) listed a w:=by
 intro fuel
 induction fuel with
 | zero =>
  intro listed a w _ _ hr hy hS H;refine⟨fun h=>(by rw [h] at hr; cases hr),fun j hj=>?_⟩
  by_cases hji:j=i
  ·subst hji; exact hy.wpOp hi hS ⟨fun _ h=>h,H⟩
  ·have:=ready_mono hj hji;rw [H.1] at this;cases this
 | succ fuel ih =>
  intro listed a w hcl hfree hr hy hS H;refine⟨fun h=>(by rw [h] at hr; cases hr),fun j hj=>?_⟩
  by_cases hji:j=i
  ·subst hji; exact hy.wpOp hi hS ⟨fun _ h=>h,H⟩
  ·have h1:=H.2 j (ready_mono hj hji);obtain⟨hjun,oj,hoj,hall⟩:=mem_ready.1 hj;have hun:=jF hr
   have hjt:late.contains j=false:=by
    cases hc:late.contains j with
    | false=>rfl
    | true =>
     have:=kU hl hcl hj hc;rw [hun] at this; cases this
   have hnot:∀ e∈oj.after,Region.binds .any e=true->e.on≠i:=fun e he hb heq=>by
    have h2:=hall e he hb;rw [heq,hun] at h2;cases h2
   have h2:=wpOp_putIf hoj (hfree j oj hoj hji hjun hnot) (fun cs b=>hsel i oi cs b hi) (fun cs b=>hsel j oj cs b hoj) hQ hy h1
   have hfree':∀ k ok,ops[k]?=some ok->k≠i->(listed.setIfInBounds j true).getD k true=false ->
     (∀ e∈ok.after,Region.binds .any e=true->e.on≠i)->oi.apart ops ok=true:=fun k ok hk hki hun' hno=>by
    refine hfree k ok hk hki ?_ hno
    by_cases hjk:j=k
    ·subst hjk; exact hjun
    ·rw [Go.getD_set_ne true hjk] at hun'; exact hun'
   refine wpOp_mono (fun a' w' h3=>⟨h3.2.1,ih (listed.setIfInBounds j true) a' w' (hcl.set hj) hfree' (ready_mono hr (Ne.symm hji)) h3.1 (h3.2.1 hjt hS) ?_⟩) h2;rw [Array.setIfInBounds_comm _ _ hji];exact h3.2.2
theorem XW {oi:Oper} (hi:ops[i]?=some oi) (hsel:∀ (j:Nat) (o:Oper) cs b,ops[j]?=some o->o.op≠.select cs b)
  (hQ:∀ c a w,Q (.panic c) (a.put oi.dst v) w->Q (.panic c) a w) :
  ∀ (fuel:Nat) (listed:Array Bool) (a:Act) (w:World),
   (∀ j oj,ops[j]?=some oj->j≠i->listed.getD j true=false->(∀ e∈oj.after,Region.binds .any e=true->e.on≠i)->oi.apart ops oj=true) ->
   i∈Region.ready .any ops listed->YieldsIf P ops (fun _=>True) oi v a ->
   Je P ops Q S late fuel (listed.setIfInBounds i true) (a.put oi.dst v) w->Je P ops Q S late (fuel+1) listed a w:=by
 intro fuel
 induction fuel with
 | zero =>
  intro listed a w _ hr hy H;refine⟨fun h=>(by rw [h] at hr; cases hr),fun j hj=>?_⟩
  by_cases hji:j=i
  ·subst hji; exact hy.wpOp hi trivial ⟨fun _ h=>h,H⟩
  ·have:=ready_mono hj hji;rw [H.1] at this;cases this
 | succ fuel ih =>
  intro listed a w hfree hr hy H;refine⟨fun h=>(by rw [h] at hr; cases hr),fun j hj=>?_⟩
  by_cases hji:j=i
  ·subst hji; exact hy.wpOp hi trivial ⟨fun _ h=>h,H⟩
  ·have h1:=H.2 j (ready_mono hj hji);obtain⟨hjun,oj,hoj,hall⟩:=mem_ready.1 hj;have hun:=jF hr
   have hnot:∀ e∈oj.after,Region.binds .any e=true->e.on≠i:=fun e he hb heq=>by
    have h2:=hall e he hb;rw [heq,hun] at h2;cases h2
   have h2:=wpOp_putIf hoj (hfree j oj hoj hji hjun hnot) (fun cs b=>hsel i oi cs b hi) (fun cs b=>hsel j oj cs b hoj) hQ hy h1
   have hfree':∀ k ok,ops[k]?=some ok->k≠i->(listed.setIfInBounds j true).getD k true=false ->
     (∀ e∈ok.after,Region.binds .any e=true->e.on≠i)->oi.apart ops ok=true:=fun k ok hk hki hun' hno=>by
    refine hfree k ok hk hki ?_ hno
    by_cases hjk:j=k
    ·subst hjk; exact hjun
    ·rw [Go.getD_set_ne true hjk] at hun'; exact hun'
   refine wpOp_mono (fun a' w' h3=>⟨h3.2.1,ih (listed.setIfInBounds j true) a' w' hfree' (ready_mono hr (Ne.symm hji)) h3.1 ?_⟩) h2;rw [Array.setIfInBounds_comm _ _ hji];exact h3.2.2
def xg (P:Program) (ops:Array Oper) (Q:Exit->Act->World->Prop) (S:World->Prop) (late:List Nat) (fuel:Nat) (listed:Array Bool) (a:Act) (w:World):Prop:=Closed ops listed->Je P ops Q S late fuel listed a w
theorem V3 {oi:Oper} {fuel:Nat} {listed:Array Bool} {a:Act} (hi:ops.toList[i]?=some oi) (hl:jw ops late i=true)
  (hs:Region.noSelect ops=true) (hf:Region.free .any ops listed i=true) (hr:(Region.ready .any ops listed).contains i=true)
  (hQ:∀ c a w,Q (.panic c) (a.put oi.dst v) w->Q (.panic c) a w) (hy:YieldsIf P ops S oi v a) (hS:S w)
  (h:xg P ops Q S late fuel (listed.setIfInBounds i true) (a.put oi.dst v) w):xg P ops Q S late (fuel+1) listed a w:=fun hcl =>
 have hi':ops[i]?=some oi:=by rw [<-Array.getElem?_toList]; exact hi
 Zy hi' hl (Region.noSelect_spec hs) hQ fuel listed a w hcl (Region.free_spec hi' hf) (by simpa using hr) hy hS (h (hcl.set (by simpa using hr)))
theorem V4 {oi:Oper} {fuel:Nat} {listed:Array Bool} {a:Act} (hi:ops.toList[i]?=some oi)
  (hs:Region.noSelect ops=true) (hf:Region.free .any ops listed i=true) (hr:(Region.ready .any ops listed).contains i=true)
  (hQ:∀ c a w,Q (.panic c) (a.put oi.dst v) w->Q (.panic c) a w) (hy:YieldsIf P ops (fun _=>True) oi v a)
  (h:xg P ops Q S late fuel (listed.setIfInBounds i true) (a.put oi.dst v) w):xg P ops Q S late (fuel+1) listed a w:=fun hcl =>
 have hi':ops[i]?=some oi:=by rw [<-Array.getElem?_toList]; exact hi
 XW hi' (Region.noSelect_spec hs) hQ fuel listed a w (Region.free_spec hi' hf) (by simpa using hr) hy (h (hcl.set (by simpa using hr)))
theorem sP (i:Nat) {oi:Oper} {fuel:Nat} {listed:Array Bool} {a:Act} (hi:ops.toList[i]?=some oi:=by rfl)
  (hs:Region.noSelect ops=true:=by kernel_rfl) (hf:Region.free .any ops listed i=true:=by kernel_rfl) (hr:(Region.ready .any ops listed).contains i=true:=by kernel_rfl)
  (hQ:∀ c a w,Q (.panic c) (a.put oi.dst v) w->Q (.panic c) a w:=by exact fun _ _ _ h=>h) (hg:Region.wanted oi (yielded ops a.tmps)=true:=by rfl)
  (hy:∀ w,True->(execOp a.eval oi).run P w=.ok (.value v) w:=by (intro w hSw; (try dsimp only at hSw); go_simp; (try (rw [if_pos (by omega)])); (try with_reducible rfl)))
  (h:xg P ops Q S late fuel (listed.setIfInBounds i true) (a.put oi.dst v) w):xg P ops Q S late (fuel+1) listed a w :=
 V4 hi hs hf hr hQ (Or.inl ⟨hg,hy⟩) h
theorem sT (i:Nat) {oi:Oper} {fuel:Nat} {listed:Array Bool} {a:Act} (hi:ops.toList[i]?=some oi:=by rfl) (hl:jw ops late i=true:=by kernel_rfl)
  (hs:Region.noSelect ops=true:=by kernel_rfl) (hf:Region.free .any ops listed i=true:=by kernel_rfl) (hr:(Region.ready .any ops listed).contains i=true:=by kernel_rfl)
  (hQ:∀ c a w,Q (.panic c) (a.put oi.dst v) w->Q (.panic c) a w:=by exact fun _ _ _ h=>h) (hg:Region.wanted oi (yielded ops a.tmps)=true:=by rfl)
  (hy:∀ w,S w->(execOp a.eval oi).run P w=.ok (.value v) w:=by (intro w hSw; (try dsimp only at hSw); go_simp; (try (rw [if_pos (by omega)])); (try with_reducible rfl))) (hS:S w:=by assumption)
  (h:xg P ops Q S late fuel (listed.setIfInBounds i true) (a.put oi.dst v) w):xg P ops Q S late (fuel+1) listed a w :=
 V3 hi hl hs hf hr hQ (Or.inl ⟨hg,hy⟩) hS h
theorem nr:(∀ (a:Act) (d:Tmp) (v:Value),a.put (some d) v={ a with tmps:=a.tmps.setIfInBounds d v })/\(∀ (a:Act) (v:Value),a.put none v=a)/\(∀ (l:List Value) (i:Nat) (v:Value),l.toArray.setIfInBounds i v=(l.set i v).toArray)/\(∀ (x:Value) (l:List Value) (v:Value),(x :: l).set 0 v=v :: l)/\(∀ (x:Value) (l:List Value) (i:Nat) (v:Value),(x :: l).set (i+1) v=x :: l.set i v) :=
 ⟨fun _ _ _=>rfl,fun _ _=>rfl,fun _ _ _=>by simp,fun _ _ _=>rfl,fun _ _ _ _=>rfl⟩
theorem xY {o:Oper} {fuel:Nat} {listed:Array Bool} {a:Act} (hi:ops.toList[i]?=some o) (hr:Region.ready .any ops listed=[i])
  (h:∀ K':Act->World->Prop,Shut (∀ a w,S w->(S w->xg P ops Q S late fuel (listed.setIfInBounds i true) a w)->K' a w)->if Region.wanted o (yielded ops a.tmps)=true then Oper.wp P o a w K' Q else K' (a.put o.dst undef) w) :
  xg P ops Q S late (fuel+1) listed a w:=fun hcl=>by
 refine⟨fun h0=>(by rw [hr] at h0; cases h0),fun j hj=>?_⟩;have hj':j=i:=by rw [hr] at hj; simpa using hj
 subst hj';have hi':ops[j]?=some o:=by rw [<-Array.getElem?_toList]; exact hi
 exact wpOp_step hi' (fun K' hK=>h K' (fun a w hS hW=>hK a w ⟨fun _ _=>hS,hW hS (hcl.set hj)⟩))
theorem qh {o:Oper} {fuel:Nat} {listed:Array Bool} {a:Act} (hi:ops.toList[i]?=some o) (hr:Region.ready .any ops listed=[i]) (hc:late.contains i=true)
  (h:∀ K':Act->World->Prop,Shut (∀ a w,xg P ops Q S late fuel (listed.setIfInBounds i true) a w->K' a w)->if Region.wanted o (yielded ops a.tmps)=true then Oper.wp P o a w K' Q else K' (a.put o.dst undef) w) :
  xg P ops Q S late (fuel+1) listed a w:=fun hcl=>by
 refine⟨fun h0=>(by rw [hr] at h0; cases h0),fun j hj=>?_⟩;have hj':j=i:=by rw [hr] at hj; simpa using hj
 subst hj';have hi':ops[j]?=some o:=by rw [<-Array.getElem?_toList]; exact hi
 exact wpOp_step hi' (fun K' hK=>h K' (fun a w hW=>hK a w ⟨fun h0=>(by rw [hc] at h0; cases h0),hW (hcl.set hj)⟩))
theorem qi {listed:Array Bool} {a:Act} (hr:Region.ready .any ops listed=[]) (h:Q .normal a w):∀ fuel,xg P ops Q S late fuel listed a w
 | 0=>fun _=>⟨hr,h⟩
 | _+1=>fun _=>⟨fun _=>h,by rw [hr]; simp⟩
theorem yG (S:World->Prop) (late:List Nat) {id:Nat} {a:Act} (hm:P.follows .mixedOrders=true) (hS:S w.drew)
  (h:S w.drew->xg P ops Q S late ops.size (Array.replicate ops.size false) a w.drew):(Code.region id ops true).wp P Q a w :=
 wp_region_any hm (xE _ _ _ _ (h hS (Closed.start _)))
end
end Go.Proofs.YtphpkhoeplcedaaGreat
namespace Go.Proofs.YtphpkhoeplcedaaGreat
open Go.RowKit
variable {w w':World} {N n lo hi k g i m base c b j:Nat} {v s:Value} {l:List Nat} {q x:Rat} {R:Raw} {A:Option Addr}
theorem q2i {v':Value} {x y:Int} (h:qU N w v x) (h':qU N w v' y) (hy:y≠0) (hL:ln x.natAbs<=10000000000) (hL':ln y.natAbs<=10000000000) :
  Calls Tryz.prog 64 #[v,v'] w (XZ N w (Rat.divInt x y)):=by
 obtain⟨q,hq⟩:=qf (Rat.divInt x y);rw [<-hq.out];have hI:=h;have hI':=h';obtain⟨n1,A1,k1,c1,rfl,Hn1,hs,-⟩:=h.parts;obtain⟨n2,A2,k2,c2,rfl,Hn2,hs',-⟩:=h'.parts;have hN:=hs.le;have HY:=q_h hy;have HLx:=q_h hL;have HLy:=q_h hL';obtain⟨sy,hsy⟩:=qf y.sign
 have t1:(sy == 0)=false:=by
  have:sy≠0:=by rw [hsy.out]; intro e; exact hy (Int.sign_eq_zero_iff_zero.1 e)
  simpa using this
 clear hy hL hL' h h' hs hs';go_enter Tryz.func64,Tryz.ntmps64;go_wp2_with (go_at_call 106; refine q_o ?_);refine kV ?_;intro W hE hsz B0 B1 B2;refine (QE (hI'.ext hE) (by have:=HLy.out; omega)).mono ?_;rintro e w1 ⟨rfl,e1⟩;rw [<-hsy.out];replace hE:=hE.trans e1;replace B0:=e1.block B0;replace B1:=e1.block B1;replace B2:=e1.block B2;obtain⟨a0,a1,-⟩:=cells2 B0;obtain⟨b0,b1,-⟩:=cells2 B1;go_wp2_with (go_at_call 70; refine q_o ?_);refine (wI (hI.ext hE) (hI'.ext hE) HY.out HLx.out HLy.out).mono ?_;rw [<-hq.out];intro e w2 hh;obtain⟨n3,A3,k3,c3,A4,k4,c4,rfl,hb3,g3,g4,e2⟩:=hh.form;replace hE:=hE.trans e2;replace B2:=e2.block B2;obtain⟨r0,r1,r2,r3,r4,r5,r6,r7⟩:=cells4 B2;go_wp2;obtain⟨w12,E12,F2,U⟩:=ex4 B2 (.bool n3) (.slice A3 k3 c3) (.bool false) (.slice A4 k4 c4);rw [E12];obtain⟨z0,z1,z2,z3,-⟩:=cells4 F2;refine bodyPost_ret (v:=.tuple #[.agg #[.bool n3,.slice A3 k3 c3,.bool false,.slice A4 k4 c4],.int .i64 0]) ?_ rfl ⟨_,rfl,qp.mk hb3 (g3.upd U (by omega) (NoU.mk B2 (by decide))) (g4.upd U (by omega) (NoU.mk B2 (by decide))),U.ext hE (by omega)⟩;simp [results,Tryz.results64,z0,z1,z2,z3,go_sem]
theorem XZ.form {e:Ending} (h:XZ N w q e w'):∃ (b:Bool) (A:Option Addr) (n c:Nat) (A':Option Addr) (n' c':Nat),e=.returned (.tuple #[.agg #[.bool b,.slice A n c,.bool false,.slice A' n' c'],.int .i64 0])/\Hid (b=decide (q.num < 0))/\Gs N w' (.slice A n c) (dg q.num.natAbs)/\Gs N w' (.slice A' n' c') (dg q.den)/\Ext w w':=by
 obtain⟨v,rfl,hv,he⟩:=h;obtain⟨b,A,n,c,A',n',c',rfl,hb,h1,h2⟩:=hv.parts;exact⟨b,A,n,c,A',n',c',rfl,hb,h1,h2,he⟩
theorem Xk {v':Value} {y:Rat} (h:qp N w v x) (h':qp N w v' y) (hz:Sz x) (hz':Sz y) (hy:y≠0) :
  Calls Tryz.prog 78 #[v,v'] w (XZ N w (x / y)):=by
 obtain⟨q,hq⟩:=qf (x / y);rw [<-hq.out];have HQ:Hid (Rat.divInt (x.num*y.den) ((x.den:Int)*y.num)=q):=by rw [Hid,hq.out,wV]
 have L1:Hid (ln (x.num*(y.den:Int)).natAbs<=2000000000):=by rw [Hid,Int.natAbs_mul,Int.natAbs_natCast]; exact zI hz.1 hz'.2
 have L3:Hid (ln ((x.den:Int)*y.num).natAbs<=2000000000):=by rw [Hid,Int.natAbs_mul,Int.natAbs_natCast]; exact zI hz.2 hz'.1
 have Y0:Hid (y.num≠0):=by unfold Hid; intro e; exact hy (Rat.num_eq_zero.1 e)
 have D0:Hid ((x.den:Int)*y.num≠0):=by have h8:=x.den_pos; exact Int.mul_ne_zero (by omega) Y0.out
 clear hq hy;have hI:=h;have hI':=h';have hN:=h.le;obtain⟨m1,X1,i1,d1,X2,i2,d2,rfl,hm1,gx1,gx2⟩:=h.parts;obtain⟨m2,Y1,i3,d3,Y2,i4,d4,rfl,hm2,gy1,gy2⟩:=h'.parts;have HZ:=q_h hz;have HZ':=q_h hz';clear hz hz' h h' gx1 gx2 gy1 gy2;go_enter Tryz.func78,Tryz.ntmps78;go_wp2_with (go_at_call 69; refine q_o ?_);refine kV ?_;intro W hE hsz B0 B1 B2;refine (xN (hI.ext hE) HZ.out).mono ?_;intro e w1 hh;obtain⟨n1,A1,k1,c1,A2,k2,c2,rfl,hb1,g1,g2,e1⟩:=hh.form;replace hE:=hE.trans e1;replace hsz:=q_l hsz e1.size;replace B1:=e1.block B1;replace B2:=e1.block B2;obtain⟨b0,b1,b2,b3,-⟩:=cells4 B1;have hl1:w.heap.size+1 < w1.heap.size:=by omega
 go_wp2_with (go_at_call 69; refine q_o ?_);refine qF ?_;intro W2 e2 hsz2 C0;replace hE:=hE.trans e2;refine (xN (hI'.ext hE) HZ'.out).mono ?_;intro e w3 hh;obtain⟨n2,A3,k3,c3,A4,k4,c4,rfl,hb2,g3,g4,e3⟩:=hh.form;replace hE:=hE.trans e3;have hsz3:w1.heap.size+1<=w3.heap.size:=by have:=e3.size; omega
 go_upto_region 3 with (fail);refine ql ?_;intro W4 e4 hsz4 C1;replace hE:=hE.trans e4;replace B2:=e4.block (e3.block (e2.block B2));replace C0:=e4.block (e3.block C0);replace g1:=((g1.ext e2).ext e3).ext e4;replace g2:=((g2.ext e2).ext e3).ext e4;replace g3:=g3.ext e4;replace g4:=g4.ext e4;clear b0 b1 b2 b3 B0 B1;obtain⟨a0,a1,a2,a3,-⟩:=cells4 C0;obtain⟨b0,b1,b2,b3,-⟩:=cells4 C1;have eC:=(Ext.refl W4).drew;refine yG (fun w'=>w'.cell? ⟨w1.heap.size,0,none⟩=some (.bool n1)/\w'.cell? ⟨w1.heap.size,1,none⟩=some (.slice A1 k1 c1)/\w'.cell? ⟨w1.heap.size,2,none⟩=some (.bool false)/\w'.cell? ⟨w1.heap.size,3,none⟩=some (.slice A2 k2 c2)/\w'.cell? ⟨w3.heap.size,0,none⟩=some (.bool n2)/\w'.cell? ⟨w3.heap.size,1,none⟩=some (.slice A3 k3 c3)/\w'.cell? ⟨w3.heap.size,2,none⟩=some (.bool false)/\w'.cell? ⟨w3.heap.size,3,none⟩=some (.slice A4 k4 c4)) [13] (by kernel_rfl) (by exact⟨eC.cell a0,eC.cell a1,eC.cell a2,eC.cell a3,eC.cell b0,eC.cell b1,eC.cell b2,eC.cell b3⟩) (fun hHeld=>?_);refine sP 0 (h:=?_);try simp only [nr]
 refine sT 1 (h:=?_);try simp only [nr]
 refine sP 2 (h:=?_);try simp only [nr]
 refine sT 3 (h:=?_);try simp only [nr]
 refine sP 5 (h:=?_);try simp only [nr]
 refine sT 6 (h:=?_);try simp only [nr]
 refine sP 7 (h:=?_);try simp only [nr]
 refine sT 8 (h:=?_);try simp only [nr]
 refine xY (i:=4) rfl (by kernel_rfl) (fun K hK=>?_);go_simp;refine (yB (by exact qK hb1 (g1.ext eC)) (by exact qJ (g4.ext eC)) (by have:=HZ.out.1; omega) (by rw [Int.natAbs_natCast]; have:=HZ'.out.2; omega)).mono ?_;rintro e w5 ⟨v5,rfl,h5,e5⟩;replace eC:=eC.trans e5;go_wp2_with fail;clear hHeld;refine hK.out _ _ (by exact⟨eC.cell a0,eC.cell a1,eC.cell a2,eC.cell a3,eC.cell b0,eC.cell b1,eC.cell b2,eC.cell b3⟩) fun hHeld=>?_
 clear hK K;try simp only [nr]
 refine xY (i:=9) rfl (by kernel_rfl) (fun K hK=>?_);go_simp;refine (yB (by exact qJ (g2.ext eC)) (by exact qK hb2 (g3.ext eC)) (by rw [Int.natAbs_natCast]; have:=HZ.out.2; omega) (by have:=HZ'.out.1; omega)).mono ?_;rintro e w6 ⟨v6,rfl,h6,e6⟩;replace eC:=eC.trans e6;go_wp2_with fail;clear hHeld;refine hK.out _ _ (by exact⟨eC.cell a0,eC.cell a1,eC.cell a2,eC.cell a3,eC.cell b0,eC.cell b1,eC.cell b2,eC.cell b3⟩) fun hHeld=>?_
 clear hK K;try simp only [nr]
 refine xY (i:=10) rfl (by kernel_rfl) (fun K hK=>?_);go_simp;refine (q2i (by exact h5.ext e6) (by exact h6) D0.out (by have:=L1.out; omega) (by have:=L3.out; omega)).mono ?_;rw [HQ.out];intro e w10 hh;obtain⟨n10,A10,k10,c10,A11,k11,c11,rfl,hb10,h10,h11,e10⟩:=hh.form;replace eC:=eC.trans e10;have D2:=eC.block B2;obtain⟨r0,r1,r2,r3,r4,r5,r6,r7⟩:=cells4 D2;go_wp2_with fail;clear hHeld;refine hK.out _ _ (by exact⟨eC.cell a0,eC.cell a1,eC.cell a2,eC.cell a3,eC.cell b0,eC.cell b1,eC.cell b2,eC.cell b3⟩) fun hHeld=>?_
 clear hK K;try simp only [nr]
 refine sP 11 (h:=?_);try simp only [nr]
 refine sP 12 (h:=?_);try simp only [nr]
 refine qh (i:=13) rfl (by kernel_rfl) (by kernel_rfl) (fun K hK=>?_);go_simp;refine hK.out _ _ ?_;clear hK K;try simp only [nr]
 refine sP 14 (h:=?_);try simp only [nr]
 refine qi (by kernel_rfl) ?_ _;clear hHeld;go_wp2;obtain⟨w12,E12,F2,U⟩:=ex4 D2 (.bool n10) (.slice A10 k10 c10) (.bool false) (.slice A11 k11 c11);rw [E12];obtain⟨z0,z1,z2,z3,-⟩:=cells4 F2;refine bodyPost_ret (v:=.tuple #[.agg #[.bool n10,.slice A10 k10 c10,.bool false,.slice A11 k11 c11],.int .i64 0]) ?_ rfl ⟨_,rfl,qp.mk hb10 (h10.upd U (by omega) (NoU.mk D2 (by decide))) (h11.upd U (by omega) (NoU.mk D2 (by decide))),U.ext (hE.trans eC) (by omega)⟩;simp [results,Tryz.results78,z0,z1,z2,z3,go_sem]
theorem q2h {v':Value} {y:Rat} (h:qp N w v x) (h':qp N w v' y) (hz:Sz x) (hz':Sz y) :
  Calls Tryz.prog 67 #[v,v'] w (yM N w (x - y)):=by
 obtain⟨q,hq⟩:=qf (x - y);rw [<-hq.out];have HQ:Hid (x + -y=q):=by rw [Hid,hq.out,Rat.sub_eq_add_neg]
 clear hq;have hI:=h;have hI':=h';have hN:=h.le;obtain⟨m1,X1,i1,d1,X2,i2,d2,rfl,hm1,gx1,gx2⟩:=h.parts;obtain⟨m2,Y1,i3,d3,Y2,i4,d4,rfl,hm2,gy1,gy2⟩:=h'.parts;have HZ:=q_h hz;have HZ':=q_h hz';clear hz hz' h h' gx1 gx2 gy1 gy2;go_enter Tryz.func67,Tryz.ntmps67;go_wp2;refine zK ?_;intro W hE hsz B0 B1 B2;obtain⟨a0,a1,a2,a3,-⟩:=cells4 B0;obtain⟨b0,b1,b2,b3,-⟩:=cells4 B1;have eC:=(Ext.refl W).drew;refine yG (fun w'=>w'.cell? ⟨w.heap.size,0,none⟩=some (.bool m1)/\w'.cell? ⟨w.heap.size,1,none⟩=some (.slice X1 i1 d1)/\w'.cell? ⟨w.heap.size,2,none⟩=some (.bool false)/\w'.cell? ⟨w.heap.size,3,none⟩=some (.slice X2 i2 d2)/\w'.cell? ⟨w.heap.size+1,0,none⟩=some (.bool m2)/\w'.cell? ⟨w.heap.size+1,1,none⟩=some (.slice Y1 i3 d3)/\w'.cell? ⟨w.heap.size+1,2,none⟩=some (.bool false)/\w'.cell? ⟨w.heap.size+1,3,none⟩=some (.slice Y2 i4 d4)) [4] (by kernel_rfl) (by exact⟨eC.cell a0,eC.cell a1,eC.cell a2,eC.cell a3,eC.cell b0,eC.cell b1,eC.cell b2,eC.cell b3⟩) (fun hHeld=>?_);refine sT 0 (h:=?_);try simp only [nr]
 refine sT 1 (h:=?_);try simp only [nr]
 refine xY (i:=2) rfl (by kernel_rfl) (fun K hK=>?_);go_simp;refine (q4b (by exact hI'.ext (hE.trans eC)) HZ'.out).mono ?_;rintro e w5 ⟨v5,rfl,h5,e5⟩;replace eC:=eC.trans e5;go_wp2_with fail;clear hHeld;refine hK.out _ _ (by exact⟨eC.cell a0,eC.cell a1,eC.cell a2,eC.cell a3,eC.cell b0,eC.cell b1,eC.cell b2,eC.cell b3⟩) fun hHeld=>?_
 clear hK K;try simp only [nr]
 refine xY (i:=3) rfl (by kernel_rfl) (fun K hK=>?_);go_simp;refine (Yl (by exact hI.ext (hE.trans eC)) (by exact h5) HZ.out HZ'.out.neg).mono ?_;rw [HQ.out];intro e w7 hh;obtain⟨n7,A7,k7,c7,A8,k8,c8,rfl,hb7,h7,h8,e7⟩:=hh.form;replace eC:=eC.trans e7;obtain⟨r0,r1,r2,r3,r4,r5,r6,r7⟩:=cells4 (eC.block B2);go_wp2_with fail;clear hHeld;refine hK.out _ _ (by exact⟨eC.cell a0,eC.cell a1,eC.cell a2,eC.cell a3,eC.cell b0,eC.cell b1,eC.cell b2,eC.cell b3⟩) fun hHeld=>?_
 clear hK K;try simp only [nr]
 refine qh (i:=4) rfl (by kernel_rfl) (by kernel_rfl) (fun K hK=>?_);go_simp;refine hK.out _ _ ?_;clear hK K;try simp only [nr]
 refine qi (by kernel_rfl) ?_ _;clear hHeld;go_wp2;exact qM rfl rfl rfl (hE.trans eC) (eC.block B2) (by omega) hN h7 h8 hb7
theorem Zg {v':Value} {y:Rat} (h:qp N w v x) (h':qp N w v' y) (hz:Sz x) (hz':Sz y) (hd:Sz (x - y)) :
  Calls Tryz.prog 57 #[v,v'] w (zG w (.int .i64 (x - y).num.sign)):=by
 obtain⟨s,hs⟩:=qf (x - y).num.sign;rw [<-hs.out];have HD:=q_h hd;clear hd;have hI:=h;have hI':=h';have HZ:=q_h hz;have HZ':=q_h hz';obtain⟨m1,X1,i1,d1,X2,i2,d2,rfl,hm1,gx1,gx2⟩:=h.parts;obtain⟨m2,Y1,i3,d3,Y2,i4,d4,rfl,hm2,gy1,gy2⟩:=h'.parts;clear hz hz' h h' gx1 gx2 gy1 gy2;go_enter Tryz.func57,Tryz.ntmps57;go_wp2_with (go_at_call 67; refine q_o ?_);refine kL ?_;intro W hE hsz B0 B1;refine (q2h (hI.ext hE) (hI'.ext hE) HZ.out HZ'.out).mono ?_;rintro e w1 ⟨v1,rfl,h1,e1⟩;go_wp2_with (go_at_call 54; refine q_o ?_);refine (Wq h1 HD.out).mono ?_;rintro e w2 ⟨rfl,e2⟩;rw [<-hs.out];go_wp2;go_ret;exact⟨rfl,(hE.trans e1).trans e2⟩
def allB (n:Nat) (p:Nat->Bool):Bool:=(List.range n).all p
theorem xe {p:Nat->Bool}:allB n p=true↔∀ i,i < n->p i=true:=by simp [allB]
theorem VC {p:Nat->Bool} (hi:i < n) (h:p i=false):allB n p=false:=by
 cases hb:allB n p with
 | false=>rfl
 | true=>rw [xe.1 hb i hi] at h; cases h
theorem xP {p:Nat->Prop} (h:∀ j,j < k->p j) (hk:p k):∀ j,j < k+1->p j:=by
 intro j hj
 rcases Nat.lt_or_ge j k with h1 | h1
 ·exact h j h1
 ·obtain rfl:j=k:=by omega
  exact hk
def Q3 (R:Raw):Prop:=R.l1.length<=10000000000/\R.l2.length<=10000000000
def RawL (R:Raw):Prop:=R.l1.length<=35184372088700/\R.l2.length<=35184372088700
theorem Q3.big (h:Q3 R):RawL R:=⟨q_l h.1 (by omega),q_l h.2 (by omega)⟩
theorem ZO {R:Nat->Raw} (h:LsR N lo hi w v n R) (hs:∀ i,i < n->RawL (R i)) :
  Calls Tryz.prog 29 #[v] w (zG w (.bool (allB n (fun i=>okR (R i))))):=by
 obtain⟨r,hr⟩:=qf (allB n (fun i=>okR (R i)));rw [<-hr.out];obtain⟨A,c,rfl,hnc,hcm⟩:=h.form;unfold maxLen at hcm;have hI:=h;have HS:=q_h hs;clear hs h;go_enter Tryz.func29,Tryz.ntmps29;go_wp2
 go_loopw [3] (fun i wr=>∃ k:Nat,k<=n/\i=.int .i64 k/\Hid (∀ j,j < k->okR (R j)=true)/\Ext w wr) (fun i _=>n - (intOf i).toNat)
 case atStart=>exact⟨0,Nat.zero_le _,rfl,fun j hj=>absurd hj (by omega),Ext.refl w⟩
 case round =>
  obtain⟨k,hk,rfl,HA,hE⟩:=hrel
  by_cases hlt:k < n
  ·obtain⟨b,off,rfl,-,-,hx⟩:=(hI.ext hE).addr (by omega);obtain⟨A1,n1,c1,A2,n2,c2,p0,p1,p2,p3,hv⟩:=(hx k hlt).val;clear hx;go_wp2_with (go_at_call 56; refine q_o ?_);refine (Xj hv (HS.out k hlt).1 (HS.out k hlt).2).mono ?_;rintro e w1 ⟨rfl,e1⟩;replace hE:=hE.trans e1;obtain⟨o,ho⟩:=qf (okR (R k));rw [<-ho.out];cases o with
   | true =>
    go_wp2;go_roundw
    case rel=>exact⟨k+1,by omega,by go_num,xP HA.out ho.out.symm,hE⟩
    case measure=>simp [intOf]; omega
   | false =>
    have HF:Hid (r=false):=by rw [Hid,hr.out]; exact VC hlt ho.out.symm
    go_wp2;go_ret;exact⟨qo HF.out.symm,hE⟩
  ·have HF:Hid (r=true):=by rw [Hid,hr.out]; exact xe.2 (fun j hj=>HA.out j (by omega))
   go_wp2;go_ret;exact⟨qo HF.out.symm,hE⟩
theorem q2g {R:Nat->Raw} (h:LsR N lo hi w v n R) (hs:∀ i,i < n->Q3 (R i)) :
  Calls Tryz.prog 29 #[v] w (zG w (.bool (allB n (fun i=>okR (R i))))):=ZO h (fun i hi=>(hs i hi).big)
theorem q2U {v':Value} {y:Rat} (h:qp N w v x) (h':qp N w v' y) (hz:Sz x) (he:x=y) :
  Calls Tryz.prog 15 #[v,v'] w (zG w (.bool true)):=by
 subst he;have hd:Sz (x - x):=by rw [Rat.sub_self]; exact Ht.zero.sz (by omega)
 have hs:(x - x).num.sign=0:=by rw [Rat.sub_self]; rfl
 have HD:=q_h hd;have HS:=q_h hs;clear hd hs;have hI:=h;have hI':=h';have HZ:=q_h hz;obtain⟨m1,X1,i1,d1,X2,i2,d2,rfl,hm1,gx1,gx2⟩:=h.parts;obtain⟨m2,Y1,i3,d3,Y2,i4,d4,rfl,hm2,gy1,gy2⟩:=h'.parts;clear hz h h' gx1 gx2 gy1 gy2;go_enter Tryz.func15,Tryz.ntmps15;go_wp2_with (go_at_call 56; refine q_o ?_);refine kL ?_;intro W hE hsz B0 B1;refine (jW (R:=raw x) (hI.ext hE) (zW HZ.out).1 (zW HZ.out).2).mono ?_;rintro e w1 ⟨rfl,e1⟩;rw [kT];replace hE:=hE.trans e1;replace B0:=e1.block B0;replace B1:=e1.block B1;obtain⟨b0,b1,b2,b3,-⟩:=cells4 B1;go_wp2_with (go_at_call 56; refine q_o ?_);refine (jW (R:=raw x) (hI'.ext hE) (zW HZ.out).1 (zW HZ.out).2).mono ?_;rintro e w2 ⟨rfl,e2⟩;rw [kT];replace hE:=hE.trans e2;replace B0:=e2.block B0;replace B1:=e2.block B1;clear b0 b1 b2 b3;obtain⟨a0,a1,a2,a3,-⟩:=cells4 B0;obtain⟨b0,b1,b2,b3,-⟩:=cells4 B1;go_wp2_with (go_at_call 57; refine q_o ?_);refine (Zg (hI.ext hE) (hI'.ext hE) HZ.out HZ.out HD.out).mono ?_;rintro e w3 ⟨rfl,e3⟩;rw [HS.out];go_wp2;go_ret;exact⟨rfl,hE.trans e3⟩
def Ji (N:Nat) (w:World) (g:Nat) (q:Rat):Prop :=
 ∃ (b:Bool) (A:Option Addr) (n c:Nat) (A':Option Addr) (n' c':Nat),w.heap[g]?=some (.cells #[.bool b,.slice A n c,.bool false,.slice A' n' c'] 29 (0,0))/\Hid (b=decide (q.num < 0))/\Gs N w (.slice A n c) (dg q.num.natAbs)/\Gs N w (.slice A' n' c') (dg q.den)
theorem Ji.mk {b:Bool} {A':Option Addr} {n' c':Nat} (h:w.heap[g]?=some (.cells #[.bool b,.slice A n c,.bool false,.slice A' n' c'] 29 (0,0))) (hb:Hid (b=decide (q.num < 0))) (h1:Gs N w (.slice A n c) (dg q.num.natAbs)) (h2:Gs N w (.slice A' n' c') (dg q.den)):Ji N w g q :=
 ⟨b,A,n,c,A',n',c',h,hb,h1,h2⟩
theorem Ji.ext (h:Ji N w g q) (e:Ext w w'):Ji N w' g q:=by
 obtain⟨b,A,n,c,A',n',c',h0,hb,h1,h2⟩:=h;exact⟨b,A,n,c,A',n',c',e.block h0,hb,h1.ext e,h2.ext e⟩
theorem Ji.chg (h:Ji N w g q) (k:Chg lo hi w w') (hN:N<=lo) (hg:g < lo\/hi<=g):Ji N w' g q:=by
 obtain⟨b,A,n,c,A',n',c',h0,hb,h1,h2⟩:=h;exact⟨b,A,n,c,A',n',c',k.blk h0 hg,hb,h1.chg k hN,h2.chg k hN⟩
theorem kN {y0 y1 y2 y3:Value} (h0:w.heap[g]?=some (.cells #[y0,y1,y2,y3] 29 (0,0))) (hN:N<=g) {b:Bool} {A':Option Addr} {n' c':Nat} (hb:Hid (b=decide (q.num < 0))) (h1:Gs N w (.slice A n c) (dg q.num.natAbs)) (h2:Gs N w (.slice A' n' c') (dg q.den)) :
  ∃ w1,(((w.setCell ⟨g,0,none⟩ (.bool b)).setCell ⟨g,1,none⟩ (.slice A n c)).setCell ⟨g,2,none⟩ (.bool false)).setCell ⟨g,3,none⟩ (.slice A' n' c')=w1/\Ji N w1 g q/\Chg g (g+1) w w1/\w1.heap.size=w.heap.size:=by
 obtain⟨w1,E,F,U⟩:=ex4 h0 (.bool b) (.slice A n c) (.bool false) (.slice A' n' c');have k:=U.chg (NoU.mk h0 (by decide));exact⟨w1,E,⟨b,A,n,c,A',n',c',F,hb,h1.chg k hN,h2.chg k hN⟩,k,U.size⟩
structure KW (N lo hi:Nat) (w:World) (h k m n:Nat) (β κ:Nat->Nat) (A:Nat->Nat->Rat):Prop where
 le:N<=lo
 hh:∃ hs,w.heap[h]?=some (.cells hs 45 (0,0))/\hs.size=k/\∀ i,i < m->hs[i]?=some (.slice (some ⟨β i,0,none⟩) n (κ i))
 mle:m<=k
 hlo:lo<=h
 hhi:h < hi
 his:hi<=w.heap.size
 lo_:∀ i,i < m->lo<=β i
 hi_:∀ i,i < m->β i < hi
 cap:∀ i,i < m->κ i<=maxLen
 row:∀ i,i < m->xG N w (β i) (κ i) n (A i)
 inj:∀ i j,i < m->j < m->i≠j->β i≠β j
section
variable {N lo hi:Nat} {w w':World} {h k m n:Nat} {β κ:Nat->Nat} {A:Nat->Nat->Rat}
theorem KW.noU (o:KW N lo hi w h k m n β κ A):NoU w h:=by
 obtain⟨hs,h1,-,-⟩:=o.hh;exact NoU.mk h1 (by decide)
theorem KW.hcell (o:KW N lo hi w h k m n β κ A) (hi':i < m):w.cell? ⟨h,i,none⟩=some (.slice (some ⟨β i,0,none⟩) n (κ i)):=by
 obtain⟨hs,h1,-,h3⟩:=o.hh;rw [qg h1,h3 i hi']
theorem KW.ext (o:KW N lo hi w h k m n β κ A) (e:Ext w w'):KW N lo hi w' h k m n β κ A:=by
 obtain⟨hs,h1,h2,h3⟩:=o.hh;exact⟨o.le,⟨hs,e.block h1,h2,h3⟩,o.mle,o.hlo,o.hhi,q_l o.his e.size,o.lo_,o.hi_,o.cap,fun i hi'=>(o.row i hi').ext e,o.inj⟩
theorem KW.chg (o:KW N lo hi w h k m n β κ A) {l u:Nat} (c:Chg l u w w') (hN:N<=l) (hd:hi<=l\/u<=lo):KW N lo hi w' h k m n β κ A:=by
 obtain⟨hs,h1,h2,h3⟩:=o.hh;have:=o.hlo;have:=o.hhi;exact⟨o.le,⟨hs,c.blk h1 (by omega),h2,h3⟩,o.mle,o.hlo,o.hhi,q_l o.his c.size,o.lo_,o.hi_,o.cap,fun i hi'=>(o.row i hi').chg c hN (by have:=o.lo_ i hi'; have:=o.hi_ i hi'; omega),o.inj⟩
theorem KW.congr {B:Nat->Nat->Rat} (o:KW N lo hi w h k m n β κ A) (he:∀ i,i < m->∀ j,j < n->A i j=B i j):KW N lo hi w h k m n β κ B :=
 ⟨o.le,o.hh,o.mle,o.hlo,o.hhi,o.his,o.lo_,o.hi_,o.cap,fun i hi'=>(o.row i hi').congr (he i hi'),o.inj⟩
theorem KW.mtv (o:KW N lo hi w h k m n β κ A) (hc:m<=c) (hm:c<=maxLen):MtV N lo hi w (.slice (some ⟨h,0,none⟩) m c) m n A:=by
 have h1:=o.hlo;have h2:=o.hhi;have h3:=o.his;refine⟨by have:=o.le; omega,o.his,_,c,rfl,hc,hm,fun _=>⟨h,0,rfl,h1,h2,fun i hi'=>⟨_,by rw [Nat.zero_add]; exact o.hcell hi',?_⟩⟩⟩;exact (o.row i hi').lsv (o.row i hi').2.1 (o.cap i hi') (o.lo_ i hi') (o.hi_ i hi') h3
def q0N (A:Nat->Nat->Rat) (r:Nat) (x:Nat->Rat) (i:Nat):Nat->Rat:=if i=r then x else A i
theorem yP (A:Nat->Nat->Rat) (r:Nat) (x:Nat->Rat):q0N A r x r=x:=by simp [q0N]
theorem Jj (A:Nat->Nat->Rat) {r:Nat} (x:Nat->Rat) (h:i≠r):q0N A r x i=A i:=by simp [q0N,h]
end
theorem xQ (b o j:Nat):(⟨b,o,none⟩:Addr).add j=⟨b,o+j,none⟩:=by
 unfold Addr.add; split
 ·rename_i e; subst e; rfl
 ·rfl
theorem Grow.empty (hN:N<=base) (hb:base<=g) (h:w.heap[g]?=some (.cells #[] 29 (0,0))) (x:Nat->Rat):Grow N base w (.slice (some ⟨g,0,none⟩) 0 0) 0 x :=
 ⟨hN,by have:=qI h; omega,.inr ⟨g,0,rfl,hb,Nat.zero_le _,by omega,q_r,⟨#[],h,rfl⟩,fun j hj=>by omega⟩⟩
theorem Grow.some {x:Nat->Rat} (h:Grow N base w v n x) (hn:0 < n):∃ g cap,v=.slice (some ⟨g,0,none⟩) n cap/\base<=g/\g < w.heap.size/\cap<=maxLen/\n<=cap/\xG N w g cap n x:=by
 obtain⟨h1,h2,⟨rfl,rfl⟩ | ⟨g,cap,rfl,hg,hm,hr⟩⟩:=h
 ·omega
 ·exact⟨g,cap,rfl,hg,hr.lt,hm,hr.2.1,hr⟩
theorem yO {o:Oper} {a:Act} {K:Act->World->Prop} {Q:Exit->Act->World->Prop} (s x:Operand) (t:TypeId) (ht:Tryz.prog.underlying t=some (.slice 29))
  (ho:o.op=.call { callee:=.builtin .append,args:=#[s,x],argTypes:=#[t,t] }) {f:Nat->Rat} (hs:a.eval s=v) (h:Grow N base w v n f)
 (hx:a.eval x=.slice (some ⟨b,0,none⟩) 1 1) {neg:Bool} {s1 s2:Value} {fr:Nat×Nat} (hb:w.heap[b]?=some (.cells #[.bool neg,s1,.bool false,s2] 29 fr)) (hneg:Hid (neg=decide (q.num < 0))) (g1:Gs N w s1 (dg q.num.natAbs)) (g2:Gs N w s2 (dg q.den)) (hn:n < 1000000000)
  (hK:∀ g cap w',Grow N base w' (.slice (some ⟨g,0,none⟩) (n+1) cap) (n+1) (upd f n q)->(∃ g',base<=g'/\Chg g' (g'+1) w w'/\NoU w g')->g < w'.heap.size->K (a.put o.dst (.slice (some ⟨g,0,none⟩) (n+1) cap)) w'):o.wp Tryz.prog a w K Q:=by
 obtain⟨g,cap,w',hrun,h1,h2,h3⟩:=yw t o.type ht h hb hneg g1 g2 hn;unfold Oper.wp execOp;simp only [ho,resolve,invoke,builtin,Sem.run_bind,Sem.run_pure,Result.andThen_ok,List.map_toArray,List.map_cons,List.map_nil,hs,hx,hrun];exact hK g cap w' h1 h2 h3
theorem vY {ops:Array Oper} {rest:List Oper} {o:Oper} {a:Act} {Q:Exit->Act->World->Prop} (hgd:o.guard=none) (s x:Operand) (t:TypeId) (ht:Tryz.prog.underlying t=some (.slice 29))
  (ho:o.op=.call { callee:=.builtin .append,args:=#[s,x],argTypes:=#[t,t] }) {f:Nat->Rat} (hs:a.eval s=v) (h:Grow N base w v n f)
 (hx:a.eval x=.slice (some ⟨b,0,none⟩) 1 1) {neg:Bool} {s1 s2:Value} {fr:Nat×Nat} (hb:w.heap[b]?=some (.cells #[.bool neg,s1,.bool false,s2] 29 fr)) (hneg:Hid (neg=decide (q.num < 0))) (g1:Gs N w s1 (dg q.num.natAbs)) (g2:Gs N w s2 (dg q.den)) (hn:n < 1000000000)
  (hK:∀ g cap w',Grow N base w' (.slice (some ⟨g,0,none⟩) (n+1) cap) (n+1) (upd f n q)->(∃ g',base<=g'/\Chg g' (g'+1) w w'/\NoU w g')->g < w'.heap.size->wpList Tryz.prog ops Q rest (a.put o.dst (.slice (some ⟨g,0,none⟩) (n+1) cap)) w'):wpList Tryz.prog ops Q (o :: rest) a w :=
 wpList_plain hgd fun _ hK'=>yO s x t ht ho hs h hx hb hneg g1 g2 hn (fun g cap w' a1 a2 a3=>hK' _ _ (hK g cap w' a1 a2 a3))
def xm (N lo hi:Nat) (w:World) (v:Value) (m n:Nat) (A:Nat->Nat->Rat):Prop :=
 N<=lo/\lo<=hi/\hi<=w.heap.size/\((v=.slice none 0 0/\m=0)\/∃ h cap β κ,v=.slice (some ⟨h,0,none⟩) m cap/\cap<=maxLen/\KW N lo hi w h cap m n β κ A)
section
variable {N lo hi:Nat} {w w':World} {v:Value} {m n:Nat} {A:Nat->Nat->Rat}
theorem xm.empty (hN:N<=lo) (hb:lo<=g) (hg:g < hi) (hs:hi<=w.heap.size) (h:w.heap[g]?=some (.cells #[] 45 (0,0))) (A:Nat->Nat->Rat):xm N lo hi w (.slice (some ⟨g,0,none⟩) 0 0) 0 n A :=
 ⟨hN,by omega,hs,.inr ⟨g,0,fun _=>0,fun _=>0,rfl,Nat.zero_le _,⟨hN,⟨#[],h,rfl,fun i hi=>by omega⟩,q_r,hb,hg,hs,fun i hi=>by omega,fun i hi=>by omega,fun i hi=>by omega,fun i hi=>by omega,fun i j hi=>by omega⟩⟩⟩
theorem xm.ext (h:xm N lo hi w v m n A) (e:Ext w w'):xm N lo hi w' v m n A:=by
 obtain⟨h1,h2,h3,h4⟩:=h;refine⟨h1,h2,q_l h3 e.size,?_⟩
 rcases h4 with h4 | ⟨h,cap,β,κ,hv,hc,ho⟩
 ·exact .inl h4
 ·exact .inr ⟨h,cap,β,κ,hv,hc,ho.ext e⟩
theorem xm.chg (h:xm N lo hi w v m n A) {l u:Nat} (c:Chg l u w w') (hN:N<=l) (hd:hi<=l\/u<=lo):xm N lo hi w' v m n A:=by
 obtain⟨h1,h2,h3,h4⟩:=h;refine⟨h1,h2,q_l h3 c.size,?_⟩
 rcases h4 with h4 | ⟨h,cap,β,κ,hv,hc,ho⟩
 ·exact .inl h4
 ·exact .inr ⟨h,cap,β,κ,hv,hc,ho.chg c hN hd⟩
theorem xm.congr {B:Nat->Nat->Rat} (h:xm N lo hi w v m n A) (he:∀ i,i < m->∀ j,j < n->A i j=B i j):xm N lo hi w v m n B:=by
 obtain⟨a1,a2,a3,h4⟩:=h;refine⟨a1,a2,a3,?_⟩
 rcases h4 with h4 | ⟨h,cap,β,κ,hv,hc,ho⟩
 ·exact .inl h4
 ·exact .inr ⟨h,cap,β,κ,hv,hc,ho.congr he⟩
theorem xm.form (h:xm N lo hi w v m n A):∃ A c,v=.slice A m c/\m<=c:=by
 obtain⟨-,-,-,⟨rfl,rfl⟩ | ⟨h,cap,β,κ,rfl,-,ho⟩⟩:=h
 ·exact⟨_,_,rfl,q_r⟩
 ·exact⟨_,_,rfl,ho.mle⟩
theorem xm.mtv (h:xm N lo hi w v m n A):MtV N lo hi w v m n A:=by
 obtain⟨a1,a2,a3,⟨rfl,rfl⟩ | ⟨h,cap,β,κ,rfl,hc,ho⟩⟩:=h
 ·exact⟨by omega,a3,none,0,rfl,q_r,Nat.zero_le _,fun h=>absurd h (by omega)⟩
 ·exact ho.mtv ho.mle hc
theorem Z9 (t ty:TypeId) (ht:Tryz.prog.underlying t=some (.slice 45)) (h:xm N lo hi w v m n A) {cap:Nat} {x:Nat->Rat} (hr:xG N w b cap n x) (hb:hi<=b) (hcm:cap<=maxLen)
  {bx:Nat} {fr:Nat×Nat} (hbx:w.heap[bx]?=some (.cells #[.slice (some ⟨b,0,none⟩) n cap] 45 fr)) (hm:m < 1000000000) :
  ∃ h' cap' w',(Builtin.append_ #[t,t] ty #[v,.slice (some ⟨bx,0,none⟩) 1 1]).run Tryz.prog w=.ok (.slice (some ⟨h',0,none⟩) (m+1) cap') w'/\xm N lo w'.heap.size w' (.slice (some ⟨h',0,none⟩) (m+1) cap') (m+1) n (q0N A m x)/\(∃ g',lo<=g'/\Chg g' (g'+1) w w'/\NoU w g'):=by
 obtain⟨i0,hi0,hz0,hz1,hz2⟩:=info_parts q1t;obtain⟨h1,h2,h3,h4⟩:=h;have hT:NoU w w.heap.size:=fun cs fr h=>by rw [Array.getElem?_eq_none (q_r)] at h; cases h
 have hown:∃ xs,w.ownsRow lo 45 1 v m xs:=by
  rcases h4 with ⟨rfl,rfl⟩ | ⟨h,cap,β,κ,rfl,hc,ho⟩
  ·exact⟨[],by simp,.inl ⟨rfl,rfl⟩⟩
  ·obtain⟨hs,a1,a2,a3⟩:=ho.hh;have:=ho.mle;exact⟨hs.toList.take (m*1),by rw [List.length_take]; simp; omega,.inr ⟨h,cap,hs,rfl,ho.hlo,a1,ho.mle,hc,by omega,rfl⟩⟩
 obtain⟨xs,hown⟩:=hown
 obtain⟨g,cap',w',hrun,ho',hgr,hat,hlt⟩:=run_append_lies (P:=Tryz.prog) w t ty lo 45 i0 _ 1 24 ht hi0 hz0 hz1 hz2 rfl (by omega) v m xs hown ⟨bx,0,none⟩ 1 1 [.slice (some ⟨b,0,none⟩) n cap] rfl
  (fun j u hj=>by
   rw [xQ,Nat.zero_add,qg hbx]
   simpa using hj)
  (fun u hu=>by simp at hu; subst hu; rfl) (by omega) (by unfold maxLen; omega) (by omega) (by omega) w.heap.size rfl
 have hchg:∃ g',lo<=g'/\Chg g' (g'+1) w w'/\NoU w g'/\(∀ cs,w.heap[g']?≠some (.cells cs 29 (0,0))):=by
  rcases h4 with ⟨rfl,rfl⟩ | ⟨h,cap,β,κ,rfl,hc,ho⟩
  ·exact⟨w.heap.size,by omega,zJ hgr (fun k hk=>by simp [Value.ownBlock] at hk) hT,hT,fun cs h=>by rw [Array.getElem?_eq_none (q_r)] at h; cases h⟩
  ·refine⟨h,ho.hlo,zJ hgr (fun k hk=>by simpa [Value.ownBlock] using hk.symm) ho.noU,ho.noU,fun cs hcs=>?_⟩;obtain⟨hs,a1,-,-⟩:=ho.hh;rw [a1] at hcs;injection hcs with hcs
   injection hcs with _ hcs
   exact absurd hcs (by decide)
 obtain⟨g',hg',hc',hT',hty⟩:=hchg;refine⟨g,cap',w',hrun,?_,g',hg',hc',hT'⟩
 rcases ho'.2 with ⟨h,_⟩ | ⟨g2,cap2,cur,hv,hbg,hh,hnc,hcm',hcs,htk⟩
 ·cases h
 ·injection hv with e1 _ e3
  injection e1 with e1
  injection e1 with e1 _
  subst e1 e3
  have hrow:∀ {b k x},xG N w b k n x->xG N w' b k n x:=fun {b k x} hr=>by
   refine hr.chg hc' (by omega) ?_
   have:b≠g':=by
    rintro rfl;obtain⟨-,-,⟨cs,h5,-⟩,-⟩:=hr;exact hty cs h5
   omega
  have hxl:xs.length=m:=by have:=hown.1; omega
  have hx:∀ k,k < m+1->cur[k]?=(xs ++ [.slice (some ⟨b,0,none⟩) n cap])[k]?:=by
   intro k hk;rw [<-htk,List.getElem?_take,if_pos (by omega)]; simp
  have hbl:=(hrow hr).lt;have hsz:=hgr.size;refine⟨h1,by omega,q_r,?_⟩
  rcases h4 with ⟨rfl,rfl⟩ | ⟨h,cap0,β,κ,rfl,hc,ho⟩
  ·refine .inr ⟨g,cap',fun _=>b,fun _=>cap,rfl,hcm',⟨h1,⟨cur,hh,by omega,fun i hi'=>?_⟩,by omega,hbg,by omega,q_r,fun i _=>by omega,fun i _=>hbl,fun i _=>hcm,fun i hi'=>?_,fun i j hi' hj' hij=>by omega⟩⟩
   ·rw [hx i (by omega),List.getElem?_append_right (by omega),show i - xs.length=0 by omega]; rfl
   ·obtain rfl:i=0:=by omega
    rw [yP]; exact hrow hr
  ·obtain⟨hs,a1,a2,a3⟩:=ho.hh;have hme:=ho.mle
   have hxs:xs=hs.toList.take (m*1):=by
    rcases hown.2 with ⟨h9,_⟩ | ⟨g9,c9,cur9,hv9,_,hh9,_,_,_,ht9⟩
    ·cases h9
    ·have e1:h=g9:=Option.some.inj (congrArg Value.ownBlock hv9);clear hv9;subst e1;rw [a1] at hh9;have e2:hs=cur9:=congrArg (fun o:Option Obj=>match o with | some (.cells c _ _)=>c | _=>#[]) hh9;subst e2;exact ht9.symm
   refine .inr ⟨g,cap',fun i=>if i=m then b else β i,fun i=>if i=m then cap else κ i,rfl,hcm',⟨h1,⟨cur,hh,by omega,fun i hi'=>?_⟩,by omega,hbg,by omega,q_r,fun i hi'=>?_,fun i hi'=>?_,fun i hi'=>?_,fun i hi'=>?_,fun i j hi' hj' hij=>?_⟩⟩
   ·by_cases him:i=m
    ·subst him;rw [hx i (by omega),List.getElem?_append_right (by omega),show i - xs.length=0 by omega]
     simp
    ·rw [hx i (by omega),List.getElem?_append_left (by omega),hxs,List.getElem?_take,if_pos (by omega)];simp only [him,if_false];have h8:=a3 i (by omega);rw [Array.getElem?_toList];exact h8
   ·by_cases him:i=m
    ·simp only [him,if_true]; omega
    ·simp only [him,if_false]; exact ho.lo_ i (by omega)
   ·by_cases him:i=m
    ·simp only [him,if_true]; exact hbl
    ·simp only [him,if_false]; have:=ho.hi_ i (by omega); omega
   ·by_cases him:i=m
    ·simp only [him,if_true]; exact hcm
    ·simp only [him,if_false]; exact ho.cap i (by omega)
   ·by_cases him:i=m
    ·simp only [him,if_true]; rw [yP]; exact hrow hr
    ·simp only [him,if_false]; rw [Jj A x him]; exact hrow (ho.row i (by omega))
   ·by_cases him:i=m
    ·have hjm:j≠m:=by omega
     simp only [him,hjm,if_true,if_false];have:=ho.hi_ j (by omega);omega
    ·by_cases hjm:j=m
     ·simp only [him,hjm,if_true,if_false];have:=ho.hi_ i (by omega);omega
     ·simp only [him,hjm,if_false];exact ho.inj i j (by omega) (by omega) hij
end
theorem Zz {A:Nat->Nat->Rat} {o:Oper} {a:Act} {K:Act->World->Prop} {Q:Exit->Act->World->Prop} (s x:Operand) (t:TypeId) (ht:Tryz.prog.underlying t=some (.slice 45))
  (ho:o.op=.call { callee:=.builtin .append,args:=#[s,x],argTypes:=#[t,t] }) (hs:a.eval s=v) (h:xm N lo hi w v m n A) {bx:Nat} (hx:a.eval x=.slice (some ⟨bx,0,none⟩) 1 1) {cap:Nat} {f:Nat->Rat} (hr:xG N w b cap n f) (hb:hi<=b) (hcm:cap<=maxLen)
  {fr:Nat×Nat} (hbx:w.heap[bx]?=some (.cells #[.slice (some ⟨b,0,none⟩) n cap] 45 fr)) (hm:m < 1000000000)
  (hK:∀ h' cap' w',xm N lo w'.heap.size w' (.slice (some ⟨h',0,none⟩) (m+1) cap') (m+1) n (q0N A m f)->(∃ g',lo<=g'/\Chg g' (g'+1) w w'/\NoU w g')->K (a.put o.dst (.slice (some ⟨h',0,none⟩) (m+1) cap')) w'):o.wp Tryz.prog a w K Q:=by
 obtain⟨h',cap',w',hrun,h1,h2⟩:=Z9 t o.type ht h hr hb hcm hbx hm;unfold Oper.wp execOp;simp only [ho,resolve,invoke,builtin,Sem.run_bind,Sem.run_pure,Result.andThen_ok,List.map_toArray,List.map_cons,List.map_nil,hs,hx,hrun];exact hK h' cap' w' h1 h2
theorem vX {A:Nat->Nat->Rat} {ops:Array Oper} {rest:List Oper} {o:Oper} {a:Act} {Q:Exit->Act->World->Prop} (hgd:o.guard=none) (s x:Operand) (t:TypeId) (ht:Tryz.prog.underlying t=some (.slice 45))
  (ho:o.op=.call { callee:=.builtin .append,args:=#[s,x],argTypes:=#[t,t] }) (hs:a.eval s=v) (h:xm N lo hi w v m n A) {bx:Nat} (hx:a.eval x=.slice (some ⟨bx,0,none⟩) 1 1) {cap:Nat} {f:Nat->Rat} (hr:xG N w b cap n f) (hb:hi<=b) (hcm:cap<=maxLen)
  {fr:Nat×Nat} (hbx:w.heap[bx]?=some (.cells #[.slice (some ⟨b,0,none⟩) n cap] 45 fr)) (hm:m < 1000000000)
  (hK:∀ h' cap' w',xm N lo w'.heap.size w' (.slice (some ⟨h',0,none⟩) (m+1) cap') (m+1) n (q0N A m f)->(∃ g',lo<=g'/\Chg g' (g'+1) w w'/\NoU w g')->wpList Tryz.prog ops Q rest (a.put o.dst (.slice (some ⟨h',0,none⟩) (m+1) cap')) w'):wpList Tryz.prog ops Q (o :: rest) a w :=
 wpList_plain hgd fun _ hK'=>Zz s x t ht ho hs h hx hr hb hcm hbx hm (fun h' cap' w' a1 a2=>hK' _ _ (hK h' cap' w' a1 a2))
theorem At4.open {o:Nat} (h:At4 N w b o (raw q)):∃ (B:Bool) (A:Option Addr) (n c:Nat) (A':Option Addr) (n' c':Nat),w.cell? ⟨b,o,none⟩=some (.bool B)/\w.cell? ⟨b,o+1,none⟩=some (.slice A n c)/\w.cell? ⟨b,o+2,none⟩=some (.bool false)/\w.cell? ⟨b,o+3,none⟩=some (.slice A' n' c')/\Hid (B=decide (q.num < 0))/\Gs N w (.slice A n c) (dg q.num.natAbs)/\Gs N w (.slice A' n' c') (dg q.den):=by
 obtain⟨s,t,h0,h1,h2,h3,g1,g2⟩:=h;obtain⟨A,n,c,rfl,-,-,-⟩:=g1.form;obtain⟨A',n',c',rfl,-,-,-⟩:=g2.form;exact⟨_,A,n,c,A',n',c',h0,h1,h2,h3,rfl,g1,g2⟩
theorem At4.opn {o:Nat} (h:At4 N w b o (raw q)):∃ (B:Bool) (A:Option Addr) (n c:Nat) (A':Option Addr) (n' c':Nat),w.cell? ⟨b,o,none⟩=some (.bool B)/\w.cell? ⟨b,o+1,none⟩=some (.slice A n c)/\w.cell? ⟨b,o+2,none⟩=some (.bool false)/\w.cell? ⟨b,o+3,none⟩=some (.slice A' n' c')/\qp N w (.agg #[.bool B,.slice A n c,.bool false,.slice A' n' c']) q:=by
 obtain⟨B,A,n,c,A',n',c',h0,h1,h2,h3,hb,g1,g2⟩:=h.open;exact⟨B,A,n,c,A',n',c',h0,h1,h2,h3,qp.mk hb g1 g2⟩
theorem LsV.addr {x:Nat->Rat} (h:LsV N lo hi w (.slice A n c) n x) (hn:0 < n):∃ b off,A=some ⟨b,off,none⟩/\lo<=b/\b < hi/\∀ i,i < n->At4 N w b (off+i*4) (raw (x i)):=LsR.addr h hn
theorem MtV.addr {X:Nat->Nat->Rat} (h:MtV N lo hi w (.slice A m c) m n X) (hm:0 < m):∃ b off,A=some ⟨b,off,none⟩/\lo<=b/\b < hi/\∀ i,i < m->∃ (A':Option Addr) (c':Nat),w.cell? ⟨b,off+i,none⟩=some (.slice A' n c')/\n<=c'/\c'<=maxLen/\LsV N lo hi w (.slice A' n c') n (X i):=MtR.addr h hm
theorem LsV.ext {x:Nat->Rat} (h:LsV N lo hi w v n x) (e:Ext w w'):LsV N lo hi w' v n x:=LsR.ext h e
theorem LsV.form {x:Nat->Rat} (h:LsV N lo hi w v n x):∃ (A:Option Addr) (c:Nat),v=.slice A n c/\n<=c/\c<=maxLen:=LsR.form h
theorem q1u:(Tryz.prog.info? 3).map (fun i=>(i.zero,i.size,i.bytes))=some (some (.int .i64 0),1,8):=by kernel_rfl
abbrev i64v (x:Nat):Value:=.int .i64 ((x:Nat):Int)
def IsV (lo hi:Nat) (w:World) (v:Value) (p:List Nat):Prop :=
 hi<=w.heap.size/\∃ (A:Option Addr) (c:Nat),v=.slice A p.length c/\p.length<=c/\c<=maxLen /\
  (0 < p.length->∃ b off,A=some ⟨b,off,none⟩/\lo<=b/\b < hi/\∀ i,i < p.length->w.cell? ⟨b,off+i,none⟩=some (.int .i64 ((p[i]?.getD 0:Nat):Int)))
theorem IsV.ext {p:List Nat} (h:IsV lo hi w v p) (e:Ext w w'):IsV lo hi w' v p:=by
 obtain⟨h2,A,c,hv,h3,h4,h5⟩:=h;refine⟨q_l h2 e.size,A,c,hv,h3,h4,fun hn=>?_⟩;obtain⟨b,off,hA,hl,hh,hx⟩:=h5 hn;exact⟨b,off,hA,hl,hh,fun i hi=>e.cell (hx i hi)⟩
theorem IsV.chg {l h:Nat} {p:List Nat} (hx:IsV lo hi w v p) (c:Chg l h w w') (hd:hi<=l\/h<=lo):IsV lo hi w' v p:=by
 obtain⟨h2,A,k,hv,h3,h4,h5⟩:=hx;refine⟨q_l h2 c.size,A,k,hv,h3,h4,fun hn=>?_⟩;obtain⟨b,off,hA,hl,hh,hx⟩:=h5 hn;exact⟨b,off,hA,hl,hh,fun i hi=>c.cell (p:=⟨b,off+i,none⟩) (hx i hi) (by simp only; omega)⟩
theorem IsV.form {p:List Nat} (h:IsV lo hi w v p):∃ (A:Option Addr) (c:Nat),v=.slice A p.length c/\p.length<=c/\c<=maxLen:=by
 obtain⟨a2,A,c,hv,a3,a4,a5⟩:=h;exact⟨A,c,hv,a3,a4⟩
theorem IsV.at_ {p:List Nat} (h:IsV lo hi w (.slice A n c) p) (hi':i < p.length):∃ b off z,A=some ⟨b,off,none⟩/\w.cell? ⟨b,off+i,none⟩=some (.int .i64 ((z:Nat):Int))/\Hid (z=p[i]?.getD 0):=by
 obtain⟨a2,A,c,hv,a3,a4,a5⟩:=h;injection hv with e1 e2 e3
 subst e1;obtain⟨b,off,hA,-,-,hx⟩:=a5 (by omega);exact⟨b,off,_,hA,hx i hi',rfl⟩
theorem IsV.wide {lo' hi':Nat} {p:List Nat} (h:IsV lo hi w v p) (h1:lo'<=lo) (h2:hi<=hi') (h3:hi'<=w.heap.size):IsV lo' hi' w v p:=by
 obtain⟨a2,A,c,hv,a3,a4,a5⟩:=h;refine⟨h3,A,c,hv,a3,a4,fun hn=>?_⟩;obtain⟨b,off,hA,hl,hh,hx⟩:=a5 hn;exact⟨b,off,hA,by omega,by omega,hx⟩
def q5k (base:Nat) (w:World) (v:Value) (p:List Nat):Prop:=base<=w.heap.size/\w.ownsRow base 3 1 v p.length (p.map i64v)
theorem q5k.nil (h:base<=w.heap.size):q5k base w (.slice none 0 0) []:=⟨h,by simp,.inl ⟨rfl,rfl⟩⟩
theorem q5k.empty (hb:base<=g) (h:w.heap[g]?=some (.cells #[] 3 (0,0))):q5k base w (.slice (some ⟨g,0,none⟩) 0 0) [] :=
 ⟨by have:=qI h; omega,by simp,.inr ⟨g,0,#[],rfl,hb,h,q_r,Nat.zero_le _,rfl,rfl⟩⟩
theorem q5k.form {p:List Nat} (h:q5k base w v p):∃ A c,v=.slice A p.length c/\p.length<=c:=by
 rcases h.2.2 with ⟨rfl,h0⟩ | ⟨g,cap,cur,rfl,_,_,hc,_⟩
 ·exact⟨_,_,by rw [h0],by omega⟩
 ·exact⟨_,_,rfl,hc⟩
theorem q5k.ext {p:List Nat} (h:q5k base w v p) (e:Ext w w'):q5k base w' v p:=by
 refine⟨q_l h.1 e.size,h.2.1,?_⟩
 rcases h.2.2 with h0 | ⟨g,cap,cur,hv,hb,hh,h1,h2,h3,h4⟩
 ·exact .inl h0
 ·exact .inr ⟨g,cap,cur,hv,hb,e.block hh,h1,h2,h3,h4⟩
theorem q5k.chg {l u:Nat} {p:List Nat} (h:q5k base w v p) (c:Chg l u w w') (hd:u<=base):q5k base w' v p:=by
 refine⟨q_l h.1 c.size,h.2.1,?_⟩
 rcases h.2.2 with h0 | ⟨g,cap,cur,hv,hb,hh,h1,h2,h3,h4⟩
 ·exact .inl h0
 ·exact .inr ⟨g,cap,cur,hv,hb,c.blk hh (by omega),h1,h2,h3,h4⟩
theorem q5k.isv {p:List Nat} (h:q5k base w v p) (hl:lo<=base):IsV lo w.heap.size w v p:=by
 refine⟨q_r,?_⟩
 rcases h.2.2 with ⟨rfl,h0⟩ | ⟨g,cap,cur,rfl,hb,hh,h1,h2,h3,h4⟩
 ·exact⟨none,0,by rw [h0],by omega,Nat.zero_le _,fun h=>absurd h (by omega)⟩
 ·refine⟨_,cap,rfl,h1,h2,fun hn=>⟨g,0,rfl,by omega,qI hh,fun i hi=>?_⟩⟩;rw [Nat.zero_add,qg hh];have e1:cur[i]?=(cur.toList.take (p.length*1))[i]?:=by rw [List.getElem?_take,if_pos (by omega)]; simp
  rw [e1,h4,List.getElem?_map,List.getElem?_eq_getElem (by omega)]
  simp
theorem Za (t ty:TypeId) (ht:Tryz.prog.underlying t=some (.slice 3)) {p:List Nat} (h:q5k base w v p)
 {z:Nat} {fr:Nat×Nat} (hb:w.heap[b]?=some (.cells #[.int .i64 (z:Int)] 3 fr)) (hn:p.length < 1000000000) :
  ∃ g cap w',(Builtin.append_ #[t,t] ty #[v,.slice (some ⟨b,0,none⟩) 1 1]).run Tryz.prog w=.ok (.slice (some ⟨g,0,none⟩) (p.length+1) cap) w'/\q5k base w' (.slice (some ⟨g,0,none⟩) (p.length+1) cap) (p ++ [z])/\(∃ g',base<=g'/\Chg g' (g'+1) w w'/\NoU w g'):=by
 obtain⟨i0,hi0,hz0,hz1,hz2⟩:=info_parts q1u;obtain⟨h1,hown⟩:=h
 obtain⟨g,cap,w',hrun,ho,hgr,hat,hlt⟩:=run_append_lies (P:=Tryz.prog) w t ty base 3 i0 _ 1 8 ht hi0 hz0 hz1 hz2 rfl (by omega) v p.length (p.map i64v) hown ⟨b,0,none⟩ 1 1 [.int .i64 (z:Int)] rfl
  (fun j u hj=>by
   rw [xQ,Nat.zero_add,qg hb]
   simpa using hj)
  (fun u hu=>by simp at hu; subst hu; rfl) (by omega) (by unfold maxLen; omega) (by omega) h1 w.heap.size rfl
 refine⟨g,cap,w',hrun,⟨q_l h1 hgr.size,?_⟩,?_⟩
 ·rw [List.map_append,List.length_append]; exact ho
 ·have hT:NoU w w.heap.size:=fun cs fr h=>by rw [Array.getElem?_eq_none (q_r)] at h; cases h
  rcases hown.2 with ⟨rfl,h0⟩ | ⟨g0,cap0,cur,rfl,hb0,hh,_⟩
  ·exact⟨w.heap.size,h1,zJ hgr (fun k hk=>by simp [Value.ownBlock] at hk) hT,hT⟩
  ·have hT0:NoU w g0:=NoU.mk hh (by decide);exact⟨g0,hb0,zJ hgr (fun k hk=>by simpa [Value.ownBlock] using hk.symm) hT0,hT0⟩
theorem ZE {o:Oper} {a:Act} {K:Act->World->Prop} {Q:Exit->Act->World->Prop} (s x:Operand) (t:TypeId) (ht:Tryz.prog.underlying t=some (.slice 3))
  (ho:o.op=.call { callee:=.builtin .append,args:=#[s,x],argTypes:=#[t,t] }) {p:List Nat} (hs:a.eval s=v) (h:q5k base w v p)
 (hx:a.eval x=.slice (some ⟨b,0,none⟩) 1 1) {z:Nat} {fr:Nat×Nat} (hb:w.heap[b]?=some (.cells #[.int .i64 (z:Int)] 3 fr)) (hn:p.length < 1000000000)
  (hK:∀ g cap w',q5k base w' (.slice (some ⟨g,0,none⟩) (p.length+1) cap) (p ++ [z])->(∃ g',base<=g'/\Chg g' (g'+1) w w'/\NoU w g')->K (a.put o.dst (.slice (some ⟨g,0,none⟩) (p.length+1) cap)) w'):o.wp Tryz.prog a w K Q:=by
 obtain⟨g,cap,w',hrun,h1,h2⟩:=Za t o.type ht h hb hn;unfold Oper.wp execOp;simp only [ho,resolve,invoke,builtin,Sem.run_bind,Sem.run_pure,Result.andThen_ok,List.map_toArray,List.map_cons,List.map_nil,hs,hx,hrun];exact hK g cap w' h1 h2
theorem zM {ops:Array Oper} {rest:List Oper} {o:Oper} {a:Act} {Q:Exit->Act->World->Prop} (hgd:o.guard=none) (s x:Operand) (t:TypeId) (ht:Tryz.prog.underlying t=some (.slice 3))
  (ho:o.op=.call { callee:=.builtin .append,args:=#[s,x],argTypes:=#[t,t] }) {p:List Nat} (hs:a.eval s=v) (h:q5k base w v p)
 (hx:a.eval x=.slice (some ⟨b,0,none⟩) 1 1) {z:Nat} {fr:Nat×Nat} (hb:w.heap[b]?=some (.cells #[.int .i64 (z:Int)] 3 fr)) (hn:p.length < 1000000000)
  (hK:∀ g cap w',q5k base w' (.slice (some ⟨g,0,none⟩) (p.length+1) cap) (p ++ [z])->(∃ g',base<=g'/\Chg g' (g'+1) w w'/\NoU w g')->wpList Tryz.prog ops Q rest (a.put o.dst (.slice (some ⟨g,0,none⟩) (p.length+1) cap)) w'):wpList Tryz.prog ops Q (o :: rest) a w :=
 wpList_plain hgd fun _ hK'=>ZE s x t ht ho hs h hx hb hn (fun g cap w' a1 a2=>hK' _ _ (hK g cap w' a1 a2))
def jf (n:Nat) (p:Nat->Bool):Bool:=(List.range n).any p
theorem jR {p:Nat->Bool} (hi:i < n) (h:p i=true):jf n p=true:=by
 unfold jf; rw [List.any_eq_true]; exact⟨i,List.mem_range.2 hi,h⟩
theorem kD {p:Nat->Bool}:jf n p=false↔∀ i,i < n->p i=false:=by simp [jf]
theorem YU (n:Nat) (p:Nat->Bool):(!jf n (fun i=>!p i))=allB n p:=by
 cases h:allB n p with
 | true =>
  have:jf n (fun i=>!p i)=false:=kD.2 (fun i hi=>by rw [xe.1 h i hi]; rfl);rw [this]; rfl
 | false =>
  cases h2:jf n (fun i=>!p i) with
  | true=>rfl
  | false =>
   have:allB n p=true:=xe.2 (fun i hi=>by have:=kD.1 h2 i hi; simpa using this);rw [this] at h; cases h
def YW (w:World) (r:Bool) (e:Ending) (w':World):Prop:=∃ z:Int,e=.returned (.int .i64 z)/\Hid (r=decide (0<=z))/\Ext w w'
end Go.Proofs.YtphpkhoeplcedaaGreat
