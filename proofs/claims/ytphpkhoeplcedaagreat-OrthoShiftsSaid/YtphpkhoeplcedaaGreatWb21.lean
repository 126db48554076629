import Derived.Test.YtphpkhoeplcedaaGreatWb17
set_option linter.all false
set_option maxHeartbeats 8000000
namespace Go.Proofs.YtphpkhoeplcedaaGreat
open Go.RowKit
def RetRC (N:Nat) (w:World) (q:Rat) (e:Ending) (w':World):Prop:=∃ v,e=.returned (.tuple #[v,.int .i64 0])∧RatV N w' v q∧Ext w w'
theorem f_divide {N:Nat} {w:World} {v v':Value} {x y:Rat} (h:RatV N w v x) (h':RatV N w v' y) (hz:Sz x) (hz':Sz y) (hy:y≠0) :
  Calls Tryz.prog 152 #[v,v'] w (RetRC N w (x / y)):=by
 obtain⟨q,hq⟩:=hid_eq (x / y);rw [←hq.out];have HQ:Hid (Rat.divInt (x.num*y.den) ((x.den:Int)*y.num)=q):=by rw [Hid,hq.out,div_divInt]
 have L1:Hid (ln (x.num*(y.den:Int)).natAbs≤2000000000):=by rw [Hid,Int.natAbs_mul,Int.natAbs_natCast]; exact ln_prod hz.1 hz'.2
 have L3:Hid (ln ((x.den:Int)*y.num).natAbs≤2000000000):=by rw [Hid,Int.natAbs_mul,Int.natAbs_natCast]; exact ln_prod hz.2 hz'.1
 have Y0:Hid (y.num≠0):=by unfold Hid; intro e; exact hy (Rat.num_eq_zero.1 e)
 have D0:Hid ((x.den:Int)*y.num≠0):=by have h8:=x.den_pos; exact Int.mul_ne_zero (by omega) Y0.out
 clear hq hy;have hI:=h;have hI':=h';have hN:=h.le;obtain⟨m1,X1,i1,d1,X2,i2,d2,rfl,hm1,gx1,gx2⟩:=h.parts;obtain⟨m2,Y1,i3,d3,Y2,i4,d4,rfl,hm2,gy1,gy2⟩:=h'.parts;have HZ:=Lib.hid hz;have HZ':=Lib.hid hz';clear hz hz' h h' gx1 gx2 gy1 gy2;go_enter Tryz.func152,Tryz.ntmps152;go_wp2;refine boxes3 ?_;intro W hE hsz B0 B1 B2;obtain⟨a0,a1,a2,a3,-⟩:=cells4 B0;obtain⟨b0,b1,b2,b3,-⟩:=cells4 B1
 go_cut [] (fun wx=>∃ n1 A1 k1 c1 A2 k2 c2 n2 A3 k3 c3 A4 k4 c4,Ext w wx∧w.heap.size+2≤wx.heap.size∧wx.heap[w.heap.size]?=some (.cells #[.bool n1,.slice A1 k1 c1,.bool false,.slice A2 k2 c2] 29 (0,0))∧wx.heap[w.heap.size+1]?=some (.cells #[.bool n2,.slice A3 k3 c3,.bool false,.slice A4 k4 c4] 29 (0,0))∧Hid (n1=decide (x.num < 0))∧Hid (n2=decide (y.num < 0))∧Gs N wx (.slice A1 k1 c1) (dg x.num.natAbs)∧Gs N wx (.slice A2 k2 c2) (dg x.den)∧Gs N wx (.slice A3 k3 c3) (dg y.num.natAbs)∧Gs N wx (.slice A4 k4 c4) (dg y.den)∧w.heap.size+3≤wx.heap.size∧wx.heap[w.heap.size+1+1]?=some (.cells #[.bool false,.slice none 0 0,.bool false,.slice none 0 0] 29 (0,0)))
 case first =>
  have eC:=(Ext.refl W).drew
  go_region_with (first
   | (go_at_call_of 111 X1; refine (f_value (by exact hI.ext (hE.trans eC)) HZ.out).mono ?_; intro e w1 hh; obtain⟨n1,A1,k1,c1,A2,k2,c2,rfl,hb1,g1,g2,e1⟩:=hh.form; replace eC:=eC.trans e1; have C0:=eC.block B0; have C1:=eC.block B1; obtain⟨p0,p1,p2,p3,p4,p5,p6,p7⟩:=cells4 C0; obtain⟨q0,q1,q2,q3,q4,q5,q6,q7⟩:=cells4 C1)
   | (go_at_call_of 111 Y1; refine (f_value (by exact hI'.ext (hE.trans eC)) HZ'.out).mono ?_; intro e w2 hh; obtain⟨n2,A3,k3,c3,A4,k4,c4,rfl,hb2,g3,g4,e2⟩:=hh.form; replace eC:=eC.trans e2; have C0:=eC.block B0; have C1:=eC.block B1; obtain⟨p0,p1,p2,p3,p4,p5,p6,p7⟩:=cells4 C0; obtain⟨q0,q1,q2,q3,q4,q5,q6,q7⟩:=cells4 C1))
  all_goals
   go_wp2_with fail
   go_meet
   obtain⟨w3,E3,D0,U⟩:=ex4 C0 (.bool n1) (.slice A1 k1 c1) (.bool false) (.slice A2 k2 c2);rw [E3];obtain⟨w4,E4,D1,U'⟩:=ex4 (U.blk C1 (by omega)) (.bool n2) (.slice A3 k3 c3) (.bool false) (.slice A4 k4 c4);rw [E4];have hT0:=NoU.mk C0 (by decide);have hT1:=NoU.mk (U.blk C1 (by omega)) (by decide);refine⟨n1,A1,k1,c1,A2,k2,c2,n2,A3,k3,c3,A4,k4,c4,U'.ext (U.ext (hE.trans eC) (Nat.le_refl _)) (by omega),?_,U'.blk D0 (by omega),D1,hb1,hb2,((g1.ext e2).upd U (by omega) hT0).upd U' (by omega) hT1,((g2.ext e2).upd U (by omega) hT0).upd U' (by omega) hT1,(g3.upd U (by omega) hT0).upd U' (by omega) hT1,(g4.upd U (by omega) hT0).upd U' (by omega) hT1,(by rw [U'.size,U.size]; have:=eC.size; omega),U'.blk (U.blk (eC.block B2) (by omega)) (by omega)⟩;rw [U'.size,U.size]; have:=eC.size; omega
 case rest =>
  clear a0 a1 a2 a3 b0 b1 b2 b3 B0 B1 B2 hE hsz hI hI';obtain⟨n1,A1,k1,c1,A2,k2,c2,n2,A3,k3,c3,A4,k4,c4,hE,-,B0,B1,hb1,hb2,g1,g2,g3,g4,hsz,B2⟩:=hcut;obtain⟨a0,a1,a2,a3,-⟩:=cells4 B0;obtain⟨b0,b1,b2,b3,-⟩:=cells4 B1;obtain⟨sy,hsy⟩:=hid_eq y.num.sign
  have t1:(sy == 0)=false:=by
   have:sy≠0:=by rw [hsy.out]; intro e; exact Y0.out (Int.sign_eq_zero_iff_zero.1 e)
   simpa using this
  go_wp2_with (go_at_call 110; refine Hid.out ?_);refine (i_sign (num_intV hb2 g3)).mono ?_;rintro e w4 ⟨rfl,e4⟩;rw [←hsy.out];replace hE:=hE.trans e4;replace B0:=e4.block B0;replace B1:=e4.block B1;replace B2:=e4.block B2;replace hsz:=Nat.le_trans hsz e4.size;replace g1:=g1.ext e4;replace g2:=g2.ext e4;replace g3:=g3.ext e4;replace g4:=g4.ext e4;clear a0 a1 a2 a3 b0 b1 b2 b3;obtain⟨a0,a1,a2,a3,-⟩:=cells4 B0;obtain⟨b0,b1,b2,b3,-⟩:=cells4 B1;go_wp2;have eC:=(Ext.refl w4).drew
  go_region_held3 (fun w'=>(w'.cell? ⟨w.heap.size,0,none⟩=some (.bool n1)∧w'.cell? ⟨w.heap.size,1,none⟩=some (.slice A1 k1 c1)∧w'.cell? ⟨w.heap.size,2,none⟩=some (.bool false)∧w'.cell? ⟨w.heap.size,3,none⟩=some (.slice A2 k2 c2))∧(w'.cell? ⟨w.heap.size+1,0,none⟩=some (.bool n2)∧w'.cell? ⟨w.heap.size+1,1,none⟩=some (.slice A3 k3 c3)∧w'.cell? ⟨w.heap.size+1,2,none⟩=some (.bool false)∧w'.cell? ⟨w.heap.size+1,3,none⟩=some (.slice A4 k4 c4)))
   (first | exact⟨⟨a0,a1,a2,a3⟩,⟨b0,b1,b2,b3⟩⟩ | exact⟨⟨eC.cell a0,eC.cell a1,eC.cell a2,eC.cell a3⟩,⟨eC.cell b0,eC.cell b1,eC.cell b2,eC.cell b3⟩⟩ | exact⟨⟨cell_far _ (cell_far _ (cell_far _ (cell_far _ (eC.cell a0) (by omega)) (by omega)) (by omega)) (by omega),cell_far _ (cell_far _ (cell_far _ (cell_far _ (eC.cell a1) (by omega)) (by omega)) (by omega)) (by omega),cell_far _ (cell_far _ (cell_far _ (cell_far _ (eC.cell a2) (by omega)) (by omega)) (by omega)) (by omega),cell_far _ (cell_far _ (cell_far _ (cell_far _ (eC.cell a3) (by omega)) (by omega)) (by omega)) (by omega)⟩,⟨cell_far _ (cell_far _ (cell_far _ (cell_far _ (eC.cell b0) (by omega)) (by omega)) (by omega)) (by omega),cell_far _ (cell_far _ (cell_far _ (cell_far _ (eC.cell b1) (by omega)) (by omega)) (by omega)) (by omega),cell_far _ (cell_far _ (cell_far _ (cell_far _ (eC.cell b2) (by omega)) (by omega)) (by omega)) (by omega),cell_far _ (cell_far _ (cell_far _ (cell_far _ (eC.cell b3) (by omega)) (by omega)) (by omega)) (by omega)⟩⟩)
   (first
    | (go_at_call_of 113 A1; refine (i_mul (by exact num_intV hb1 (g1.ext eC)) (by exact den_intV (g4.ext eC)) (by have:=HZ.out.1; omega) (by rw [Int.natAbs_natCast]; have:=HZ'.out.2; omega)).mono ?_; rintro e w5 ⟨v5,rfl,h5,e5⟩; replace eC:=eC.trans e5)
    | (go_at_call_of 113 A2; refine (i_mul (by exact den_intV (g2.ext eC)) (by exact num_intV hb2 (g3.ext eC)) (by rw [Int.natAbs_natCast]; have:=HZ.out.2; omega) (by have:=HZ'.out.1; omega)).mono ?_; rintro e w6 ⟨v6,rfl,h6,e6⟩; replace eC:=eC.trans e6)
    | (go_at_call 199; refine (f_reduced (by exact h5.ext e6) (by exact h6) D0.out (by have:=L1.out; omega) (by have:=L3.out; omega)).mono ?_; rw [HQ.out]; intro e w10 hh; obtain⟨n10,A10,k10,c10,A11,k11,c11,rfl,hb10,h10,h11,e10⟩:=hh.form; replace eC:=eC.trans e10; have D2:=eC.block B2; obtain⟨r0,r1,r2,r3,r4,r5,r6,r7⟩:=cells4 D2))
  go_wp2;obtain⟨w12,E12,F2,U⟩:=ex4 D2 (.bool n10) (.slice A10 k10 c10) (.bool false) (.slice A11 k11 c11);rw [E12];obtain⟨z0,z1,z2,z3,-⟩:=cells4 F2;refine bodyPost_ret (v:=.tuple #[.agg #[.bool n10,.slice A10 k10 c10,.bool false,.slice A11 k11 c11],.int .i64 0]) ?_ rfl ⟨_,rfl,RatV.mk hb10 (h10.upd U (by omega) (NoU.mk D2 (by decide))) (h11.upd U (by omega) (NoU.mk D2 (by decide))),U.ext (hE.trans eC) (by omega)⟩;simp [results,Tryz.results152,z0,z1,z2,z3,go_sem]
end Go.Proofs.YtphpkhoeplcedaaGreat
