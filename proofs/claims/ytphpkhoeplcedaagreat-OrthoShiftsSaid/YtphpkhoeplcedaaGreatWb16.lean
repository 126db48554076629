import Derived.Test.YtphpkhoeplcedaaGreatWb15
set_option linter.all false
set_option maxHeartbeats 8000000
namespace Go.Proofs.YtphpkhoeplcedaaGreat
open Go.RowKit
theorem r2_whole {N:Nat} {w:World} (hN:N≤w.heap.size) (n:Int) (h1 : -9223372036854775808≤n) (h2:n≤9223372036854775807) :
  Calls Tryz.prog 65 #[.int .i64 n] w (RetI N w n):=by
 go_enter Tryz.func65,Tryz.ntmps65;go_wp2_with (go_at_call 118; refine Hid.out ?_);refine boxesC1 ?_;intro W hE hsz B0;refine (r1_of (N:=N) (by have:=hE.size; omega) n h1 h2).mono ?_;intro e w1 hh;obtain⟨b1,A1,k1,c1,rfl,hb1,g1,e1⟩:=hh.form;have B1:=e1.block B0;obtain⟨r0,r1,r2,r3⟩:=cells2 B1;go_wp2;exact fin_int rfl rfl rfl (hE.trans e1) B1 (by omega) hN g1 hb1.out rfl
theorem r2_Whole {N:Nat} {w:World} (hN:N≤w.heap.size) (n:Int) (h1 : -9223372036854775808≤n) (h2:n≤9223372036854775807) :
  Calls Tryz.prog 31 #[.int .i64 n] w (RetR N w (n:Rat)):=by
 obtain⟨q,hq⟩:=hid_eq ((n:Int):Rat);rw [←hq.out];have HQ:Hid (q.num=n∧q.den=1):=by rw [hq.out]; exact⟨rfl,rfl⟩
 clear hq;go_enter Tryz.func31,Tryz.ntmps31;go_wp2_with (go_at_call 65; refine Hid.out ?_);refine boxesC1 ?_;intro W hE hsz B0;refine (r2_whole (N:=N) (by have:=hE.size; omega) n h1 h2).mono ?_;intro e w1 hh;obtain⟨b1,A1,k1,c1,rfl,hb1,g1,e1⟩:=hh.form;go_wp2_with (go_at_call 65; refine Hid.out ?_);refine (r2_whole (N:=N) (by have:=hE.size; have:=e1.size; omega) 1 (by omega) (by omega)).mono ?_;intro e w2 hh;obtain⟨b2,A2,k2,c2,rfl,hb2,g2,e2⟩:=hh.form;obtain rfl:b2=false:=by rw [hb2.out]; rfl
 have B1:=e2.block (e1.block B0);obtain⟨r0,r1,r2,r3,r4,r5,r6,r7⟩:=cells4 B1;rw [←HQ.out.1] at hb1 g1;rw [show (1:Int).natAbs=q.den from HQ.out.2.symm] at g2;go_wp2;exact fin_rat rfl rfl rfl ((hE.trans e1).trans e2) B1 (by omega) hN (g1.ext e2) g2 hb1
theorem r2_validL {N:Nat} {w:World} {v:Value} {R:Raw} (h:RawV N w v R) (hL:R.l1.length≤35184372088700) (hL':R.l2.length≤35184372088700) :
  Calls Tryz.prog 56 #[v] w (RetV w (.bool (okR R))):=by
 obtain⟨r,hr⟩:=hid_eq (okR R);rw [←hr.out];have hN:=h.le;obtain⟨A1,k1,c1,A2,k2,c2,rfl,g1,g2⟩:=h.parts;obtain⟨b1,l1,b2,l2⟩:=R;have HL:=Lib.hid hL;have HL':=Lib.hid hL';clear hL hL' h
 dsimp only at g1 g2 HL HL' ⊢
 have HR:Hid (r=(okB b1 l1 && okB b2 l2 && decide (0 < zval b2 l2) && decide (Int.gcd (zval b1 l1) (zval b2 l2)=1))):=hr;clear hr;obtain⟨o1,ho1⟩:=hid_eq (okB b1 l1);obtain⟨o2,ho2⟩:=hid_eq (okB b2 l2);rw [←ho1.out,←ho2.out] at HR;go_enter Tryz.func56,Tryz.ntmps56;go_wp2_with (go_at_call 107; refine Hid.out ?_);refine boxesC1 ?_;intro W hE hsz B0;refine (r1_valid (g1.ext hE)).mono ?_;rintro e w1 ⟨rfl,eC⟩;rw [←ho1.out];replace hE:=hE.trans eC;replace B0:=eC.block B0;obtain⟨a0,a1,a2,a3,-⟩:=cells4 B0;cases o1 with
 | false =>
  have HF:Hid (r=false):=HR.out;go_wp2;go_ret;exact⟨ret_bool HF.out.symm,hE⟩
 | true =>
  go_wp2_with (go_at_call 107; refine Hid.out ?_);refine (r1_valid (g2.ext hE)).mono ?_;rintro e w2 ⟨rfl,eC⟩;rw [←ho2.out];replace hE:=hE.trans eC;replace B0:=eC.block B0;clear a0 a1 a2 a3;obtain⟨a0,a1,a2,a3,-⟩:=cells4 B0;cases o2 with
  | false =>
   have HF:Hid (r=false):=HR.out;go_wp2;go_ret;exact⟨ret_bool HF.out.symm,hE⟩
  | true =>
   obtain⟨x,hx⟩:=hid_eq (zval b1 l1);obtain⟨y,hy⟩:=hid_eq (zval b2 l2);rw [←hx.out,←hy.out] at HR;have vx:IntV N w (.agg #[.bool b1,.slice A1 k1 c1]) x:=by rw [hx.out]; exact intV_ok ho1.out.symm g1
   have vy:IntV N w (.agg #[.bool b2,.slice A2 k2 c2]) y:=by rw [hy.out]; exact intV_ok ho2.out.symm g2
   have HLx:Hid (ln x.natAbs≤35184372088700):=by
    obtain⟨e1,-,e3⟩:=okB_spec ho1.out.symm;rw [Hid,hx.out,←e3]; unfold ln; rw [←e1]; exact HL.out
   have HLy:Hid (ln y.natAbs≤35184372088700):=by
    obtain⟨e1,-,e3⟩:=okB_spec ho2.out.symm;rw [Hid,hy.out,←e3]; unfold ln; rw [←e1]; exact HL'.out
   obtain⟨sy,hsy⟩:=hid_eq y.sign;go_wp2_with (go_at_call 106; refine Hid.out ?_);refine (r1_sign (vy.ext hE) (by have:=HLy.out; omega)).mono ?_;rintro e w3 ⟨rfl,eC⟩;rw [←hsy.out];replace hE:=hE.trans eC;replace B0:=eC.block B0;clear a0 a1 a2 a3;obtain⟨a0,a1,a2,a3,-⟩:=cells4 B0
   by_cases hy0:0 < y
   ·have hs1:sy=1:=by rw [hsy.out]; exact Int.sign_eq_one_of_pos hy0
    subst hs1;obtain⟨cz,hcz⟩:=hid_eq ((((Int.gcd x y:Nat):Int) - 1).sign)
    have HF:Hid (r=decide (cz=0)):=by
     rw [Hid,HR.out,hcz.out,decide_eq_true hy0];simp only [Bool.and_true,Bool.true_and,decide_eq_decide];rw [Int.sign_eq_zero_iff_zero];omega
    have HLg:Hid (ln ((Int.gcd x y:Nat):Int).natAbs≤35184372088700):=by
     rw [Hid,Int.natAbs_natCast];exact Nat.le_trans (ln_mono (Nat.le_of_dvd (by omega) (Int.gcd_dvd_natAbs_right x y))) HLy.out
    clear hy0;go_wp2_with (go_at_call 109; refine Hid.out ?_);refine (r1_gcd (vx.ext hE) (vy.ext hE) (by have:=HLx.out; omega) (by have:=HLy.out; omega)).mono ?_;intro e w4 hh;obtain⟨n4,A4,k4,c4,rfl,hb4,h4,e4⟩:=hh.form;go_wp2_with (go_at_call 65; refine Hid.out ?_);refine (r2_whole (N:=N) (by have:=hE.size; have:=e4.size; omega) 1 (by omega) (by omega)).mono ?_;intro e w5 hh;obtain⟨n5,A5,k5,c5,rfl,hb5,h5,e5⟩:=hh.form;go_wp2_with (go_at_call 108; refine Hid.out ?_);refine (r1_compare (IntV.mk hb4 (h4.ext e5)) (IntV.mk hb5 h5) (by have:=HLg.out; omega) (Nat.le_trans (ln_le_of_lt (k:=1) (by decide)) (by omega))).mono ?_;rintro e w6 ⟨rfl,e6⟩;rw [←hcz.out];go_wp2;go_ret;refine⟨ret_bool ?_,((hE.trans e4).trans e5).trans e6⟩;rw [HF.out]
    by_cases hc0:cz=0 <;> simp [hc0]
   ·have HF:Hid (r=false):=by
     rw [Hid,HR.out,decide_eq_false hy0]; simp
    have hs1:sy≤0:=by
     rw [hsy.out]
     rcases Int.lt_or_eq_of_le (Int.not_lt.1 hy0) with h9 | h9
     ·rw [Int.sign_eq_neg_one_of_neg h9]; omega
     ·rw [h9]; simp
    clear hy0;go_wp2;go_ret;exact⟨ret_bool HF.out.symm,hE⟩
theorem r2_valid {N:Nat} {w:World} {v:Value} {R:Raw} (h:RawV N w v R) (hL:R.l1.length≤10000000000) (hL':R.l2.length≤10000000000) :
  Calls Tryz.prog 56 #[v] w (RetV w (.bool (okR R))):=r2_validL h (Nat.le_trans hL (by omega)) (Nat.le_trans hL' (by omega))
theorem r2_value {N:Nat} {w:World} {v:Value} {q:Rat} (h:RatV N w v q) (hz:Sz q) :
  Calls Tryz.prog 69 #[v] w (RetR N w q):=by
 have hN:=h.le;have hI:=h;obtain⟨n1,A1,k1,c1,A2,k2,c2,rfl,hb1,g1,g2⟩:=h.parts;have HZ:=Lib.hid hz;clear hz h;go_enter Tryz.func69,Tryz.ntmps69;go_wp2_with (go_at_call 56; refine Hid.out ?_);refine boxesC2 ?_;intro W hE hsz B0 B1;refine (r2_valid (R:=raw q) (hI.ext hE) (sz_len HZ.out).1 (sz_len HZ.out).2).mono ?_;rintro e w1 ⟨rfl,e1⟩;rw [okR_raw];replace hE:=hE.trans e1;replace B0:=e1.block B0;replace B1:=e1.block B1;obtain⟨a0,a1,a2,a3,-⟩:=cells4 B0;obtain⟨r0,r1,r2,r3,r4,r5,r6,r7⟩:=cells4 B1;go_wp2;exact fin_rat rfl rfl rfl hE B1 (by omega) hN (g1.ext hE) (g2.ext hE) hb1
theorem r2_sign {N:Nat} {w:World} {v:Value} {q:Rat} (h:RatV N w v q) (hz:Sz q) :
  Calls Tryz.prog 54 #[v] w (RetV w (.int .i64 q.num.sign)):=by
 obtain⟨s,hs⟩:=hid_eq q.num.sign;rw [←hs.out];have hN:=h.le;have hI:=h;obtain⟨n1,A1,k1,c1,A2,k2,c2,rfl,hb1,g1,g2⟩:=h.parts;have HZ:=Lib.hid hz;clear hz h;go_enter Tryz.func54,Tryz.ntmps54;go_wp2_with (go_at_call 69; refine Hid.out ?_);refine boxesC1 ?_;intro W hE hsz B0;refine (r2_value (hI.ext hE) HZ.out).mono ?_;intro e w1 hh;obtain⟨n3,A3,k3,c3,A4,k4,c4,rfl,hb3,g3,g4,e1⟩:=hh.form;have hfl:=fun w=>frn0 (.bool n3) (.slice A3 k3 c3) (.bool false) (.slice A4 k4 c4) w
 go_wp2_with (go_at_call 106; refine Hid.out ?_);refine (r1_sign (num_intV hb3 g3) (by have:=HZ.out.1; omega)).mono ?_;rintro e w2 ⟨rfl,e2⟩;rw [←hs.out];go_wp2;go_ret;exact⟨rfl,(hE.trans e1).trans e2⟩
theorem r2_neg {N:Nat} {w:World} {v:Value} {q:Rat} (h:RatV N w v q) (hz:Sz q) :
  Calls Tryz.prog 119 #[v] w (RetR N w (-q)):=by
 obtain⟨p,hp⟩:=hid_eq (-q);rw [←hp.out];have HP:Hid (p.num = -q.num∧p.den=q.den):=by rw [hp.out]; exact⟨rfl,rfl⟩
 clear hp;have hN:=h.le;have hI:=h;obtain⟨n1,A1,k1,c1,A2,k2,c2,rfl,hb1,g1,g2⟩:=h.parts;have HZ:=Lib.hid hz;clear hz h;go_enter Tryz.func119,Tryz.ntmps119;go_wp2_with (go_at_call 69; refine Hid.out ?_);refine boxesC2 ?_;intro W hE hsz B0 B1;refine (r2_value (hI.ext hE) HZ.out).mono ?_;intro e w1 hh;obtain⟨n3,A3,k3,c3,A4,k4,c4,rfl,hb3,g3,g4,e1⟩:=hh.form;replace hE:=hE.trans e1;replace B1:=e1.block B1;have hsz1:w.heap.size+2≤w1.heap.size:=Nat.le_trans hsz e1.size;go_wp2;refine boxes1 ?_;intro w2 e2 hsz2 F0;replace g3:=g3.ext e2;replace g4:=g4.ext e2;replace hE:=hE.trans e2;replace B1:=e2.block B1;obtain⟨a0,a1,a2,a3,a4,a5,a6,a7⟩:=cells4 F0;have eC:=(Ext.refl w2).drew
 go_region_held3 (fun w'=>w'.cell? ⟨w1.heap.size,0,none⟩=some (.bool n3)∧w'.cell? ⟨w1.heap.size,1,none⟩=some (.slice A3 k3 c3)∧w'.cell? ⟨w1.heap.size,2,none⟩=some (.bool false)∧w'.cell? ⟨w1.heap.size,3,none⟩=some (.slice A4 k4 c4))
  (first | exact⟨a0,a1,a2,a3⟩ | exact⟨eC.cell a0,eC.cell a1,eC.cell a2,eC.cell a3⟩ | exact⟨cell_far _ (cell_far _ (cell_far _ (cell_far _ (eC.cell a0) (by omega)) (by omega)) (by omega)) (by omega),cell_far _ (cell_far _ (cell_far _ (cell_far _ (eC.cell a1) (by omega)) (by omega)) (by omega)) (by omega),cell_far _ (cell_far _ (cell_far _ (cell_far _ (eC.cell a2) (by omega)) (by omega)) (by omega)) (by omega),cell_far _ (cell_far _ (cell_far _ (cell_far _ (eC.cell a3) (by omega)) (by omega)) (by omega)) (by omega)⟩)
  (first
   | (go_at_call_of 121 A3; refine (r1_neg (z:=q.num) (by exact num_intV hb3 (g3.ext eC)) (by have:=HZ.out.1; omega)).mono ?_; intro e w5 hh; obtain⟨n5,A5,k5,c5,rfl,hb5,h5,e5⟩:=hh.form; replace eC:=eC.trans e5; obtain⟨r0,r1,r2,r3,r4,r5,r6,r7⟩:=cells4 (eC.block B1)))
 rw [←HP.out.1] at hb5 h5;rw [←HP.out.2] at g4;go_wp2;exact fin_rat rfl rfl rfl (hE.trans eC) (eC.block B1) (by omega) hN h5 (g4.ext eC) hb5
theorem IntV.upd {N g:Nat} {w w':World} {v:Value} {z:Int} (h:IntV N w v z) (u:Upd g w w') (hN:N≤g) (ht:NoU w g):IntV N w' v z:=by
 obtain⟨s,hv,hs⟩:=h; exact⟨s,hv,hs.upd u hN ht⟩
theorem r2_reduced {N:Nat} {w:World} {v v':Value} {x y:Int} (h:IntV N w v x) (h':IntV N w v' y) (hy:y≠0) (hL:ln x.natAbs≤10000000000) (hL':ln y.natAbs≤10000000000) :
  Calls Tryz.prog 70 #[v,v'] w (RetR N w (Rat.divInt x y)):=by
 obtain⟨q,hq⟩:=hid_eq (Rat.divInt x y);rw [←hq.out];have hI:=h;have hI':=h';obtain⟨n1,A1,k1,c1,rfl,Hn1,hs,-⟩:=h.parts;obtain⟨n2,A2,k2,c2,rfl,Hn2,hs',-⟩:=h'.parts;have hN:=hs.le;have HY:=Lib.hid hy;have HLx:=Lib.hid hL;have HLy:=Lib.hid hL'
 have HGN:Hid (0 < Int.gcd x y):=by
  unfold Hid
  rcases Nat.eq_zero_or_pos (Int.gcd x y) with h9 | h9
  ·exact absurd (Int.gcd_eq_zero_iff.1 h9).2 hy
  ·exact h9
 have HLG:Hid (ln (Int.gcd x y)≤10000000000):=Nat.le_trans (ln_mono (Nat.le_of_dvd (by omega) (Int.gcd_dvd_natAbs_right x y))) hL';clear hy hL hL';go_enter Tryz.func70,Tryz.ntmps70;go_wp2_with (go_at_call 109; refine Hid.out ?_);refine boxesC3 ?_;intro W hE hsz B0 B1 B2;refine (r1_gcd (hI.ext hE) (hI'.ext hE) (by have:=HLx.out; omega) (by have:=HLy.out; omega)).mono ?_;intro e w3 hh;obtain⟨b3,A3,k3,c3,rfl,hb3,h3,e3⟩:=hh.form;replace B0:=e3.block B0;replace B1:=e3.block B1;replace B2:=e3.block B2;replace hE:=hE.trans e3;replace hsz:=Nat.le_trans hsz e3.size;obtain⟨b0,b1,b2,b3'⟩:=cells2 B1;have hl1:w.heap.size+1 < w3.heap.size:=by omega
 go_wp2_with (go_at_call 106; refine Hid.out ?_);refine boxesC1 ?_;intro W4 e4 hsz4 BG;replace hE:=hE.trans e4;refine (r1_sign (hI'.ext hE) (by have:=HLy.out; omega)).mono ?_;rintro e w4 ⟨rfl,e4'⟩;replace BG:=e4'.block BG;replace B0:=e4'.block (e4.block B0);replace B1:=e4'.block (e4.block B1);replace B2:=e4'.block (e4.block B2);replace hE:=hE.trans e4';have hgs:w3.heap.size < w4.heap.size:=by have:=e4'.size; omega
 have vg0:IntV N w4 (.agg #[.bool b3,.slice A3 k3 c3]) ((Int.gcd x y:Nat):Int):=IntV.mk hb3 ((h3.ext e4).ext e4');clear b0 b1 b2 b3';obtain⟨a0,a1,a2,a3⟩:=cells2 B0;obtain⟨b0,b1,b2,b3⟩:=cells2 B1;obtain⟨p0,p1,p2,p3⟩:=cells2 BG;have vx:=hI.ext hE;have vy:=hI'.ext hE;obtain⟨sy,hsy⟩:=hid_eq y.sign;rw [←hsy.out]
 by_cases hneg:y < 0
 ·have hs1:sy = -1:=by rw [hsy.out]; exact Int.sign_eq_neg_one_of_neg hneg
  subst hs1;have HB:=Lib.hid hneg;clear hneg hsy;go_wp2_with (go_at_call 121; refine Hid.out ?_);refine (r1_neg vg0 (by rw [Int.natAbs_natCast]; have:=HLG.out; omega)).mono ?_;intro e w6 hh;obtain⟨b6,A6,k6,c6,rfl,hb6,h6,e6⟩:=hh.form;replace B0:=e6.block B0;replace B1:=e6.block B1;replace B2:=e6.block B2;replace BG:=e6.block BG;replace hE:=hE.trans e6;replace vx:=vx.ext e6;replace vy:=vy.ext e6;replace hgs:=Nat.lt_of_lt_of_le hgs e6.size;clear a0 a1 a2 a3 b0 b1 b2 b3 p0 p1 p2 p3;obtain⟨p0,p1,p2,p3⟩:=cells2 BG;go_upto_region 4 with (fail);obtain⟨w8,E8,F8,U⟩:=ex2 BG (.bool b6) (.slice A6 k6 c6);rw [E8];have hT:=NoU.mk BG (by decide);replace vx:=vx.upd U (by omega) hT;replace vy:=vy.upd U (by omega) hT;have vg:IntV N w8 (.agg #[.bool b6,.slice A6 k6 c6]) (-((Int.gcd x y:Nat):Int)):=IntV.upd (IntV.mk hb6 h6) U (by omega) hT;replace B0:=U.blk B0 (by omega);replace B1:=U.blk B1 (by omega);replace B2:=U.blk B2 (by omega);replace hE:=U.ext hE (by omega);replace hgs:w3.heap.size < w8.heap.size:=by rw [U.size]; exact hgs
  replace BG:=F8;clear p0 p1 p2 p3 E8 U hT F8 vg0;obtain⟨a0,a1,a2,a3⟩:=cells2 B0;obtain⟨b0,b1,b2,b3⟩:=cells2 B1;obtain⟨p0,p1,p2,p3⟩:=cells2 BG;have HG0:Hid (-((Int.gcd x y:Nat):Int)≠0):=by have:=HGN.out; unfold Hid; omega
  have HLg:Hid (ln (-((Int.gcd x y:Nat):Int)).natAbs≤10000000000):=by rw [Hid,Int.natAbs_neg,Int.natAbs_natCast]; exact HLG.out
  have Hd:Hid (divF x (-((Int.gcd x y:Nat):Int))=q.num∧divF y (-((Int.gcd x y:Nat):Int))=(q.den:Int)):=by
   rw [Hid,divF_dvd HG0.out (Int.neg_dvd.2 (Int.gcd_dvd_left x y)),divF_dvd HG0.out (Int.neg_dvd.2 (Int.gcd_dvd_right x y)),hq.out,red_neg,red_num (by have:=HB.out; omega),red_den (by have:=HB.out; omega)];rw [Int.neg_gcd,Int.gcd_neg,Int.ediv_neg,Int.ediv_neg];exact⟨(Int.neg_ediv_of_dvd (Int.gcd_dvd_left x y)).symm,(Int.neg_ediv_of_dvd (Int.gcd_dvd_right x y)).symm⟩
  go_wp2_with (go_at_call 122; refine Hid.out ?_);refine (r1_divide vx vg HLx.out HLg.out HG0.out).mono ?_;rintro e w5 ⟨v5,v5',rfl,i5,i5',e5⟩;rw [Hd.out.1] at i5;obtain⟨b5,A5,k5,c5,rfl,hb5,h5,-⟩:=i5.parts;obtain⟨b5',A5',k5',c5',rfl,-,-,-⟩:=i5'.parts;replace B1:=e5.block B1;replace B2:=e5.block B2;replace BG:=e5.block BG;replace vy:=vy.ext e5;replace vg:=vg.ext e5;replace hE:=hE.trans e5;replace hgs:=Nat.lt_of_lt_of_le hgs e5.size;clear a0 a1 a2 a3 b0 b1 b2 b3 p0 p1 p2 p3;obtain⟨b0,b1,b2,b3⟩:=cells2 B1;obtain⟨p0,p1,p2,p3⟩:=cells2 BG;have hl1:w.heap.size+1 < w5.heap.size:=by omega
  have hl0:w.heap.size < w5.heap.size:=by omega
  have hl8:w3.heap.size < w5.heap.size+1:=by omega
  have hl9:w3.heap.size≤w5.heap.size:=by omega
  go_wp2_with (go_at_call 122; refine Hid.out ?_);refine boxesC2 ?_;intro W6 e6 hsz6 C0 C1;replace B2:=e6.block B2;replace vy:=vy.ext e6;replace vg:=vg.ext e6;replace h5:=h5.ext e6;replace hE:=hE.trans e6;refine (r1_divide vy vg HLy.out HLg.out HG0.out).mono ?_;rintro e w7 ⟨v7,v7',rfl,i7,i7',e7⟩;rw [Hd.out.2] at i7;obtain⟨b7,A7,k7,c7,rfl,hb7,h7,-⟩:=i7.parts;obtain⟨b7',A7',k7',c7',rfl,-,-,-⟩:=i7'.parts;obtain rfl:b7=false:=by rw [hb7.out]; simp
  rw [Int.natAbs_natCast] at h7;replace B2:=e7.block B2;replace C0:=e7.block C0;replace h5:=h5.ext e7;replace hE:=hE.trans e7;go_upto_region 6 with (fail);refine boxes2 ?_;intro W8 e8 hsz8 D0 D1;replace B2:=e8.block B2;replace C0:=e8.block C0;obtain⟨s0,s1,s2,s3⟩:=cells2 C0;obtain⟨t0,t1,t2,t3⟩:=cells2 D0;obtain⟨r0,r1,r2,r3,r4,r5,r6,r7⟩:=cells4 B2;go_wp2;exact fin_rat rfl rfl rfl (hE.trans e8) B2 (by omega) hN (h5.ext e8) (h7.ext e8) hb5
 ·have hs1:sy=1:=by rw [hsy.out]; exact Int.sign_eq_one_of_pos (by have:=HY.out; omega)
  subst hs1;have HB:Hid (0 < y):=by have:=HY.out; unfold Hid; omega
  clear hneg hsy;have vg:=vg0;have HG0:Hid (((Int.gcd x y:Nat):Int)≠0):=by have:=HGN.out; unfold Hid; omega
  have HLg:Hid (ln ((Int.gcd x y:Nat):Int).natAbs≤10000000000):=by rw [Hid,Int.natAbs_natCast]; exact HLG.out
  have Hd:Hid (divF x ((Int.gcd x y:Nat):Int)=q.num∧divF y ((Int.gcd x y:Nat):Int)=(q.den:Int)):=by
   have h9:=divF_gcd (a:=x) (b:=y) HY.out;rw [Hid,h9.1,h9.2,hq.out,red_num HB.out,red_den HB.out]; exact⟨rfl,rfl⟩
  go_wp2_with (go_at_call 122; refine Hid.out ?_);refine (r1_divide vx vg HLx.out HLg.out HG0.out).mono ?_;rintro e w5 ⟨v5,v5',rfl,i5,i5',e5⟩;rw [Hd.out.1] at i5;obtain⟨b5,A5,k5,c5,rfl,hb5,h5,-⟩:=i5.parts;obtain⟨b5',A5',k5',c5',rfl,-,-,-⟩:=i5'.parts;replace B1:=e5.block B1;replace B2:=e5.block B2;replace BG:=e5.block BG;replace vy:=vy.ext e5;replace vg:=vg.ext e5;replace hE:=hE.trans e5;replace hgs:=Nat.lt_of_lt_of_le hgs e5.size;clear a0 a1 a2 a3 b0 b1 b2 b3 p0 p1 p2 p3;obtain⟨b0,b1,b2,b3⟩:=cells2 B1;obtain⟨p0,p1,p2,p3⟩:=cells2 BG;have hl1:w.heap.size+1 < w5.heap.size:=by omega
  have hl0:w.heap.size < w5.heap.size:=by omega
  have hl8:w3.heap.size < w5.heap.size+1:=by omega
  have hl9:w3.heap.size≤w5.heap.size:=by omega
  go_wp2_with (go_at_call 122; refine Hid.out ?_);refine boxesC2 ?_;intro W6 e6 hsz6 C0 C1;replace B2:=e6.block B2;replace vy:=vy.ext e6;replace vg:=vg.ext e6;replace h5:=h5.ext e6;replace hE:=hE.trans e6;refine (r1_divide vy vg HLy.out HLg.out HG0.out).mono ?_;rintro e w7 ⟨v7,v7',rfl,i7,i7',e7⟩;rw [Hd.out.2] at i7;obtain⟨b7,A7,k7,c7,rfl,hb7,h7,-⟩:=i7.parts;obtain⟨b7',A7',k7',c7',rfl,-,-,-⟩:=i7'.parts;obtain rfl:b7=false:=by rw [hb7.out]; simp
  rw [Int.natAbs_natCast] at h7;replace B2:=e7.block B2;replace C0:=e7.block C0;replace h5:=h5.ext e7;replace hE:=hE.trans e7;go_upto_region 6 with (fail);refine boxes2 ?_;intro W8 e8 hsz8 D0 D1;replace B2:=e8.block B2;replace C0:=e8.block C0;obtain⟨s0,s1,s2,s3⟩:=cells2 C0;obtain⟨t0,t1,t2,t3⟩:=cells2 D0;obtain⟨r0,r1,r2,r3,r4,r5,r6,r7⟩:=cells4 B2;go_wp2;exact fin_rat rfl rfl rfl (hE.trans e8) B2 (by omega) hN (h5.ext e8) (h7.ext e8) hb5
end Go.Proofs.YtphpkhoeplcedaaGreat
