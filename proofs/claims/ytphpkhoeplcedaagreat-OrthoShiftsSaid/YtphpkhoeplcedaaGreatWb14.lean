import Derived.Test.YtphpkhoeplcedaaGreatWb13
set_option linter.all false
set_option maxHeartbeats 8000000
namespace Go.Proofs.YtphpkhoeplcedaaGreat
open Go.RowKit
theorem intV_ok {N:Nat} {w:World} {b:Bool} {s:Value} {l:List Nat} (h:okB b l=true) (hs:Gs N w s l):IntV N w (.agg #[.bool b,s]) (zval b l):=by
 obtain⟨e1,e2,e3⟩:=okB_spec h;exact⟨s,by rw [←e2],by rw [←e3,←e1]; exact hs⟩
theorem f_copied {N:Nat} {w:World} {v:Value} {q:Rat} (h:RatV N w v q) (hz:Sz q) :
  Calls Tryz.prog 160 #[v] w (RetR N w q):=by
 have hN:=h.le;obtain⟨n1,A1,k1,c1,A2,k2,c2,rfl,hb1,g1,g2⟩:=h.parts;have HZ:=Lib.hid hz;clear hz;go_enter Tryz.func160,Tryz.ntmps160;go_wp2;refine boxes2 ?_;intro W hE hsz B0 B1;obtain⟨a0,a1,a2,a3,-⟩:=cells4 B0;have eC:=(Ext.refl W).drew
 go_region_held3 (fun w'=>w'.cell? ⟨w.heap.size,0,none⟩=some (.bool n1)∧w'.cell? ⟨w.heap.size,1,none⟩=some (.slice A1 k1 c1)∧w'.cell? ⟨w.heap.size,2,none⟩=some (.bool false)∧w'.cell? ⟨w.heap.size,3,none⟩=some (.slice A2 k2 c2))
  (first | exact⟨a0,a1,a2,a3⟩ | exact⟨eC.cell a0,eC.cell a1,eC.cell a2,eC.cell a3⟩ | exact⟨cell_far _ (cell_far _ (cell_far _ (cell_far _ (eC.cell a0) (by omega)) (by omega)) (by omega)) (by omega),cell_far _ (cell_far _ (cell_far _ (cell_far _ (eC.cell a1) (by omega)) (by omega)) (by omega)) (by omega),cell_far _ (cell_far _ (cell_far _ (cell_far _ (eC.cell a2) (by omega)) (by omega)) (by omega)) (by omega),cell_far _ (cell_far _ (cell_far _ (cell_far _ (eC.cell a3) (by omega)) (by omega)) (by omega)) (by omega)⟩)
  (first
   | (go_at_call_of 205 A1; refine (i_neg (z:=q.num) (by exact num_intV hb1 (g1.ext (hE.trans eC))) (by have:=HZ.out.1; omega)).mono ?_; intro e w3 hh; obtain⟨n3,A3,k3,c3,rfl,hb3,h3,e3⟩:=hh.form; replace eC:=eC.trans e3)
   | (go_at_call_of 205 A3; refine (i_neg (z:=-q.num) (by exact IntV.mk hb3 h3) (by rw [Int.natAbs_neg]; have:=HZ.out.1; omega)).mono ?_; intro e w4 hh; obtain⟨n4,A4,k4,c4,rfl,hb4,h4,e4⟩:=hh.form; rw [Int.neg_neg] at hb4 h4; replace eC:=eC.trans e4)
   | (go_at_call_of 205 A2; refine (i_neg (z:=(q.den:Int)) (by exact den_intV (g2.ext (hE.trans eC))) (by rw [Int.natAbs_natCast]; have:=HZ.out.2; omega)).mono ?_; intro e w5 hh; obtain⟨n5,A5,k5,c5,rfl,hb5,h5,e5⟩:=hh.form; replace eC:=eC.trans e5)
   | (go_at_call_of 205 A5; refine (i_neg (z:=-(q.den:Int)) (by exact IntV.mk hb5 h5) (by rw [Int.natAbs_neg,Int.natAbs_natCast]; have:=HZ.out.2; omega)).mono ?_; intro e w6 hh; obtain⟨n6,A6,k6,c6,rfl,hb6,h6,e6⟩:=hh.form; rw [Int.neg_neg] at hb6 h6; replace eC:=eC.trans e6; obtain⟨r0,r1,r2,r3,r4,r5,r6,r7⟩:=cells4 (eC.block B1)))
 obtain rfl:n6=false:=by rw [hb6.out]; simp
 rw [Int.natAbs_natCast] at h6;go_wp2;exact fin_rat rfl rfl rfl (hE.trans eC) (eC.block B1) (by omega) hN ((h4.ext e5).ext e6) h6 hb4
theorem f_valid {N:Nat} {w:World} {v:Value} {R:Raw} (h:RawV N w v R) (hL:R.l1.length≤10000000000) (hL':R.l2.length≤10000000000) :
  Calls Tryz.prog 98 #[v] w (RetV w (.bool (okR R))):=by
 obtain⟨r,hr⟩:=hid_eq (okR R);rw [←hr.out];have hN:=h.le;obtain⟨A1,k1,c1,A2,k2,c2,rfl,g1,g2⟩:=h.parts;obtain⟨b1,l1,b2,l2⟩:=R;have HL:=Lib.hid hL;have HL':=Lib.hid hL';clear hL hL' h
 dsimp only at g1 g2 HL HL' ⊢
 have HR:Hid (r=(okB b1 l1 && okB b2 l2 && decide (0 < zval b2 l2) && decide (Int.gcd (zval b1 l1) (zval b2 l2)=1))):=hr;clear hr;obtain⟨o1,ho1⟩:=hid_eq (okB b1 l1);obtain⟨o2,ho2⟩:=hid_eq (okB b2 l2);rw [←ho1.out,←ho2.out] at HR;go_enter Tryz.func98,Tryz.ntmps98;go_wp2_with (go_at_call 147; refine Hid.out ?_);refine boxesC1 ?_;intro W hE hsz B0;refine (i_valid (g1.ext hE)).mono ?_;rintro e w1 ⟨rfl,eC⟩;rw [←ho1.out];replace hE:=hE.trans eC;replace B0:=eC.block B0;obtain⟨a0,a1,a2,a3,-⟩:=cells4 B0;cases o1 with
 | false =>
  have HF:Hid (r=false):=HR.out;go_wp2;go_ret;exact⟨ret_bool HF.out.symm,hE⟩
 | true =>
  go_wp2_with (go_at_call 147; refine Hid.out ?_);refine (i_valid (g2.ext hE)).mono ?_;rintro e w2 ⟨rfl,eC⟩;rw [←ho2.out];replace hE:=hE.trans eC;replace B0:=eC.block B0;clear a0 a1 a2 a3;obtain⟨a0,a1,a2,a3,-⟩:=cells4 B0;cases o2 with
  | false =>
   have HF:Hid (r=false):=HR.out;go_wp2;go_ret;exact⟨ret_bool HF.out.symm,hE⟩
  | true =>
   obtain⟨x,hx⟩:=hid_eq (zval b1 l1);obtain⟨y,hy⟩:=hid_eq (zval b2 l2);rw [←hx.out,←hy.out] at HR;have vx:IntV N w (.agg #[.bool b1,.slice A1 k1 c1]) x:=by rw [hx.out]; exact intV_ok ho1.out.symm g1
   have vy:IntV N w (.agg #[.bool b2,.slice A2 k2 c2]) y:=by rw [hy.out]; exact intV_ok ho2.out.symm g2
   have HLx:Hid (ln x.natAbs≤10000000000):=by
    obtain⟨e1,-,e3⟩:=okB_spec ho1.out.symm;rw [Hid,hx.out,←e3]; unfold ln; rw [←e1]; exact HL.out
   have HLy:Hid (ln y.natAbs≤10000000000):=by
    obtain⟨e1,-,e3⟩:=okB_spec ho2.out.symm;rw [Hid,hy.out,←e3]; unfold ln; rw [←e1]; exact HL'.out
   obtain⟨sy,hsy⟩:=hid_eq y.sign;go_wp2_with (go_at_call 110; refine Hid.out ?_);refine (i_sign (vy.ext hE)).mono ?_;rintro e w3 ⟨rfl,eC⟩;rw [←hsy.out];replace hE:=hE.trans eC;replace B0:=eC.block B0;clear a0 a1 a2 a3;obtain⟨a0,a1,a2,a3,-⟩:=cells4 B0
   by_cases hy0:0 < y
   ·have hs1:sy=1:=by rw [hsy.out]; exact Int.sign_eq_one_of_pos hy0
    subst hs1;obtain⟨cz,hcz⟩:=hid_eq ((((Int.gcd x y:Nat):Int) - 1).sign)
    have HF:Hid (r=decide (cz=0)):=by
     rw [Hid,HR.out,hcz.out,decide_eq_true hy0];simp only [Bool.and_true,Bool.true_and,decide_eq_decide];rw [Int.sign_eq_zero_iff_zero];omega
    have HLg:Hid (ln ((Int.gcd x y:Nat):Int).natAbs≤10000000000):=by
     rw [Hid,Int.natAbs_natCast];exact Nat.le_trans (ln_mono (Nat.le_of_dvd (by omega) (Int.gcd_dvd_natAbs_right x y))) HLy.out
    clear hy0;go_wp2_with (go_at_call 148; refine Hid.out ?_);refine (i_gcd (vx.ext hE) (vy.ext hE) (by have:=HLx.out; omega) (by have:=HLy.out; omega)).mono ?_;intro e w4 hh;obtain⟨n4,A4,k4,c4,rfl,hb4,h4,e4⟩:=hh.form;go_wp2_with (go_at_call 149; refine Hid.out ?_);refine (i_of (N:=N) (by have:=hE.size; have:=e4.size; omega) 1 (by omega) (by omega)).mono ?_;intro e w5 hh;obtain⟨n5,A5,k5,c5,rfl,hb5,h5,e5⟩:=hh.form;go_wp2_with (go_at_call 112; refine Hid.out ?_);refine (i_cmp (IntV.mk hb4 (h4.ext e5)) (IntV.mk hb5 h5)).mono ?_;rintro e w6 ⟨rfl,e6⟩;rw [←hcz.out];go_wp2;go_ret;refine⟨ret_bool ?_,((hE.trans e4).trans e5).trans e6⟩;rw [HF.out]
    by_cases hc0:cz=0 <;> simp [hc0]
   ·have HF:Hid (r=false):=by
     rw [Hid,HR.out,decide_eq_false hy0]; simp
    have hs1:sy≤0:=by
     rw [hsy.out]
     rcases Int.lt_or_eq_of_le (Int.not_lt.1 hy0) with h9 | h9
     ·rw [Int.sign_eq_neg_one_of_neg h9]; omega
     ·rw [h9]; simp
    clear hy0;go_wp2;go_ret;exact⟨ret_bool HF.out.symm,hE⟩
end Go.Proofs.YtphpkhoeplcedaaGreat
