import Derived.Test.YtphpkhoeplcedaaGreatWb07
import Derived.Test.YtphpkhoeplcedaaGreatWb11
import Derived.Test.YtphpkhoeplcedaaGreatWb12
set_option linter.all false
set_option maxHeartbeats 8000000
namespace Go.Proofs.YtphpkhoeplcedaaGreat
open Go.RowKit
theorem f_whole {N:Nat} {w:World} (hN:N≤w.heap.size) (n:Int) (h1 : -9223372036854775808≤n) (h2:n≤9223372036854775807) :
  Calls Tryz.prog 114 #[.int .i64 n] w (RetR N w (n:Rat)):=by
 obtain⟨q,hq⟩:=hid_eq ((n:Int):Rat);rw [←hq.out];have HQ:Hid (q.num=n∧q.den=1):=by rw [hq.out]; exact⟨rfl,rfl⟩
 clear hq;go_enter Tryz.func114,Tryz.ntmps114;go_wp2_with (go_at_call 149; refine Hid.out ?_);refine boxesC1 ?_;intro W hE hsz B0;refine (i_of (N:=N) (by have:=hE.size; omega) n h1 h2).mono ?_;intro e w1 hh;obtain⟨b1,A1,k1,c1,rfl,hb1,g1,e1⟩:=hh.form;go_wp2_with (go_at_call 149; refine Hid.out ?_);refine (i_of (N:=N) (by have:=hE.size; have:=e1.size; omega) 1 (by omega) (by omega)).mono ?_;intro e w2 hh;obtain⟨b2,A2,k2,c2,rfl,hb2,g2,e2⟩:=hh.form;obtain rfl:b2=false:=by rw [hb2.out]; rfl
 have B1:=e2.block (e1.block B0);obtain⟨r0,r1,r2,r3,r4,r5,r6,r7⟩:=cells4 B1;rw [←HQ.out.1] at hb1 g1;rw [show (1:Int).natAbs=q.den from HQ.out.2.symm] at g2;go_wp2;exact fin_rat rfl rfl rfl ((hE.trans e1).trans e2) B1 (by omega) hN (g1.ext e2) g2 hb1
theorem divF_dvd {a g:Int} (hg:g≠0) (h:g ∣ a):divF a g=a / g:=by
 obtain⟨k,rfl⟩:=h;rw [Int.mul_comm,divF_exact hg,Int.mul_ediv_cancel _ hg]
theorem divF_gcd {a b:Int} (hb:b≠0):divF a ((Int.gcd a b:Nat):Int)=a / (Int.gcd a b:Nat)∧divF b ((Int.gcd a b:Nat):Int)=b / (Int.gcd a b:Nat):=by
 have hg:((Int.gcd a b:Nat):Int)≠0:=by
  have:Int.gcd a b≠0:=by
   intro e;exact hb (Int.gcd_eq_zero_iff.1 e).2
  omega
 exact⟨divF_dvd hg (Int.gcd_dvd_left a b),divF_dvd hg (Int.gcd_dvd_right a b)⟩
theorem f_reduced {N:Nat} {w:World} {v v':Value} {x y:Int} (h:IntV N w v x) (h':IntV N w v' y) (hy:y≠0) (hL:ln x.natAbs≤10000000000) (hL':ln y.natAbs≤10000000000) :
  Calls Tryz.prog 199 #[v,v'] w (RetR N w (Rat.divInt x y)):=by
 obtain⟨q,hq⟩:=hid_eq (Rat.divInt x y);rw [←hq.out];have hI:=h;have hI':=h';obtain⟨n1,A1,k1,c1,rfl,Hn1,hs,-⟩:=h.parts;obtain⟨n2,A2,k2,c2,rfl,Hn2,hs',-⟩:=h'.parts;have hN:=hs.le;have HY:=Lib.hid hy;have HL:=Lib.hid hL;have HL':=Lib.hid hL';clear hy hL hL';go_enter Tryz.func199,Tryz.ntmps199;go_wp2_with (go_at_call 110; refine Hid.out ?_);refine boxesC3 ?_;intro W hE hsz B0 B1 B2;refine (i_sign (hI'.ext hE)).mono ?_;rintro e w1 ⟨rfl,e1⟩;replace B0:=e1.block B0;replace B1:=e1.block B1;replace B2:=e1.block B2;replace hE:=hE.trans e1;replace hsz:=Nat.le_trans hsz e1.size;obtain⟨a0,a1,a2,a3⟩:=cells2 B0;obtain⟨b0,b1,b2,b3'⟩:=cells2 B1
 by_cases hneg:y < 0
 ·obtain⟨sy,hsy⟩:=hid_eq y.sign;have hsy1:sy = -1:=by rw [hsy.out]; exact Int.sign_eq_neg_one_of_neg hneg
  rw [←hsy.out,hsy1];have HB:Hid (y < 0):=hneg;clear hneg hsy hsy1;go_wp2
  go_cut [] (fun wx=>∃ n3 A3 k3 c3 n4 A4 k4 c4,Ext w wx∧w.heap.size+3≤wx.heap.size∧wx.heap[w.heap.size]?=some (.cells #[.bool n3,.slice A3 k3 c3] 27 (0,0))∧wx.heap[w.heap.size+1]?=some (.cells #[.bool n4,.slice A4 k4 c4] 27 (0,0))∧wx.heap[w.heap.size+1+1]?=some (.cells #[.bool false,.slice none 0 0,.bool false,.slice none 0 0] 29 (0,0))∧IntV N wx (.agg #[.bool n3,.slice A3 k3 c3]) (-x)∧IntV N wx (.agg #[.bool n4,.slice A4 k4 c4]) (-y))
  case first =>
   have eC:=(Ext.refl w1).drew
   go_region_with (first
    | (go_at_call_of 205 A1; refine (i_neg (by exact hI.ext (hE.trans eC)) (by have:=HL.out; omega)).mono ?_; intro e w2 hh; obtain⟨n3,A3,k3,c3,rfl,hb3,h3,e3⟩:=hh.form; replace eC:=eC.trans e3; have C0:=eC.block B0; have C1:=eC.block B1; obtain⟨p0,p1,p2,p3⟩:=cells2 C0; obtain⟨q0,q1,q2,q3⟩:=cells2 C1)
    | (go_at_call_of 205 A2; refine (i_neg (by exact hI'.ext (hE.trans eC)) (by have:=HL'.out; omega)).mono ?_; intro e w4 hh; obtain⟨n4,A4,k4,c4,rfl,hb4,h4,e4⟩:=hh.form; replace eC:=eC.trans e4; have C0:=eC.block B0; have C1:=eC.block B1; obtain⟨p0,p1,p2,p3⟩:=cells2 C0; obtain⟨q0,q1,q2,q3⟩:=cells2 C1))
   all_goals
    go_wp2_with fail
    go_meet
    obtain⟨w5,E5,D0,U⟩:=ex2 C0 (.bool n3) (.slice A3 k3 c3);rw [E5];obtain⟨w6,E6,D1,U'⟩:=ex2 (U.blk C1 (by omega)) (.bool n4) (.slice A4 k4 c4);rw [E6];refine⟨n3,A3,k3,c3,n4,A4,k4,c4,U'.ext (U.ext (hE.trans eC) (Nat.le_refl _)) (by omega),?_,U'.blk D0 (by omega),D1,U'.blk (U.blk (eC.block B2) (by omega)) (by omega),IntV.mk hb3 ?_,IntV.mk hb4 ?_⟩
    ·rw [U'.size,U.size]; have:=eC.size; omega
    ·exact ((h3.ext e4).upd U (by omega) (NoU.mk C0 (by decide))).upd U' (by omega) (NoU.mk (U.blk C1 (by omega)) (by decide))
    ·exact (h4.upd U (by omega) (NoU.mk C0 (by decide))).upd U' (by omega) (NoU.mk (U.blk C1 (by omega)) (by decide))
  case rest =>
   clear a0 a1 a2 a3 b0 b1 b2 b3' B0 B1 B2 hE hsz e1 hI hI' hs hs';obtain⟨n1,A1,k1,c1,n2,A2,k2,c2,hE,hsz,B0,B1,B2,va,vb⟩:=hcut;obtain⟨a0,a1,a2,a3⟩:=cells2 B0;obtain⟨b0,b1,b2,b3'⟩:=cells2 B1;obtain⟨a,ha⟩:=hid_eq (-x);obtain⟨b,hb⟩:=hid_eq (-y);rw [←ha.out] at va;rw [←hb.out] at vb;have Hla:Hid (ln a.natAbs≤10000000000):=by rw [ha.out,Int.natAbs_neg]; exact HL
   have Hlb:Hid (ln b.natAbs≤10000000000):=by rw [hb.out,Int.natAbs_neg]; exact HL'
   have Hb0:Hid (0 < b):=by have:=HB.out; have:=hb.out; unfold Hid; omega
   have HQ:Hid (q=Rat.divInt a b):=by rw [ha.out,hb.out,←red_neg]; exact hq
   have Hg0:Hid (0 < Int.gcd a b):=by
    unfold Hid
    rcases Nat.eq_zero_or_pos (Int.gcd a b) with h9 | h9
    ·have:=(Int.gcd_eq_zero_iff.1 h9).2; have:=Hb0.out; omega
    ·exact h9
   have Hlg:Hid (ln ((Int.gcd a b:Nat):Int).natAbs≤10000000000):=by
    rw [Hid,Int.natAbs_natCast];refine Nat.le_trans (ln_mono (Nat.le_of_dvd (by have:=Hb0.out; omega) (Int.gcd_dvd_natAbs_right a b))) Hlb.out
   have Hd:Hid (divF a ((Int.gcd a b:Nat):Int)=q.num∧divF b ((Int.gcd a b:Nat):Int)=(q.den:Int)):=by
    have h9:=divF_gcd (a:=a) (b:=b) (by have:=Hb0.out; omega);rw [Hid,h9.1,h9.2,HQ.out,red_num Hb0.out,red_den Hb0.out]; exact⟨rfl,rfl⟩
   clear ha hb;have ng0:=Hg0.out;go_wp2_with (go_at_call 148; refine Hid.out ?_);refine (i_gcd va vb (by have:=Hla.out; omega) (by have:=Hlb.out; omega)).mono ?_;intro e w3 hh;obtain⟨b3,A3,k3,c3,rfl,hb3,h3,e3⟩:=hh.form;have vg:IntV N w3 (.agg #[.bool b3,.slice A3 k3 c3]) ((Int.gcd a b:Nat):Int):=IntV.mk hb3 h3;replace va:=va.ext e3;replace vb:=vb.ext e3;replace B0:=e3.block B0;replace B1:=e3.block B1;replace B2:=e3.block B2;replace hE:=hE.trans e3;replace hsz:=Nat.le_trans hsz e3.size;clear a0 a1 a2 a3 b0 b1 b2 b3';obtain⟨a0,a1,a2,a3⟩:=cells2 B0;obtain⟨b0,b1,b2,b3'⟩:=cells2 B1;have hl0:w.heap.size < w3.heap.size:=by omega
   have hl1:w.heap.size+1 < w3.heap.size:=by omega
   go_wp2_with (go_at_call 198; refine Hid.out ?_);refine boxesC1 ?_;intro W4 e4 hsz4 B3;replace va:=va.ext e4;replace vb:=vb.ext e4;replace vg:=vg.ext e4;refine (i_divide va vg Hla.out Hlg.out (by omega)).mono ?_;rintro e w5 ⟨v5,v5',rfl,i5,i5',e5⟩;rw [Hd.out.1] at i5;obtain⟨b5,A5,k5,c5,rfl,hb5,h5,-⟩:=i5.parts;obtain⟨b5',A5',k5',c5',rfl,-,-,-⟩:=i5'.parts;replace B0:=e5.block (e4.block B0);replace B1:=e5.block (e4.block B1);replace B2:=e5.block (e4.block B2);replace B3:=e5.block B3;replace vb:=vb.ext e5;replace vg:=vg.ext e5;replace hE:=(hE.trans e4).trans e5;clear a0 a1 a2 a3 b0 b1 b2 b3';obtain⟨a0,a1,a2,a3⟩:=cells2 B0;obtain⟨b0,b1,b2,b3'⟩:=cells2 B1;obtain⟨p0,p1,p2,p3⟩:=cells2 B3;have hl2:w3.heap.size < w5.heap.size:=by have:=e5.size; omega
   go_wp2_with (go_at_call 198; refine Hid.out ?_);obtain⟨w6,E6,F0,U⟩:=ex2 B0 (.bool b5) (.slice A5 k5 c5);rw [E6];have hT0:NoU w5 w.heap.size:=NoU.mk B0 (by decide);have vb6:IntV N w6 (.agg #[.bool n2,.slice A2 k2 c2]) b:=by obtain⟨s,hv,hs⟩:=vb; exact⟨s,hv,hs.upd U (by omega) hT0⟩
   have vg6:IntV N w6 (.agg #[.bool b3,.slice A3 k3 c3]) ((Int.gcd a b:Nat):Int):=by obtain⟨s,hv,hs⟩:=vg; exact⟨s,hv,hs.upd U (by omega) hT0⟩
   replace h5:=h5.upd U (by omega) hT0;replace hE:=U.ext hE (by omega);replace B1:=U.blk B1 (by omega);replace B2:=U.blk B2 (by omega);have hs6:=U.size;clear E6 U B0 B3 vb vg va;refine (i_divide vb6 vg6 Hlb.out Hlg.out (by omega)).mono ?_;rintro e w7 ⟨v7,v7',rfl,i7,i7',e7⟩;rw [Hd.out.2] at i7;obtain⟨b7,A7,k7,c7,rfl,hb7,h7,-⟩:=i7.parts;obtain⟨b7',A7',k7',c7',rfl,-,-,-⟩:=i7'.parts;obtain rfl:b7=false:=by rw [hb7.out]; simp
   rw [Int.natAbs_natCast] at h7;replace B0:=e7.block F0;replace B1:=e7.block B1;replace B2:=e7.block B2;replace h5:=h5.ext e7;replace hE:=hE.trans e7;clear a0 a1 a2 a3 b0 b1 b2 b3' p0 p1 p2 p3;obtain⟨a0,a1,a2,a3⟩:=cells2 B0;obtain⟨b0,b1,b2,b3'⟩:=cells2 B1;obtain⟨r0,r1,r2,r3,r4,r5,r6,r7⟩:=cells4 B2;go_wp2;obtain⟨w8,E8,F1,U8⟩:=ex2 B1 (.bool false) (.slice A7 k7 c7);rw [E8];exact fin_rat rfl rfl rfl (U8.ext hE (by omega)) (U8.blk B2 (by omega)) (by omega) hN (h5.upd U8 (by omega) (NoU.mk B1 (by decide))) (h7.upd U8 (by omega) (NoU.mk B1 (by decide))) hb5
 ·obtain⟨sy,hsy⟩:=hid_eq y.sign;have hsy1:sy=1:=by rw [hsy.out]; exact Int.sign_eq_one_of_pos (by have:=HY.out; omega)
  rw [←hsy.out,hsy1];have HB:Hid (0 < y):=by have:=HY.out; unfold Hid; omega
  obtain⟨a,ha⟩:=hid_eq x;obtain⟨b,hb⟩:=hid_eq y;have va:IntV N w1 (.agg #[.bool n1,.slice A1 k1 c1]) a:=by rw [ha.out]; exact hI.ext hE
  have vb:IntV N w1 (.agg #[.bool n2,.slice A2 k2 c2]) b:=by rw [hb.out]; exact hI'.ext hE
  have Hla:Hid (ln a.natAbs≤10000000000):=by rw [ha.out]; exact HL
  have Hlb:Hid (ln b.natAbs≤10000000000):=by rw [hb.out]; exact HL'
  have Hb0:Hid (0 < b):=by rw [hb.out]; exact HB
  have HQ:Hid (q=Rat.divInt a b):=by rw [ha.out,hb.out]; exact hq
  have Hg0:Hid (0 < Int.gcd a b):=by
   unfold Hid
   rcases Nat.eq_zero_or_pos (Int.gcd a b) with h9 | h9
   ·have:=(Int.gcd_eq_zero_iff.1 h9).2; have:=Hb0.out; omega
   ·exact h9
  have Hlg:Hid (ln ((Int.gcd a b:Nat):Int).natAbs≤10000000000):=by
   rw [Hid,Int.natAbs_natCast];refine Nat.le_trans (ln_mono (Nat.le_of_dvd (by have:=Hb0.out; omega) (Int.gcd_dvd_natAbs_right a b))) Hlb.out
  have Hd:Hid (divF a ((Int.gcd a b:Nat):Int)=q.num∧divF b ((Int.gcd a b:Nat):Int)=(q.den:Int)):=by
   have h9:=divF_gcd (a:=a) (b:=b) (by have:=Hb0.out; omega);rw [Hid,h9.1,h9.2,HQ.out,red_num Hb0.out,red_den Hb0.out]; exact⟨rfl,rfl⟩
  clear ha hb hsy hsy1 hI hI' hs hs';have ng0:=Hg0.out;go_wp2_with (go_at_call 148; refine Hid.out ?_);refine (i_gcd va vb (by have:=Hla.out; omega) (by have:=Hlb.out; omega)).mono ?_;intro e w3 hh;obtain⟨b3,A3,k3,c3,rfl,hb3,h3,e3⟩:=hh.form;have vg:IntV N w3 (.agg #[.bool b3,.slice A3 k3 c3]) ((Int.gcd a b:Nat):Int):=IntV.mk hb3 h3;replace va:=va.ext e3;replace vb:=vb.ext e3;replace B0:=e3.block B0;replace B1:=e3.block B1;replace B2:=e3.block B2;replace hE:=hE.trans e3;replace hsz:=Nat.le_trans hsz e3.size;clear a0 a1 a2 a3 b0 b1 b2 b3';obtain⟨a0,a1,a2,a3⟩:=cells2 B0;obtain⟨b0,b1,b2,b3'⟩:=cells2 B1;have hl0:w.heap.size < w3.heap.size:=by omega
  have hl1:w.heap.size+1 < w3.heap.size:=by omega
  go_wp2_with (go_at_call 198; refine Hid.out ?_);refine boxesC1 ?_;intro W4 e4 hsz4 B3;replace va:=va.ext e4;replace vb:=vb.ext e4;replace vg:=vg.ext e4;refine (i_divide va vg Hla.out Hlg.out (by omega)).mono ?_;rintro e w5 ⟨v5,v5',rfl,i5,i5',e5⟩;rw [Hd.out.1] at i5;obtain⟨b5,A5,k5,c5,rfl,hb5,h5,-⟩:=i5.parts;obtain⟨b5',A5',k5',c5',rfl,-,-,-⟩:=i5'.parts;replace B0:=e5.block (e4.block B0);replace B1:=e5.block (e4.block B1);replace B2:=e5.block (e4.block B2);replace B3:=e5.block B3;replace vb:=vb.ext e5;replace vg:=vg.ext e5;replace hE:=(hE.trans e4).trans e5;clear a0 a1 a2 a3 b0 b1 b2 b3';obtain⟨a0,a1,a2,a3⟩:=cells2 B0;obtain⟨b0,b1,b2,b3'⟩:=cells2 B1;obtain⟨p0,p1,p2,p3⟩:=cells2 B3;have hl2:w3.heap.size < w5.heap.size:=by have:=e5.size; omega
  go_wp2_with (go_at_call 198; refine Hid.out ?_);obtain⟨w6,E6,F0,U⟩:=ex2 B0 (.bool b5) (.slice A5 k5 c5);rw [E6];have hT0:NoU w5 w.heap.size:=NoU.mk B0 (by decide);have vb6:IntV N w6 (.agg #[.bool n2,.slice A2 k2 c2]) b:=by obtain⟨s,hv,hs⟩:=vb; exact⟨s,hv,hs.upd U (by omega) hT0⟩
  have vg6:IntV N w6 (.agg #[.bool b3,.slice A3 k3 c3]) ((Int.gcd a b:Nat):Int):=by obtain⟨s,hv,hs⟩:=vg; exact⟨s,hv,hs.upd U (by omega) hT0⟩
  replace h5:=h5.upd U (by omega) hT0;replace hE:=U.ext hE (by omega);replace B1:=U.blk B1 (by omega);replace B2:=U.blk B2 (by omega);have hs6:=U.size;clear E6 U B0 B3 vb vg va;refine (i_divide vb6 vg6 Hlb.out Hlg.out (by omega)).mono ?_;rintro e w7 ⟨v7,v7',rfl,i7,i7',e7⟩;rw [Hd.out.2] at i7;obtain⟨b7,A7,k7,c7,rfl,hb7,h7,-⟩:=i7.parts;obtain⟨b7',A7',k7',c7',rfl,-,-,-⟩:=i7'.parts;obtain rfl:b7=false:=by rw [hb7.out]; simp
  rw [Int.natAbs_natCast] at h7;replace B0:=e7.block F0;replace B1:=e7.block B1;replace B2:=e7.block B2;replace h5:=h5.ext e7;replace hE:=hE.trans e7;clear a0 a1 a2 a3 b0 b1 b2 b3' p0 p1 p2 p3;obtain⟨a0,a1,a2,a3⟩:=cells2 B0;obtain⟨b0,b1,b2,b3'⟩:=cells2 B1;obtain⟨r0,r1,r2,r3,r4,r5,r6,r7⟩:=cells4 B2;go_wp2;obtain⟨w8,E8,F1,U8⟩:=ex2 B1 (.bool false) (.slice A7 k7 c7);rw [E8];exact fin_rat rfl rfl rfl (U8.ext hE (by omega)) (U8.blk B2 (by omega)) (by omega) hN (h5.upd U8 (by omega) (NoU.mk B1 (by decide))) (h7.upd U8 (by omega) (NoU.mk B1 (by decide))) hb5
end Go.Proofs.YtphpkhoeplcedaaGreat
