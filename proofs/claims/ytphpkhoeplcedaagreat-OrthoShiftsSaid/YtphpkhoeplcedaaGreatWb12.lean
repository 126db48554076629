import Derived.Test.YtphpkhoeplcedaaGreatWb11
import Derived.Test.YtphpkhoeplcedaaGreatWb06
set_option linter.all false
set_option maxHeartbeats 8000000
namespace Go.Proofs.YtphpkhoeplcedaaGreat
open Go.RowKit
theorem abs_eq (x y:Int):∃ c d:Nat,x.natAbs / y.natAbs=c∧x.natAbs % y.natAbs=d∧x.natAbs=c*y.natAbs+d:=by
 refine⟨_,_,rfl,rfl,?_⟩;have:=Nat.div_add_mod x.natAbs y.natAbs;rw [Nat.mul_comm] at this;exact this.symm
theorem modF_same {x y:Int} (h:decide (x < 0)=decide (y < 0)):modF x y=if decide (y < 0)=true then -((x.natAbs % y.natAbs:Nat):Int) else ((x.natAbs % y.natAbs:Nat):Int):=by
 unfold modF;rw [divF_same h];have h':x < 0↔y < 0:=by simpa using h
 obtain⟨c,d,e1,e2,e3⟩:=abs_eq x y;rw [e1,e2]
 by_cases hy:y < 0
 ·have hx:=h'.2 hy;rw [decide_eq_true hy,if_pos rfl];obtain⟨a,rfl⟩:∃ a:Nat,x = -(a:Int):=⟨x.natAbs,by omega⟩
  obtain⟨b,rfl⟩:∃ b:Nat,y = -(b:Int):=⟨y.natAbs,by omega⟩
  rw [Int.natAbs_neg,Int.natAbs_natCast,Int.natAbs_neg,Int.natAbs_natCast] at e3;rw [Int.mul_neg,←Int.natCast_mul,e3];omega
 ·have hx:¬ x < 0:=fun e=>hy (h'.1 e)
  rw [decide_eq_false hy,if_neg (by decide)];obtain⟨a,rfl⟩:∃ a:Nat,x=(a:Int):=⟨x.natAbs,by omega⟩
  obtain⟨b,rfl⟩:∃ b:Nat,y=(b:Int):=⟨y.natAbs,by omega⟩
  rw [Int.natAbs_natCast,Int.natAbs_natCast] at e3;rw [←Int.natCast_mul,e3];omega
theorem modF_diff {x y:Int} (h:¬ decide (x < 0)=decide (y < 0)) (h0:x.natAbs % y.natAbs≠0) (hy0:y≠0):modF x y=if decide (y < 0)=true then -((y.natAbs - x.natAbs % y.natAbs:Nat):Int) else ((y.natAbs - x.natAbs % y.natAbs:Nat):Int):=by
 unfold modF;rw [divF_diff h h0];have h':¬ (x < 0↔y < 0):=by simpa using h
 have hlt:=Nat.mod_lt x.natAbs (show 0 < y.natAbs by omega);obtain⟨c,d,e1,e2,e3⟩:=abs_eq x y;rw [e1,e2];rw [e2] at hlt
 by_cases hy:y < 0
 ·have hx:¬ x < 0:=fun e=>h' ⟨fun _=>hy,fun _=>e⟩
  rw [decide_eq_true hy,if_pos rfl];obtain⟨a,rfl⟩:∃ a:Nat,x=(a:Int):=⟨x.natAbs,by omega⟩
  obtain⟨b,rfl⟩:∃ b:Nat,y = -(b:Int):=⟨y.natAbs,by omega⟩
  rw [Int.natAbs_natCast,Int.natAbs_neg,Int.natAbs_natCast] at e3;rw [Int.natAbs_neg,Int.natAbs_natCast] at hlt ⊢;have e4:(-(c:Int) - 1) * -(b:Int)=((c*b:Nat):Int)+b:=by rw [Int.natCast_mul]; grind
  rw [e4,e3];omega
 ·have hx:x < 0:=by
   rcases Int.lt_or_le x 0 with h1 | h1
   ·exact h1
   ·exact absurd ⟨fun e=>absurd e (by omega),fun e=>absurd e hy⟩ h'
  rw [decide_eq_false hy,if_neg (by decide)];obtain⟨a,rfl⟩:∃ a:Nat,x = -(a:Int):=⟨x.natAbs,by omega⟩
  obtain⟨b,rfl⟩:∃ b:Nat,y=(b:Int):=⟨y.natAbs,by omega⟩
  rw [Int.natAbs_neg,Int.natAbs_natCast,Int.natAbs_natCast] at e3;rw [Int.natAbs_natCast] at hlt ⊢;have e4:(-(c:Int) - 1)*(b:Int) = -((c*b:Nat):Int) - b:=by rw [Int.natCast_mul]; grind
  rw [e4,e3];omega
theorem modF_zero {x y:Int} (h:¬ decide (x < 0)=decide (y < 0)) (h0:x.natAbs % y.natAbs=0):modF x y=0:=by
 unfold modF;rw [divF_zero h h0];have h':¬ (x < 0↔y < 0):=by simpa using h
 obtain⟨c,d,e1,e2,e3⟩:=abs_eq x y;rw [e1];rw [e2] at h0;subst h0
 by_cases hy:y < 0
 ·have hx:¬ x < 0:=fun e=>h' ⟨fun _=>hy,fun _=>e⟩
  obtain⟨a,rfl⟩:∃ a:Nat,x=(a:Int):=⟨x.natAbs,by omega⟩
  obtain⟨b,rfl⟩:∃ b:Nat,y = -(b:Int):=⟨y.natAbs,by omega⟩
  rw [Int.natAbs_natCast,Int.natAbs_neg,Int.natAbs_natCast] at e3;rw [Int.neg_mul_neg,←Int.natCast_mul,e3];omega
 ·have hx:x < 0:=by
   rcases Int.lt_or_le x 0 with h1 | h1
   ·exact h1
   ·exact absurd ⟨fun e=>absurd e (by omega),fun e=>absurd e hy⟩ h'
  obtain⟨a,rfl⟩:∃ a:Nat,x = -(a:Int):=⟨x.natAbs,by omega⟩
  obtain⟨b,rfl⟩:∃ b:Nat,y=(b:Int):=⟨y.natAbs,by omega⟩
  rw [Int.natAbs_neg,Int.natAbs_natCast,Int.natAbs_natCast] at e3;rw [Int.neg_mul,←Int.natCast_mul,e3];omega
theorem i_divide {N:Nat} {w:World} {v v':Value} {x y:Int} (h:IntV N w v x) (h':IntV N w v' y) (hL:ln x.natAbs≤10000000000) (hL':ln y.natAbs≤10000000000) (hy:y≠0) :
  Calls Tryz.prog 198 #[v,v'] w (RetDiv N w (divF x y) (modF x y)):=by
 obtain⟨q,hq⟩:=hid_eq (divF x y);obtain⟨r,hr⟩:=hid_eq (modF x y);rw [←hq.out,←hr.out];have Hy:=Lib.hid hy;clear hy;have hI:=h;have hI':=h';obtain⟨s,rfl,hs⟩:=h;obtain⟨s',rfl,hs'⟩:=h';have hN:=hs.le;obtain⟨A1,k1,c1,rfl,hlen,-,-⟩:=hs.form;obtain⟨A2,k2,c2,rfl,hlen',-,-⟩:=hs'.form
 generalize hneg:decide (x < 0)=n1 at *
 generalize hneg':decide (y < 0)=n2 at *
 have Hn1:=Lib.hid hneg;have Hn2:=Lib.hid hneg';clear hneg hneg';have HL:=Lib.hid hL;have HL':=Lib.hid hL';clear hL hL';go_enter Tryz.func198,Tryz.ntmps198
 have t1:((k2:Int) == 0)=false:=by
  have:k2≠0:=by
   rintro rfl;have:=dg_eq_nil.1 (List.eq_nil_of_length_eq_zero hlen'.out);have:=Hy.out;omega
  simpa using this
 obtain⟨n3,hn3⟩:=hid_eq (!(n1 == n2));go_wp2;refine boxes4 ?_;intro W hE hsz B0 B1 B2 B3;obtain⟨a0,a1,a2,a3⟩:=cells2 B0;obtain⟨b0,b1,b2,b3⟩:=cells2 B1;have eC:=(Ext.refl W).drew
 go_region_held3 (fun w'=>w'.cell? ⟨w.heap.size,0,none⟩=some (.bool n1)∧w'.cell? ⟨w.heap.size,1,none⟩=some (.slice A1 k1 c1)∧w'.cell? ⟨w.heap.size+1,0,none⟩=some (.bool n2)∧w'.cell? ⟨w.heap.size+1,1,none⟩=some (.slice A2 k2 c2)) (first | exact⟨a0,a1,b0,b1⟩ | exact⟨eC.cell a0,eC.cell a1,eC.cell b0,eC.cell b1⟩ | exact⟨cell_far _ (cell_far _ (eC.cell a0) (by omega)) (by omega),cell_far _ (cell_far _ (eC.cell a1) (by omega)) (by omega),cell_far _ (cell_far _ (eC.cell b0) (by omega)) (by omega),cell_far _ (cell_far _ (eC.cell b1) (by omega)) (by omega)⟩)
  (first | (go_at_call 159; refine (i_groups (by exact hI.ext (hE.trans eC))).mono ?_; rintro e w1 ⟨rfl,e1⟩; replace eC:=eC.trans e1) | (go_at_call 159; refine (i_groups (by exact hI'.ext (hE.trans eC))).mono ?_; rintro e w1 ⟨rfl,e1⟩; replace eC:=eC.trans e1))
 replace B2:=eC.block B2;replace B3:=eC.block B3;replace hE:=hE.trans eC;replace B0:=eC.block B0;replace B1:=eC.block B1;replace hsz:=Nat.le_trans hsz eC.size;clear a0 a1 a2 a3 b0 b1 b2 b3 eC;obtain⟨a0,a1,a2,a3⟩:=cells2 B0;obtain⟨b0,b1,b2,b3⟩:=cells2 B1;obtain⟨c,hc⟩:=hid_eq (x.natAbs / y.natAbs);obtain⟨d,hd⟩:=hid_eq (x.natAbs % y.natAbs);go_wp2_with (go_at_call 195; refine Hid.out ?_);refine (i_over (hs.ext hE) (hs'.ext hE) (by have:=Hy.out; omega) (by have:=HL.out; omega)).mono ?_;rintro e w2 ⟨A3,k3,c3,A4,k4,c4,rfl,gC,gD,eC⟩;rw [←hc.out] at gC;rw [←hd.out] at gD;replace B2:=eC.block B2;replace B3:=eC.block B3;replace hE:=hE.trans eC;replace B0:=eC.block B0;replace B1:=eC.block B1;replace hsz:=Nat.le_trans hsz eC.size;clear a0 a1 a2 a3 b0 b1 b2 b3 eC;obtain⟨a0,a1,a2,a3⟩:=cells2 B0;obtain⟨b0,b1,b2,b3⟩:=cells2 B1;have hl4:Hid (ln d=k4):=by obtain⟨A',n',c',hv,hl',-,-⟩:=gD.form; cases hv; exact hl'
 have HDL:Hid (ln d≤10000000000):=by rw [Hid,hd.out]; exact Nat.le_trans (ln_mod_le _ _) HL.out
 have HCL:Hid (ln c≤10000000000):=by rw [Hid,hc.out]; exact Nat.le_trans (ln_div_le _ _) HL.out
 go_wp2_with (go_at_call 196; refine Hid.out ?_);refine (i_clone gD (by rw [←hl4.out]; have:=HDL.out; omega)).mono ?_;rintro e w3 ⟨A5,k5,c5,rfl,gD,eC,-⟩;replace B2:=eC.block B2;replace B3:=eC.block B3;replace gC:=gC.ext eC;replace hE:=hE.trans eC;replace B0:=eC.block B0;replace B1:=eC.block B1;replace hsz:=Nat.le_trans hsz eC.size;clear a0 a1 a2 a3 b0 b1 b2 b3 eC;obtain⟨a0,a1,a2,a3⟩:=cells2 B0;obtain⟨b0,b1,b2,b3⟩:=cells2 B1;have hl5:Hid (ln d=k5):=by obtain⟨A',n',c',hv,hl',-,-⟩:=gD.form; cases hv; exact hl'
 by_cases hnn:n1=n2
 ·have hbb:(n1 == n2)=true:=by simpa using hnn
  obtain rfl:n3=false:=by rw [hn3.out,hbb]; rfl
  have HNN:Hid (decide (x < 0)=decide (y < 0)):=by rw [Hid,Hn1.out,Hn2.out]; exact hnn
  have HQ:Hid (q=if (false:Bool)=true then -(c:Int) else (c:Int)):=by rw [Hid,hq.out,divF_same HNN.out,hc.out]; rfl
  have HR:Hid (r=if n2=true then -(d:Int) else (d:Int)):=by rw [Hid,hr.out,modF_same HNN.out,hd.out,Hn2.out]
  clear hnn
  rcases Nat.eq_zero_or_pos k5 with h50 | h50
  ·subst h50;go_wp2;have eC:=(Ext.refl w3).drew
   go_region_held3 (fun w'=>w'.cell? ⟨w.heap.size,0,none⟩=some (.bool n1)∧w'.cell? ⟨w.heap.size+1,0,none⟩=some (.bool n2))
    (first | exact⟨a0,b0⟩ | exact⟨eC.cell a0,eC.cell b0⟩ | exact⟨cell_far _ (cell_far _ (eC.cell a0) (by omega)) (by omega),cell_far _ (cell_far _ (eC.cell b0) (by omega)) (by omega)⟩ | exact⟨cell_far _ (cell_far _ (cell_far _ (cell_far _ (eC.cell a0) (by omega)) (by omega)) (by omega)) (by omega),cell_far _ (cell_far _ (cell_far _ (cell_far _ (eC.cell b0) (by omega)) (by omega)) (by omega)) (by omega)⟩)
    (first
     | (go_at_call_of 163 A3; refine (i_madeN (neg:=false) (by exact gC.ext eC) q HQ).mono ?_; intro e w10 hh; obtain⟨b10,A10,k10,c10,rfl,hb10,h10,e10⟩:=hh.form; replace eC:=eC.trans e10; have D2:=eC.block B2; have D3:=eC.block B3; obtain⟨r0,r1,r2,r3⟩:=cells2 D2; obtain⟨s0,s1,s2,s3⟩:=cells2 D3)
     | (go_at_call_of 163 A5; refine (i_madeN (neg:=n2) (by exact gD.ext eC) r HR).mono ?_; intro e w11 hh; obtain⟨b11,A11,k11,c11,rfl,hb11,h11,e11⟩:=hh.form; replace eC:=eC.trans e11; have D2:=eC.block B2; have D3:=eC.block B3; obtain⟨r0,r1,r2,r3⟩:=cells2 D2; obtain⟨s0,s1,s2,s3⟩:=cells2 D3))
   go_wp2;obtain⟨w12,E12,F2,U⟩:=ex2 D2 (.bool b10) (.slice A10 k10 c10);rw [E12];obtain⟨w13,E13,F3,U'⟩:=ex2 (U.blk D3 (by omega)) (.bool b11) (.slice A11 k11 c11);rw [E13];obtain⟨z0,z1,-,-⟩:=cells2 (U'.blk F2 (by omega));obtain⟨z2,z3,-,-⟩:=cells2 F3;have hEf:Ext w w13:=U'.ext (U.ext (hE.trans eC) (by omega)) (by omega);refine bodyPost_ret (v:=.tuple #[.agg #[.bool b10,.slice A10 k10 c10],.agg #[.bool b11,.slice A11 k11 c11],.int .i64 0]) ?_ rfl ⟨_,_,rfl,IntV.mk hb10 ?_,IntV.mk hb11 ?_,hEf⟩
   ·simp [results,Tryz.results198,z0,z1,z2,z3,go_sem]
   ·exact ((h10.ext e11).upd U (by omega) (NoU.mk D2 (by decide))).upd U' (by omega) (NoU.mk (U.blk D3 (by omega)) (by decide))
   ·exact (h11.upd U (by omega) (NoU.mk D2 (by decide))).upd U' (by omega) (NoU.mk (U.blk D3 (by omega)) (by decide))
  ·go_wp2;have eC:=(Ext.refl w3).drew
   go_region_held3 (fun w'=>w'.cell? ⟨w.heap.size,0,none⟩=some (.bool n1)∧w'.cell? ⟨w.heap.size+1,0,none⟩=some (.bool n2))
    (first | exact⟨a0,b0⟩ | exact⟨eC.cell a0,eC.cell b0⟩ | exact⟨cell_far _ (cell_far _ (eC.cell a0) (by omega)) (by omega),cell_far _ (cell_far _ (eC.cell b0) (by omega)) (by omega)⟩ | exact⟨cell_far _ (cell_far _ (cell_far _ (cell_far _ (eC.cell a0) (by omega)) (by omega)) (by omega)) (by omega),cell_far _ (cell_far _ (cell_far _ (cell_far _ (eC.cell b0) (by omega)) (by omega)) (by omega)) (by omega)⟩)
    (first
     | (go_at_call_of 163 A3; refine (i_madeN (neg:=false) (by exact gC.ext eC) q HQ).mono ?_; intro e w10 hh; obtain⟨b10,A10,k10,c10,rfl,hb10,h10,e10⟩:=hh.form; replace eC:=eC.trans e10; have D2:=eC.block B2; have D3:=eC.block B3; obtain⟨r0,r1,r2,r3⟩:=cells2 D2; obtain⟨s0,s1,s2,s3⟩:=cells2 D3)
     | (go_at_call_of 163 A5; refine (i_madeN (neg:=n2) (by exact gD.ext eC) r HR).mono ?_; intro e w11 hh; obtain⟨b11,A11,k11,c11,rfl,hb11,h11,e11⟩:=hh.form; replace eC:=eC.trans e11; have D2:=eC.block B2; have D3:=eC.block B3; obtain⟨r0,r1,r2,r3⟩:=cells2 D2; obtain⟨s0,s1,s2,s3⟩:=cells2 D3))
   go_wp2;obtain⟨w12,E12,F2,U⟩:=ex2 D2 (.bool b10) (.slice A10 k10 c10);rw [E12];obtain⟨w13,E13,F3,U'⟩:=ex2 (U.blk D3 (by omega)) (.bool b11) (.slice A11 k11 c11);rw [E13];obtain⟨z0,z1,-,-⟩:=cells2 (U'.blk F2 (by omega));obtain⟨z2,z3,-,-⟩:=cells2 F3;have hEf:Ext w w13:=U'.ext (U.ext (hE.trans eC) (by omega)) (by omega);refine bodyPost_ret (v:=.tuple #[.agg #[.bool b10,.slice A10 k10 c10],.agg #[.bool b11,.slice A11 k11 c11],.int .i64 0]) ?_ rfl ⟨_,_,rfl,IntV.mk hb10 ?_,IntV.mk hb11 ?_,hEf⟩
   ·simp [results,Tryz.results198,z0,z1,z2,z3,go_sem]
   ·exact ((h10.ext e11).upd U (by omega) (NoU.mk D2 (by decide))).upd U' (by omega) (NoU.mk (U.blk D3 (by omega)) (by decide))
   ·exact (h11.upd U (by omega) (NoU.mk D2 (by decide))).upd U' (by omega) (NoU.mk (U.blk D3 (by omega)) (by decide))
 ·have hbb:(n1 == n2)=false:=by simpa using hnn
  obtain rfl:n3=true:=by rw [hn3.out,hbb]; rfl
  have HNN:Hid (¬ decide (x < 0)=decide (y < 0)):=by rw [Hid,Hn1.out,Hn2.out]; exact hnn
  clear hnn
  rcases Nat.eq_zero_or_pos k5 with h50 | h50
  ·subst h50;have HD0:Hid (d=0):=dg_eq_nil.1 (List.eq_nil_of_length_eq_zero hl5.out);have HQ:Hid (q=if (true:Bool)=true then -(c:Int) else (c:Int)):=by rw [Hid,hq.out,divF_zero HNN.out (by rw [←hd.out]; exact HD0.out),hc.out]; rfl
   have HR:Hid (r=if n2=true then -(d:Int) else (d:Int)):=by rw [Hid,hr.out,modF_zero HNN.out (by rw [←hd.out]; exact HD0.out),HD0.out]; cases n2 <;> rfl
   go_wp2;have eC:=(Ext.refl w3).drew
   go_region_held3 (fun w'=>w'.cell? ⟨w.heap.size,0,none⟩=some (.bool n1)∧w'.cell? ⟨w.heap.size+1,0,none⟩=some (.bool n2))
    (first | exact⟨a0,b0⟩ | exact⟨eC.cell a0,eC.cell b0⟩ | exact⟨cell_far _ (cell_far _ (eC.cell a0) (by omega)) (by omega),cell_far _ (cell_far _ (eC.cell b0) (by omega)) (by omega)⟩ | exact⟨cell_far _ (cell_far _ (cell_far _ (cell_far _ (eC.cell a0) (by omega)) (by omega)) (by omega)) (by omega),cell_far _ (cell_far _ (cell_far _ (cell_far _ (eC.cell b0) (by omega)) (by omega)) (by omega)) (by omega)⟩)
    (first
     | (go_at_call_of 163 A3; refine (i_madeN (neg:=true) (by exact gC.ext eC) q HQ).mono ?_; intro e w10 hh; obtain⟨b10,A10,k10,c10,rfl,hb10,h10,e10⟩:=hh.form; replace eC:=eC.trans e10; have D2:=eC.block B2; have D3:=eC.block B3; obtain⟨r0,r1,r2,r3⟩:=cells2 D2; obtain⟨s0,s1,s2,s3⟩:=cells2 D3)
     | (go_at_call_of 163 A5; refine (i_madeN (neg:=n2) (by exact gD.ext eC) r HR).mono ?_; intro e w11 hh; obtain⟨b11,A11,k11,c11,rfl,hb11,h11,e11⟩:=hh.form; replace eC:=eC.trans e11; have D2:=eC.block B2; have D3:=eC.block B3; obtain⟨r0,r1,r2,r3⟩:=cells2 D2; obtain⟨s0,s1,s2,s3⟩:=cells2 D3))
   go_wp2;obtain⟨w12,E12,F2,U⟩:=ex2 D2 (.bool b10) (.slice A10 k10 c10);rw [E12];obtain⟨w13,E13,F3,U'⟩:=ex2 (U.blk D3 (by omega)) (.bool b11) (.slice A11 k11 c11);rw [E13];obtain⟨z0,z1,-,-⟩:=cells2 (U'.blk F2 (by omega));obtain⟨z2,z3,-,-⟩:=cells2 F3;have hEf:Ext w w13:=U'.ext (U.ext (hE.trans eC) (by omega)) (by omega);refine bodyPost_ret (v:=.tuple #[.agg #[.bool b10,.slice A10 k10 c10],.agg #[.bool b11,.slice A11 k11 c11],.int .i64 0]) ?_ rfl ⟨_,_,rfl,IntV.mk hb10 ?_,IntV.mk hb11 ?_,hEf⟩
   ·simp [results,Tryz.results198,z0,z1,z2,z3,go_sem]
   ·exact ((h10.ext e11).upd U (by omega) (NoU.mk D2 (by decide))).upd U' (by omega) (NoU.mk (U.blk D3 (by omega)) (by decide))
   ·exact (h11.upd U (by omega) (NoU.mk D2 (by decide))).upd U' (by omega) (NoU.mk (U.blk D3 (by omega)) (by decide))
  ·have HD0:Hid (d≠0):=by unfold Hid; intro e; have:=hl5.out; rw [e,ln_zero] at this; omega
   have HQ:Hid (q=if (true:Bool)=true then -((c+1:Nat):Int) else ((c+1:Nat):Int)):=by
    rw [Hid,hq.out,divF_diff HNN.out (by rw [←hd.out]; exact HD0.out),←hc.out,if_pos rfl]; omega
   have HR:Hid (r=if n2=true then -((y.natAbs - d:Nat):Int) else ((y.natAbs - d:Nat):Int)):=by
    rw [Hid,hr.out,modF_diff HNN.out (by rw [←hd.out]; exact HD0.out) Hy.out,←hd.out,Hn2.out]
   have HDlt:Hid (d≤y.natAbs):=by rw [Hid,hd.out]; exact Nat.le_of_lt (Nat.mod_lt _ (by have:=Hy.out; omega))
   go_wp2_with (go_at_call 224; refine Hid.out ?_);refine boxesC1 ?_;intro W4 eC hsz4 B4;replace B2:=eC.block B2;replace B3:=eC.block B3;replace gC:=gC.ext eC;replace gD:=gD.ext eC;replace hE:=hE.trans eC;replace B0:=eC.block B0;replace B1:=eC.block B1;replace hsz:=Nat.le_trans hsz eC.size;clear a0 a1 a2 a3 b0 b1 b2 b3 eC;obtain⟨a0,a1,a2,a3⟩:=cells2 B0;obtain⟨b0,b1,b2,b3⟩:=cells2 B1;refine (i_plus gC (gs_one' (N:=N) (Nat.le_trans hN hE.size) hsz4 B4 (by omega) (by omega)) (dig_dg _) (Dig.mk (by decide) Dig.nil) (by have:=HCL.out; unfold ln at this; omega) (by simp)).mono ?_;rintro e w5 ⟨A6,k6,c6,rfl,gC,eC,-⟩;rw [val_dg,show val [(1:Int).toNat]=1 from rfl] at gC;replace B2:=eC.block B2;replace B3:=eC.block B3;replace gD:=gD.ext eC;replace hE:=hE.trans eC;replace B0:=eC.block B0;replace B1:=eC.block B1;replace hsz:=Nat.le_trans hsz eC.size;clear a0 a1 a2 a3 b0 b1 b2 b3 eC;obtain⟨a0,a1,a2,a3⟩:=cells2 B0;obtain⟨b0,b1,b2,b3⟩:=cells2 B1;go_wp2_with (go_at_call 225; refine Hid.out ?_);refine (i_minusN (hs'.ext hE) gD (by have:=HL'.out; omega) HDlt.out).mono ?_;rintro e w6 ⟨A7,k7,c7,rfl,gD,eC,-⟩;replace B2:=eC.block B2;replace B3:=eC.block B3;replace gC:=gC.ext eC;replace hE:=hE.trans eC;replace B0:=eC.block B0;replace B1:=eC.block B1;replace hsz:=Nat.le_trans hsz eC.size;clear a0 a1 a2 a3 b0 b1 b2 b3 eC;obtain⟨a0,a1,a2,a3⟩:=cells2 B0;obtain⟨b0,b1,b2,b3⟩:=cells2 B1;go_wp2;have eC:=(Ext.refl w6).drew
   go_region_held3 (fun w'=>w'.cell? ⟨w.heap.size,0,none⟩=some (.bool n1)∧w'.cell? ⟨w.heap.size+1,0,none⟩=some (.bool n2))
    (first | exact⟨a0,b0⟩ | exact⟨eC.cell a0,eC.cell b0⟩ | exact⟨cell_far _ (cell_far _ (eC.cell a0) (by omega)) (by omega),cell_far _ (cell_far _ (eC.cell b0) (by omega)) (by omega)⟩ | exact⟨cell_far _ (cell_far _ (cell_far _ (cell_far _ (eC.cell a0) (by omega)) (by omega)) (by omega)) (by omega),cell_far _ (cell_far _ (cell_far _ (cell_far _ (eC.cell b0) (by omega)) (by omega)) (by omega)) (by omega)⟩)
    (first
     | (go_at_call_of 163 A6; refine (i_madeN (neg:=true) (by exact gC.ext eC) q HQ).mono ?_; intro e w10 hh; obtain⟨b10,A10,k10,c10,rfl,hb10,h10,e10⟩:=hh.form; replace eC:=eC.trans e10; have D2:=eC.block B2; have D3:=eC.block B3; obtain⟨r0,r1,r2,r3⟩:=cells2 D2; obtain⟨s0,s1,s2,s3⟩:=cells2 D3)
     | (go_at_call_of 163 A7; refine (i_madeN (neg:=n2) (by exact gD.ext eC) r HR).mono ?_; intro e w11 hh; obtain⟨b11,A11,k11,c11,rfl,hb11,h11,e11⟩:=hh.form; replace eC:=eC.trans e11; have D2:=eC.block B2; have D3:=eC.block B3; obtain⟨r0,r1,r2,r3⟩:=cells2 D2; obtain⟨s0,s1,s2,s3⟩:=cells2 D3))
   go_wp2;obtain⟨w12,E12,F2,U⟩:=ex2 D2 (.bool b10) (.slice A10 k10 c10);rw [E12];obtain⟨w13,E13,F3,U'⟩:=ex2 (U.blk D3 (by omega)) (.bool b11) (.slice A11 k11 c11);rw [E13];obtain⟨z0,z1,-,-⟩:=cells2 (U'.blk F2 (by omega));obtain⟨z2,z3,-,-⟩:=cells2 F3;have hEf:Ext w w13:=U'.ext (U.ext (hE.trans eC) (by omega)) (by omega);refine bodyPost_ret (v:=.tuple #[.agg #[.bool b10,.slice A10 k10 c10],.agg #[.bool b11,.slice A11 k11 c11],.int .i64 0]) ?_ rfl ⟨_,_,rfl,IntV.mk hb10 ?_,IntV.mk hb11 ?_,hEf⟩
   ·simp [results,Tryz.results198,z0,z1,z2,z3,go_sem]
   ·exact ((h10.ext e11).upd U (by omega) (NoU.mk D2 (by decide))).upd U' (by omega) (NoU.mk (U.blk D3 (by omega)) (by decide))
   ·exact (h11.upd U (by omega) (NoU.mk D2 (by decide))).upd U' (by omega) (NoU.mk (U.blk D3 (by omega)) (by decide))
end Go.Proofs.YtphpkhoeplcedaaGreat
