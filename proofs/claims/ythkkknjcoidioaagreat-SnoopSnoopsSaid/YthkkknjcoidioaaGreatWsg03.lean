import Derived.Test.YthkkknjcoidioaaGreatWsg02
set_option linter.all false
set_option maxHeartbeats 8000000
namespace Go.Proofs.YthkkknjcoidioaaGreat
open Go.RowKit
def RetRb (N:Nat) (w:World) (q:Rat) (b:Bool) (e:Ending) (w':World):Prop:=∃ v,e=.returned (.tuple #[v,.bool b])∧RatV N w' v q∧Ext w w'
theorem RetRb.form {N:Nat} {w:World} {q:Rat} {b:Bool} {e:Ending} {w':World} (h:RetRb N w q b e w'):∃ nb A n c A' n' c',e=.returned (.tuple #[.agg #[.bool nb,.slice A n c,.bool false,.slice A' n' c'],.bool b])∧Hid (nb=decide (q.num < 0))∧Gs N w' (.slice A n c) (dg q.num.natAbs)∧Gs N w' (.slice A' n' c') (dg q.den)∧Ext w w':=by
 obtain⟨v,rfl,hv,he⟩:=h;obtain⟨nb,A,n,c,A',n',c',rfl,h1,h2,h3⟩:=RatV.parts hv;exact⟨nb,A,n,c,A',n',c',rfl,h1,h2,h3,he⟩
set_option maxRecDepth 100000 in
theorem l38_statistic {N lo hi:Nat} {w:World} {v1 v2 v3:Value} {m n:Nat} {X:Nat→Nat→Rat} {y p:Nat→Rat} (h1:MtV N lo hi w v1 m n X) (h2:LsV N lo hi w v2 m y) (h3:LsV N lo hi w v3 m p) (d:Md m n X y p) (hr:Reg n (nmat X p m)) {i:Nat} (him:i < m) :
  Calls Tryz.prog 27 #[.agg #[v1,v2,v3],.int .i64 (i:Int)] w (RetRb N w (zS m n X y p i) (kS m n X p i)):=by
 obtain⟨Rf,hRf⟩:=hid_eq (RetRb N w (zS m n X y p i) (kS m n X p i));rw [←hRf.out];have HD:=Lib.hid d;have HG:=Lib.hid hr;have hN:=h1.le;have hm0:=d.m0;have hm7:=d.m7;have hn0:=d.n0;have hn4:=d.n4;have hI1:=h1;have hI2:=h2;have hI3:=h3;obtain⟨A1,c1,rfl,hmc,hcm⟩:=h1.form;obtain⟨A2,c2,rfl,hmc2,hcm2⟩:=h2.form;obtain⟨A3,c3,rfl,hmc3,hcm3⟩:=h3.form;unfold maxLen at hcm hcm2 hcm3;clear h1 h2 h3 d hr;have HZR:=Lib.hid ((HD.out.r_ht i him).sz (by omega));have HZV:=Lib.hid ((HD.out.v_ht i him).sz (by omega));have HZP:=Lib.hid ((HD.out.hp i him).sz (by omega));have HZVV:=Lib.hid (((HD.out.v_ht i him).mul (HD.out.v_ht i him)).sz (by omega));have HZPV:=Lib.hid (((HD.out.hp i him).mul ((HD.out.v_ht i him).mul (HD.out.v_ht i him))).sz (by omega));have HKR:Hid (n*(400+22000000+1)+1+400≤29000000000):=by rw [Hid]; omega
 go_enter Tryz.func27,Tryz.ntmps27;go_upto_region 1 with (fail);refine boxes2 ?_;intro W hE hsz B0 B4;obtain⟨a0,a1,a2,-⟩:=cells3 B0;go_wp2_with (go_at_call 45; refine Hid.out ?_);refine (l38_redundancy (hI1.ext hE) (hI2.ext hE) (hI3.ext hE) HD.out HG.out him).mono ?_;intro e w1 hh;obtain⟨b3,A9,k9,c9,A10,k10,c10,rfl,hb3,g3,g4,e1⟩:=hh.form;replace hE:=hE.trans e1;replace B0:=e1.block B0;replace B4:=e1.block B4;clear a0 a1 a2 e1 hh hsz;go_upto_region 2 with (fail);refine boxes1 ?_;intro w2 e2 hsz2 B6;have hRr:=RatV.mk hb3 (g3.ext e2) (g4.ext e2);replace hE:=hE.trans e2;replace B0:=e2.block B0;replace B4:=e2.block B4;obtain⟨g6,hg6⟩:∃ g6,g6=w1.heap.size:=⟨_,rfl⟩
 rw [←hg6] at B6 ⊢;clear e2 hsz2 hg6 g3 g4 hb3;obtain⟨s0,s1,s2,s3,-⟩:=cells4 B6;go_wp2_with (go_at_call 35; refine Hid.out ?_);refine (r2_sign hRr HZR.out).mono ?_;rintro e w3 ⟨rfl,e3⟩;replace hE:=hE.trans e3;replace hRr:=hRr.ext e3;replace B0:=e3.block B0;replace B4:=e3.block B4;replace B6:=e3.block B6;clear s0 s1 s2 s3 e3;obtain⟨sg,hsg⟩:=hid_eq (rS m n X p i).num.sign;rw [←hsg.out]
 by_cases h0:rS m n X p i=0
 ·have t1:(sg == 0)=true:=by rw [hsg.out,h0]; rfl
  have hq:Hid (((0:Int):Rat)=zS m n X y p i∧false=kS m n X p i):=⟨by unfold zS; rw [if_pos h0]; rfl,by unfold kS; rw [decide_eq_false (by simpa using h0)]⟩
  clear h0;go_wp2_with (go_at_call 50; refine Hid.out ?_);refine (r2_Whole (N:=N) (by have:=hE.size; omega) 0 (by omega) (by omega)).mono ?_;intro e w4 hh;obtain⟨b3,A9,k9,c9,A10,k10,c10,rfl,hb3,g3,g4,e4⟩:=hh.form;replace hE:=hE.trans e4;replace B4:=e4.block B4;rw [hq.out.1] at hb3 g3 g4;obtain⟨y0,y1,y2,y3,y4,y5,y6,y7⟩:=cells4 B4;go_wp2;rw [hRf.out];exact fin_ratT (x:=.bool false) rfl rfl rfl rfl hE B4 (by omega) hN g3 g4 hb3 (fun v w' hv he=>⟨v,congrArg (fun b=>Ending.returned (.tuple #[v,.bool b])) hq.out.2,hv,he⟩)
 ·have t1:(sg == 0)=false:=by
   rw [hsg.out,beq_eq_false_iff_ne];intro h9;exact h0 (Rat.num_eq_zero.1 (Int.sign_eq_zero_iff_zero.1 h9))
  have HR0:=Lib.hid h0;have hq:Hid (tS m n X y p i=zS m n X y p i∧true=kS m n X p i):=⟨by unfold zS; rw [if_neg h0],by unfold kS; rw [decide_eq_true (by simpa using h0)]⟩
  clear h0;obtain⟨a0,a1,a2,-⟩:=cells3 B0;go_wp2_with (go_at_call 15; refine Hid.out ?_);refine (l34_solve (hI1.ext hE) (hI2.ext hE) (hI3.ext hE) HD.out HG.out).mono ?_;rintro e w4 ⟨AX,cX,rfl,hX,e4⟩;replace hE:=hE.trans e4;replace hRr:=hRr.ext e4;replace B0:=e4.block B0;replace B4:=e4.block B4;replace B6:=e4.block B6;clear a0 a1 a2 e4;obtain⟨a0,a1,a2,-⟩:=cells3 B0;go_wp2_with (go_at_call 55; refine Hid.out ?_);refine (l34_residuals (hI1.ext hE) (hI2.ext hE) (hI3.ext hE) hX (by omega) hn0 (by omega) HD.out.hX HD.out.hy HD.out.x_ht HKR.out).mono ?_;rintro e w5 ⟨AV,cV,rfl,hV,e5⟩;replace hV:LsV N w4.heap.size w5.heap.size w5 (.slice AV m cV) m (vS m n X y p):=hV;replace hE:=hE.trans e5;replace hRr:=hRr.ext e5;replace B0:=e5.block B0;replace B4:=e5.block B4;replace B6:=e5.block B6;clear a0 a1 a2 e5;obtain⟨b6,off6,rfl,-,-,hx6⟩:=LsR.addr hV hm0;obtain⟨n1,A6,k6,c6,A12,k12,c12,p0,p1,p2,p3,hb1,g1,g2⟩:=(hx6 i him).open;clear hx6;go_upto_region 6 with (fail);refine boxes1 ?_;intro w6 e6 hsz6 B9;have hRv:=RatV.mk hb1 (g1.ext e6) (g2.ext e6);obtain⟨f3,off3,rfl,-,-,hx3⟩:=LsV.addr hI3 hm0;replace hE:=hE.trans e6;replace hRr:=hRr.ext e6;replace B0:=e6.block B0;replace B4:=e6.block B4;replace B6:=e6.block B6;obtain⟨g9,hg9⟩:∃ g9,g9=w5.heap.size:=⟨_,rfl⟩
  rw [←hg9] at B9 ⊢;clear e6 hsz6 hg9 g1 g2 hb1 p0 p1 p2 p3;obtain⟨n5,A13,k13,c13,A14,k14,c14,q0,q1,q2,q3,hb5,g5,g7⟩:=((hx3 i him).ext hE).open;have hRp:=RatV.mk hb5 g5 g7;obtain⟨s0,s1,s2,s3,-⟩:=cells4 B6;obtain⟨t0,t1,t2,t3,-⟩:=cells4 B9;have HTS:Hid (p i*(vS m n X y p i*vS m n X y p i) / rS m n X p i=zS m n X y p i):=hq.out.1;obtain⟨a0,a1,a2,-⟩:=cells3 B0;refine regI [Mn.eq (.pointer (some ⟨w.heap.size,2,none⟩)),Mn.eq (.slice (some ⟨f3,off3,none⟩) m c3),Mn.eq (.int .i64 (i:Int)),Mn.eq (.pointer (some ⟨f3,off3+i*4,none⟩)),Mn.rat N (p i),Mn.rat N (vS m n X y p i),Mn.rat N (vS m n X y p i),Mn.rat N (vS m n X y p i*vS m n X y p i),Mn.rat N (p i*(vS m n X y p i*vS m n X y p i)),Mn.rat N (rS m n X p i),Mn.rat N (zS m n X y p i),Mn.any,Mn.any] [some 28,some 29,some 30,some 31,some 32,some 33,some 34,some 35,some 36,some 37,some 38,none,some 5] [11,12] [true,true,true,true,true,true,true,true,true,true,true,false,false] 2 (by kernel_rfl) ?_ ?_
  ·show ∀ i,i < 13→_
   iterate 13 refine fs ?_ ?_
   ·exact fz
   all_goals intro hl
   all_goals first | exact absurd hl (by decide) | skip
   all_goals clear hl
   all_goals refine stp rfl ?_
   all_goals intro ac wi eI hB hA K hK
   have o2:=oOf (hB 2 (by kernel_rfl)) rfl
   rotate_left
   obtain⟨_,s28,rfl⟩:=hA 0 (by kernel_rfl) 28 rfl;have cc0:=eI.cell a2
   rotate_left
   have o1:=oOf (hB 1 (by kernel_rfl)) rfl
   rotate_left
   obtain⟨_,s29,rfl⟩:=hA 1 (by kernel_rfl) 29 rfl;obtain⟨_,s30,rfl⟩:=hA 2 (by kernel_rfl) 30 rfl
   rotate_left
   obtain⟨_,s31,rfl⟩:=hA 3 (by kernel_rfl) 31 rfl;clear hB hA;have cc0:=eI.cell q0;have cc1:=eI.cell q1;have cc2:=eI.cell q2;have cc3:=eI.cell q3
   ·go_simp;exact hK.out _ _ (Ext.refl _) (hRp.ext eI)
   have o9:=oOf (hB 9 (by kernel_rfl)) rfl;clear hB hA;have cc0:=eI.cell t0;have cc1:=eI.cell t1;have cc2:=eI.cell t2;have cc3:=eI.cell t3
   ·go_simp;exact hK.out _ _ (Ext.refl _) (hRv.ext eI)
   have o9:=oOf (hB 9 (by kernel_rfl)) rfl;clear hB hA;have cc0:=eI.cell t0;have cc1:=eI.cell t1;have cc2:=eI.cell t2;have cc3:=eI.cell t3
   ·go_simp;exact hK.out _ _ (Ext.refl _) (hRv.ext eI)
   obtain⟨x33,s33,j33⟩:=hA 5 (by kernel_rfl) 33 rfl;replace j33:Mn.p (Mn.rat N (vS m n X y p i)) x33 wi:=j33;obtain⟨x34,s34,j34⟩:=hA 6 (by kernel_rfl) 34 rfl;replace j34:Mn.p (Mn.rat N (vS m n X y p i)) x34 wi:=j34;clear hB hA
   ·go_simp;refine (l38_mul j33 j34 HZV.out HZV.out).mono ?_;rintro e wj ⟨vj,rfl,hj,ej⟩;go_wp2_with fail;exact hK.out _ _ ej hj
   obtain⟨x32,s32,j32⟩:=hA 4 (by kernel_rfl) 32 rfl;replace j32:Mn.p (Mn.rat N (p i)) x32 wi:=j32;obtain⟨x35,s35,j35⟩:=hA 7 (by kernel_rfl) 35 rfl;replace j35:Mn.p (Mn.rat N (vS m n X y p i*vS m n X y p i)) x35 wi:=j35;clear hB hA
   ·go_simp;refine (l38_mul j32 j35 HZP.out HZVV.out).mono ?_;rintro e wj ⟨vj,rfl,hj,ej⟩;go_wp2_with fail;exact hK.out _ _ ej hj
   have o6:=oOf (hB 6 (by kernel_rfl)) rfl;clear hB hA;have cc0:=eI.cell s0;have cc1:=eI.cell s1;have cc2:=eI.cell s2;have cc3:=eI.cell s3
   ·go_simp;exact hK.out _ _ (Ext.refl _) (hRr.ext eI)
   obtain⟨x36,s36,j36⟩:=hA 8 (by kernel_rfl) 36 rfl;replace j36:Mn.p (Mn.rat N (p i*(vS m n X y p i*vS m n X y p i))) x36 wi:=j36;obtain⟨x37,s37,j37⟩:=hA 9 (by kernel_rfl) 37 rfl;replace j37:Mn.p (Mn.rat N (rS m n X p i)) x37 wi:=j37;clear hB hA
   ·go_simp;refine (l38_div j36 j37 HZPV.out HZR.out HR0.out).mono ?_;rw [HTS.out];rintro e wj ⟨vj,rfl,hj,ej⟩;go_wp2_with fail;exact hK.out _ _ ej hj
   all_goals clear hB hA
   all_goals go_simp
   all_goals exact hK.out _ _ (Ext.refl _) rfl
  intro vals wz eZ hJ;have J38:Mn.p (Mn.rat N (zS m n X y p i)) (vals 10) wz:=hJ 10 (by decide) (by decide);clear hJ;simp only [pr,Nat.reduceAdd]
  generalize vals 10=z38 at J38 ⊢
  obtain⟨bz,Az,kz,cz,Az',kz',cz',rfl,hbz,gz1,gz2⟩:=RatV.parts J38;have D0:=eZ.block B4;obtain⟨u0,u1,u2,u3,u4,u5,u6,u7⟩:=cells4 D0;refine stepL_late (i:=11) rfl (by kernel_rfl) (by kernel_rfl) (fun K hK=>?_);go_simp;refine hK.out _ _ ?_;clear hK K;try simp only [nr]
  refine stepL_late (i:=12) rfl (by kernel_rfl) (by kernel_rfl) (fun K hK=>?_);go_simp;refine hK.out _ _ ?_;clear hK K;try simp only [nr]
  refine stepL_done (by kernel_rfl) ?_ _;go_wp2;rw [hRf.out];exact fin_ratT (x:=.bool true) rfl rfl rfl rfl (hE.trans eZ) D0 (by omega) hN gz1 gz2 hbz (fun v w' hv he=>⟨v,congrArg (fun b=>Ending.returned (.tuple #[v,.bool b])) hq.out.2,hv,he⟩)
theorem cmp_sub (x y:Rat):decide (0 < (x - y).num.sign)=decide (y < x):=by
 have h:(0 < (x - y).num.sign)↔y < x:=by
  rw [Int.sign_pos_iff]
  constructor
  ·intro h; have:=rat_pos h; grind
  ·intro h; exact num_pos (by grind)
 by_cases h':y < x
 ·rw [decide_eq_true h',decide_eq_true (h.2 h')]
 ·rw [decide_eq_false h',decide_eq_false (fun h9=>h' (h.1 h9))]
def bQ (Z:Nat→Rat) (z:Int):Rat:=if z < 0 then 0 else Z z.toNat
theorem bQ_nat (Z:Nat→Rat) (b:Nat):bQ Z (b:Int)=Z b:=by unfold bQ; rw [if_neg (by omega)]; rfl
def RetWrs (N:Nat) (w:World) (m n:Nat) (X:Nat→Nat→Rat) (y p:Nat→Rat) (e:Ending) (w':World):Prop:=∃ v,e=.returned (.tuple #[.int .i64 (wS m n X y p),v])∧RatV N w' v (bQ (zS m n X y p) (wS m n X y p))∧Ext w w'
set_option maxRecDepth 100000 in
theorem l38_worst {N lo hi:Nat} {w:World} {v1 v2 v3:Value} {m n:Nat} {X:Nat→Nat→Rat} {y p:Nat→Rat} (h1:MtV N lo hi w v1 m n X) (h2:LsV N lo hi w v2 m y) (h3:LsV N lo hi w v3 m p) (d:Md m n X y p) (hr:Reg n (nmat X p m)) :
  Calls Tryz.prog 74 #[.agg #[v1,v2,v3]] w (RetWrs N w m n X y p):=by
 obtain⟨Rf,hRf⟩:=hid_eq (RetWrs N w m n X y p);rw [←hRf.out];have HZS:Hid (∀ i,i < m→Sz (zS m n X y p i)):=fun i hi=>(zS_ht d i hi).sz (by omega)
 have HZD:Hid (∀ i,i < m→∀ j,j < m→Sz (zS m n X y p i - zS m n X y p j)):=fun i hi j hj=>((zS_ht d i hi).sub (zS_ht d j hj)).sz (by omega)
 have HD:=Lib.hid d;have HG:=Lib.hid hr;have hN:=h1.le;have hm0:=d.m0;have hm7:=d.m7;have hn0:=d.n0;have hn4:=d.n4;have hI1:=h1;have hI2:=h2;have hI3:=h3;obtain⟨A1,c1,rfl,hmc,hcm⟩:=h1.form;obtain⟨A2,c2,rfl,hmc2,hcm2⟩:=h2.form;obtain⟨A3,c3,rfl,hmc3,hcm3⟩:=h3.form;unfold maxLen at hcm hcm2 hcm3;clear h1 h2 h3 d hr;have HST:Hid (∀ wr,Ext w wr→∀ i,i < m→Calls Tryz.prog 27 #[.agg #[.slice A1 m c1,.slice A2 m c2,.slice A3 m c3],.int .i64 (i:Int)] wr (RetRb N wr (zS m n X y p i) (kS m n X p i))):=fun wr e i hi=>l38_statistic (hI1.ext e) (hI2.ext e) (hI3.ext e) HD.out HG.out hi
 obtain⟨Z,hZ⟩:=hid_eq (zS m n X y p);obtain⟨K0,hK0⟩:=hid_eq (kS m n X p);rw [←hZ.out] at HZS HZD HST;rw [←hK0.out] at HST;obtain⟨WB,hWB⟩:=hid_eq (wF K0 Z);go_enter Tryz.func74,Tryz.ntmps74;go_wp2_with (go_at_call 50; refine Hid.out ?_);refine boxesC2 ?_;intro W hE hsz B0 B4;refine (r2_Whole (N:=N) (by have:=hE.size; omega) 0 (by omega) (by omega)).mono ?_;intro e w1 hh;obtain⟨b3,A9,k9,c9,A10,k10,c10,rfl,hb3,g3,g4,e1⟩:=hh.form;replace hE:=hE.trans e1;replace B0:=e1.block B0;replace B4:=e1.block B4;have hl4:=blk_lt B4;clear e1 hh hsz;go_upto_region 2 with (fail);refine boxes1 ?_;intro w2 e2 hsz2 B3;obtain⟨gx,hgx⟩:∃ gx,gx=w1.heap.size:=⟨_,rfl⟩
 rw [←hgx] at B3 ⊢;have hBx:BoxR N w2 gx (bQ Z (-1)):=BoxR.mk B3 hb3 (g3.ext e2) (g4.ext e2);have hgx1:w.heap.size+1 < gx:=by omega
 have hgx3:gx < w2.heap.size:=by omega
 have hNgx:N≤gx:=by omega
 replace hE:=hE.trans e2;replace B0:=e2.block B0;replace B4:=e2.block B4;clear B3 g3 g4 hb3 hgx hsz2 e2 hl4;obtain⟨a0,a1,a2,-⟩:=cells3 B0;go_wp2;clear a0 a1 a2
 go_loopw [13,4] (fun i vb wr=>∃ k:Nat,k≤m∧i=.int .i64 k∧Chg gx (gx+1) w2 wr∧gx < wr.heap.size∧∃ bz:Int,vb=.int .i64 bz∧Hid (bz=WB k)∧-1≤bz∧bz < (k:Int)+0∧BoxR N wr gx (bQ Z bz)) (fun i _ _=>m - (intOf i).toNat)
 case atStart=>exact⟨0,Nat.zero_le _,rfl,Chg.refl _ _ _,hgx3,-1,rfl,by rw [Hid,hWB.out]; rfl,by omega,by omega,hBx⟩
 case round =>
  clear hBx;obtain⟨k,hk,rfl,hC,hsg,bz,rfl,HBZ,hbz1,hbz2,hBx⟩:=hrel;have hEr:=hC.ext hE (by omega);have B0r:=hC.blk B0 (.inl (by omega));have B4r:=hC.blk B4 (.inl hgx1)
  by_cases hlt:k < m
  ·obtain⟨a0,a1,a2,-⟩:=cells3 B0r;go_wp2_with (go_at_call 27; refine Hid.out ?_);refine (HST.out _ hEr k hlt).mono ?_;intro e w3 hh;obtain⟨n1,A11,k11,c11,A12,k12,c12,rfl,hb1,g1,g2,e3⟩:=hh.form;have hC3:=hC.trans (e3.chg _ _);replace hBx:=hBx.ext e3;have hs3:=e3.size;clear a0 a1 a2 hh B0r B4r hEr;obtain⟨tk,htk⟩:=hid_eq (K0 k);rw [←htk.out];go_upto_region 6 with (fail);refine boxes1 ?_;intro w5 e5 hsz5 B7;have hRk:RatV N w5 (.agg #[.bool n1,.slice A11 k11 c11,.bool false,.slice A12 k12 c12]) (Z k):=RatV.mk hb1 (g1.ext e5) (g2.ext e5);have hC5:=hC3.trans (e5.chg _ _);replace hBx:=hBx.ext e5;obtain⟨g7,hg7⟩:∃ g7,g7=w3.heap.size:=⟨_,rfl⟩
   rw [←hg7] at B7 ⊢;have hs5:gx < w5.heap.size:=by omega
   clear e3 e5 hsz5 hg7 g1 g2 hb1 hs3 hC3;obtain⟨t0,t1,t2,t3,-⟩:=cells4 B7;cases tk with
   | false =>
    have HBN:Hid (bz=WB (k+1)):=by
     rw [Hid,hWB.out]; show bz=wF K0 Z (k+1); unfold wF
     rw [←htk.out,if_neg (by simp),←hWB.out]; exact HBZ.out
    have HBD:Hid (-1≤bz∧bz < ((k+1:Nat):Int)+0):=by rw [Hid]; omega
    go_wp2;go_roundw
    case rel=>exact⟨k+1,by omega,by go_num,hC5,hs5,bz,rfl,HBN,HBD.out.1,HBD.out.2,hBx⟩
    case measure=>simp [intOf]; omega
   | true =>
    by_cases hneg:bz < 0
    ·have HBN:Hid (((k:Nat):Int)=WB (k+1)):=by
      rw [Hid,hWB.out]; show (k:Int)=wF K0 Z (k+1); unfold wF
      rw [←htk.out,if_pos ⟨rfl,.inl (by rw [←hWB.out,←HBZ.out]; exact hneg)⟩]
     have HBD:Hid (-1≤(k:Int)∧(k:Int) < ((k+1:Nat):Int)+0):=by rw [Hid]; omega
     go_upto_region 7 with (fail);refine regI [Mn.eq (.int .i64 (k:Int)),Mn.rat N (Z k),Mn.eq (.int .i64 (k:Int)),Mn.any] [some 33,some 34,some 4,none] [3] [true,true,true,false] 1 (by kernel_rfl) ?_ ?_
     ·show ∀ i,i < 4→_
      iterate 4 refine fs ?_ ?_
      ·exact fz
      all_goals intro hl
      all_goals first | exact absurd hl (by decide) | skip
      all_goals clear hl
      all_goals refine stp rfl ?_
      all_goals intro ac wi eI hB hA K hK
      have o6:=oOf (hB 6 (by kernel_rfl)) rfl
      rotate_left
      have o7:=oOf (hB 7 (by kernel_rfl)) rfl;clear hB hA;have cc0:=eI.cell t0;have cc1:=eI.cell t1;have cc2:=eI.cell t2;have cc3:=eI.cell t3
      ·go_simp;exact hK.out _ _ (Ext.refl _) (hRk.ext eI)
      obtain⟨_,s33,rfl⟩:=hA 0 (by kernel_rfl) 33 rfl
      rotate_left
      all_goals clear hB hA
      all_goals go_simp
      all_goals exact hK.out _ _ (Ext.refl _) rfl
     intro vals wz eZ hJ;have J34:Mn.p (Mn.rat N (Z k)) (vals 1) wz:=hJ 1 (by decide) (by decide);have J4:vals 2=_:=hJ 2 (by decide) (by decide);clear hJ;simp only [pr,Nat.reduceAdd,J4];clear J4
     generalize vals 1=z34 at J34 ⊢
     obtain⟨nz,Az,kz,cz,Az',kz',cz',rfl,hbz,gz1,gz2⟩:=RatV.parts J34;obtain⟨f0,F1,l1,k1,F2,l2,k2,u0,u1,u2,u3,u4,u5,u6,u7,hRx,D0⟩:=(hBx.ext eZ).open;refine stepL_late (i:=3) rfl (by kernel_rfl) (by kernel_rfl) (fun K hK=>?_);go_simp;refine hK.out _ _ ?_;clear hK K;try simp only [nr]
     refine stepL_done (by kernel_rfl) ?_ _;obtain⟨w9,E9,hB9,K9,hs9⟩:=boxSet (q:=Z k) D0 (by omega) hbz gz1 gz2;rw [E9];have hC9:=(hC5.trans (eZ.chg _ _)).trans K9;have hs10:gx < w9.heap.size:=by have:=eZ.size; omega
     have hBk:BoxR N w9 gx (bQ Z (k:Int)):=by rw [bQ_nat]; exact hB9
     clear E9 K9 D0 t0 t1 t2 t3 u0 u1 u2 u3 u4 u5 u6 u7 gz1 gz2 hbz hRk hB9 hBx hRx;go_wp2;go_roundw
     case rel=>exact⟨k+1,by omega,by go_num,hC9,hs10,(k:Int),rfl,HBN,HBD.out.1,HBD.out.2,hBk⟩
     case measure=>simp [intOf]; omega
    ·obtain⟨b,hbz⟩:∃ b:Nat,bz=(b:Int):=⟨bz.toNat,by omega⟩
     subst hbz;have hbm:b < m:=by omega
     have HS1:=Lib.hid (HZS.out k hlt);have HS2:=Lib.hid (HZS.out b hbm);have HS3:=Lib.hid (HZD.out k hlt b hbm);obtain⟨f0,F1,l1,k1,F2,l2,k2,s0,s1,s2,s3,-,-,-,-,hRx,-⟩:=hBx.open;rw [bQ_nat] at hRx;go_wp2_with (go_at_call 28; refine Hid.out ?_);refine (r2_compare hRk hRx HS1.out HS2.out HS3.out).mono ?_;obtain⟨sg,hsg⟩:=hid_eq (Z k - Z b).num.sign;rw [←hsg.out];rintro e w6 ⟨rfl,e6⟩;replace hC5:=hC5.trans (e6.chg _ _);replace hBx:=hBx.ext e6;replace hRk:=hRk.ext e6;replace hs5:gx < w6.heap.size:=by have:=e6.size; omega
     replace B7:=e6.block B7;clear t0 t1 t2 t3 s0 s1 s2 s3 hRx e6;obtain⟨t0,t1,t2,t3,-⟩:=cells4 B7
     by_cases hlt2:Z b < Z k
     ·have tg:decide (0 < sg)=true:=by rw [hsg.out,cmp_sub]; exact decide_eq_true hlt2
      have tg2:0 < sg:=of_decide_eq_true tg
      have HBN:Hid (((k:Nat):Int)=WB (k+1)):=by
       rw [Hid,hWB.out]; show (k:Int)=wF K0 Z (k+1); unfold wF
       rw [←htk.out,if_pos ⟨rfl,.inr (by rw [←hWB.out,←HBZ.out]; simpa using hlt2)⟩]
      have HBD:Hid (-1≤(k:Int)∧(k:Int) < ((k+1:Nat):Int)+0):=by rw [Hid]; omega
      clear hlt2;go_upto_region 7 with (fail);refine regI [Mn.eq (.int .i64 (k:Int)),Mn.rat N (Z k),Mn.eq (.int .i64 (k:Int)),Mn.any] [some 33,some 34,some 4,none] [3] [true,true,true,false] 1 (by kernel_rfl) ?_ ?_
      ·show ∀ i,i < 4→_
       iterate 4 refine fs ?_ ?_
       ·exact fz
       all_goals intro hl
       all_goals first | exact absurd hl (by decide) | skip
       all_goals clear hl
       all_goals refine stp rfl ?_
       all_goals intro ac wi eI hB hA K hK
       have o6:=oOf (hB 6 (by kernel_rfl)) rfl
       rotate_left
       have o7:=oOf (hB 7 (by kernel_rfl)) rfl;clear hB hA;have cc0:=eI.cell t0;have cc1:=eI.cell t1;have cc2:=eI.cell t2;have cc3:=eI.cell t3
       ·go_simp;exact hK.out _ _ (Ext.refl _) (hRk.ext eI)
       obtain⟨_,s33,rfl⟩:=hA 0 (by kernel_rfl) 33 rfl
       rotate_left
       all_goals clear hB hA
       all_goals go_simp
       all_goals exact hK.out _ _ (Ext.refl _) rfl
      intro vals wz eZ hJ;have J34:Mn.p (Mn.rat N (Z k)) (vals 1) wz:=hJ 1 (by decide) (by decide);have J4:vals 2=_:=hJ 2 (by decide) (by decide);clear hJ;simp only [pr,Nat.reduceAdd,J4];clear J4
      generalize vals 1=z34 at J34 ⊢
      obtain⟨nz,Az,kz,cz,Az',kz',cz',rfl,hbz,gz1,gz2⟩:=RatV.parts J34;obtain⟨f0,F1,l1,k1,F2,l2,k2,u0,u1,u2,u3,u4,u5,u6,u7,hRx,D0⟩:=(hBx.ext eZ).open;refine stepL_late (i:=3) rfl (by kernel_rfl) (by kernel_rfl) (fun K hK=>?_);go_simp;refine hK.out _ _ ?_;clear hK K;try simp only [nr]
      refine stepL_done (by kernel_rfl) ?_ _;obtain⟨w9,E9,hB9,K9,hs9⟩:=boxSet (q:=Z k) D0 (by omega) hbz gz1 gz2;rw [E9];have hC9:=(hC5.trans (eZ.chg _ _)).trans K9;have hs10:gx < w9.heap.size:=by have:=eZ.size; omega
      have hBk:BoxR N w9 gx (bQ Z (k:Int)):=by rw [bQ_nat]; exact hB9
      clear E9 K9 D0 t0 t1 t2 t3 u0 u1 u2 u3 u4 u5 u6 u7 gz1 gz2 hbz hRk hB9 hBx hRx;go_wp2;go_roundw
      case rel=>exact⟨k+1,by omega,by go_num,hC9,hs10,(k:Int),rfl,HBN,HBD.out.1,HBD.out.2,hBk⟩
      case measure=>simp [intOf]; omega
     ·have tg:decide (0 < sg)=false:=by rw [hsg.out,cmp_sub]; exact decide_eq_false hlt2
      have tg2:¬ 0 < sg:=of_decide_eq_false tg;obtain⟨bz,hbz⟩:∃ bz:Int,bz=(b:Int):=⟨_,rfl⟩
      have HBN:Hid (bz=WB (k+1)):=by
       rw [Hid,hWB.out]; show bz=wF K0 Z (k+1); unfold wF
       rw [hbz,←hWB.out,←HBZ.out,if_neg (fun h9=>by
        rcases h9.2 with h8 | h8
        ·omega
        ·exact hlt2 (by simpa using h8))]
      have HBD:Hid (-1≤bz∧bz < ((k+1:Nat):Int)+0):=by rw [Hid]; omega
      rw [←hbz] at hBx ⊢;clear hlt2 hbz;go_wp2;go_roundw
      case rel=>exact⟨k+1,by omega,by go_num,hC5,hs5,bz,rfl,HBN,HBD.out.1,HBD.out.2,hBx⟩
      case measure=>simp [intOf]; omega
  ·obtain rfl:k=m:=by omega
   have HWS:Hid (wS k n X y p=bz):=by rw [Hid,HBZ.out,hWB.out,hZ.out,hK0.out]; rfl
   obtain⟨f0,F1,l1,k1,F2,l2,k2,s0,s1,s2,s3,-,-,-,-,hRx,-⟩:=hBx.open;go_upto_region 9 with (fail);refine regI [Mn.eq (.int .i64 bz),Mn.rat N (bQ Z bz),Mn.eq (.int .i64 bz),Mn.any] [some 36,some 37,some 2,none] [3] [true,true,true,false] 1 (by kernel_rfl) ?_ ?_
   ·show ∀ i,i < 4→_
    iterate 4 refine fs ?_ ?_
    ·exact fz
    all_goals intro hl
    all_goals first | exact absurd hl (by decide) | skip
    all_goals clear hl
    all_goals refine stp rfl ?_
    all_goals intro ac wi eI hB hA K hK
    have o4:=oOf (hB 4 (by kernel_rfl)) rfl
    rotate_left
    have o5:=oOf (hB 5 (by kernel_rfl)) rfl;clear hB hA;have cc0:=eI.cell s0;have cc1:=eI.cell s1;have cc2:=eI.cell s2;have cc3:=eI.cell s3
    ·go_simp;exact hK.out _ _ (Ext.refl _) (hRx.ext eI)
    obtain⟨_,s36,rfl⟩:=hA 0 (by kernel_rfl) 36 rfl
    rotate_left
    all_goals clear hB hA
    all_goals go_simp
    all_goals exact hK.out _ _ (Ext.refl _) rfl
   intro vals wz eZ hJ;have J37:Mn.p (Mn.rat N (bQ Z bz)) (vals 1) wz:=hJ 1 (by decide) (by decide);have J2:vals 2=_:=hJ 2 (by decide) (by decide);clear hJ;simp only [pr,Nat.reduceAdd,J2];clear J2
   generalize vals 1=z37 at J37 ⊢
   obtain⟨nz,Az,kz,cz,Az',kz',cz',rfl,hbz,gz1,gz2⟩:=RatV.parts J37;have D0:=eZ.block B4r;obtain⟨u0,u1,u2,u3,u4,u5,u6,u7⟩:=cells4 D0;refine stepL_late (i:=3) rfl (by kernel_rfl) (by kernel_rfl) (fun K hK=>?_);go_simp;refine hK.out _ _ ?_;clear hK K;try simp only [nr]
   refine stepL_done (by kernel_rfl) ?_ _;obtain⟨w6,E6,D6,U6⟩:=ex4 D0 (.bool nz) (.slice Az kz cz) (.bool false) (.slice Az' kz' cz');rw [E6];have hE6:=U6.ext (hEr.trans eZ) (by omega);obtain⟨x0,x1,x2,x3,-⟩:=cells4 D6;go_wp2;refine bodyPost_ret (v:=.tuple #[.int .i64 bz,.agg #[.bool nz,.slice Az kz cz,.bool false,.slice Az' kz' cz']]) ?_ rfl ?_
   ·simp [results,x0,x1,x2,x3,go_sem]
   ·rw [hRf.out];unfold RetWrs;rw [HWS.out,←hZ.out];exact⟨_,rfl,RatV.mk hbz (gz1.upd U6 (by omega) (NoU.mk D0 (by decide))) (gz2.upd U6 (by omega) (NoU.mk D0 (by decide))),hE6⟩
def nilLin:Value:=.agg #[.slice none 0 0,.slice none 0 0,.slice none 0 0]
theorem l34_same {N lo hi lo2 hi2:Nat} {w:World} {v1 v2 v3 u1 u2 u3:Value} {m n:Nat} {X X':Nat→Nat→Rat} {y y' p p':Nat→Rat} (h1:MtV N lo hi w v1 m n X) (h2:LsV N lo hi w v2 m y) (h3:LsV N lo hi w v3 m p) (g1:MtV N lo2 hi2 w u1 m n X') (g2:LsV N lo2 hi2 w u2 m y') (g3:LsV N lo2 hi2 w u3 m p')
  (hX:∀ i,i < m→∀ j,j < n→X i j=X' i j) (hy:∀ i,i < m→y i=y' i) (hp:∀ i,i < m→p i=p' i) (sX:∀ i,i < m→∀ j,j < n→Sz (X i j)) (sy:∀ i,i < m→Sz (y i)) (sp:∀ i,i < m→Sz (p i)) :
  Calls Tryz.prog 26 #[.agg #[v1,v2,v3],.agg #[u1,u2,u3]] w (RetV w (.bool true)):=by
 have HX:=Lib.hid hX;have HY:=Lib.hid hy;have HP:=Lib.hid hp;have SX:=Lib.hid sX;have SY:=Lib.hid sy;have SP:=Lib.hid sp;obtain⟨A1,c1,rfl,hmc,hcm⟩:=h1.form;obtain⟨A2,c2,rfl,hmc2,hcm2⟩:=h2.form;obtain⟨A3,c3,rfl,hmc3,hcm3⟩:=h3.form;obtain⟨A4,c4,rfl,hmc4,hcm4⟩:=g1.form;obtain⟨A5,c5,rfl,hmc5,hcm5⟩:=g2.form;obtain⟨A6,c6,rfl,hmc6,hcm6⟩:=g3.form;have hI1:=h1;have hI2:=h2;have hI3:=h3;have hI4:=g1;have hI5:=g2;have hI6:=g3;clear h1 h2 h3 g1 g2 g3 hX hy hp sX sy sp;go_enter Tryz.func26,Tryz.ntmps26;go_upto_region 1 with (fail);refine boxes2 ?_;intro W hE hsz B0 B1;obtain⟨a0,a1,a2,-⟩:=cells3 B0;obtain⟨d0,d1,d2,-⟩:=cells3 B1;go_wp2_with (go_at_call 75; refine Hid.out ?_);refine (r2_sameMatrix (hI1.ext hE) (hI4.ext hE) SX.out HX.out).mono ?_;rintro e w1 ⟨rfl,e1⟩;replace hE:=hE.trans e1;replace B0:=e1.block B0;replace B1:=e1.block B1;clear a0 a1 a2 d0 d1 d2 e1;obtain⟨a0,a1,a2,-⟩:=cells3 B0;obtain⟨d0,d1,d2,-⟩:=cells3 B1;go_wp2_with (go_at_call 47; refine Hid.out ?_);refine (r2_sameList (hI2.ext hE) (hI5.ext hE) SY.out HY.out).mono ?_;rintro e w2 ⟨rfl,e2⟩;replace hE:=hE.trans e2;replace B0:=e2.block B0;replace B1:=e2.block B1;clear a0 a1 a2 d0 d1 d2 e2;obtain⟨a0,a1,a2,-⟩:=cells3 B0;obtain⟨d0,d1,d2,-⟩:=cells3 B1;go_wp2_with (go_at_call 47; refine Hid.out ?_);refine (r2_sameList (hI3.ext hE) (hI6.ext hE) SP.out HP.out).mono ?_;rintro e w3 ⟨rfl,e3⟩;go_wp2;go_ret;exact⟨rfl,hE.trans e3⟩
section
variable {ET:TypeId} {base:Nat} {w:World} {v:Value} {xs:List Value}
theorem run_append_oz {z0:Value} {bz:Nat} (ho:One ET z0 bz) (t ty:TypeId) (ht:Tryz.prog.underlying t=some (.slice ET)) (h:GrowO ET base w v xs) {a:Addr} {m c:Nat} {news:List Value} (hl:news.length=m)
  (hnews:∀ j u,news[j]?=some u→w.cell? (a.add j)=some u) (h1:∀ u∈news,u.oneCell'=true) (hn:xs.length+m≤1000000000) :
  ∃ v' w',(Builtin.append_ #[t,t] ty #[v,.slice (some a) m c]).run Tryz.prog w=.ok v' w'∧GrowO ET base w' v' (xs ++ news)∧(v'.ownBlock=v.ownBlock∨v'.ownBlock=some w.heap.size) ∧
   (∃ g',base≤g'∧(v.ownBlock=some g'∨g'=w.heap.size)∧Chg g' (g'+1) w w'∧NoU w g'):=by
 obtain⟨i0,hi0,hz0,hz1,hz2⟩:=info_parts ho.inf;obtain⟨hb0,hown⟩:=h;have hle:=ho.le
 obtain⟨v',w',hrun,hO,hgr,-,hat⟩:=run_append_own_at (P:=Tryz.prog) w base t ty ET i0 _ 1 bz ht hi0 hz0 hz1 hz2 ho.cells (by omega) v xs.length xs hown a m c news (by omega) hnews h1 (by unfold maxLen; omega)
  (Nat.le_trans (Nat.mul_le_mul hn ho.le) (by decide)) hb0
 refine⟨v',w',hrun,⟨Nat.le_trans hb0 hgr.size,?_⟩,hat,?_⟩
 ·rw [List.length_append,hl]; exact hO
 ·have hT:NoU w w.heap.size:=fun cs fr h=>by rw [Array.getElem?_eq_none (Nat.le_refl _)] at h; cases h
  rcases hown.2 with ⟨rfl,h0⟩ | ⟨g0,cap0,cur,rfl,hbb,hh,_⟩
  ·exact⟨w.heap.size,hb0,.inr rfl,grown_chg hgr (fun k hk=>by simp [Value.ownBlock] at hk) hT,hT⟩
  ·have hT0:NoU w g0:=NoU.mk hh ho.ne;exact⟨g0,hbb,.inl rfl,grown_chg hgr (fun k hk=>by simpa [Value.ownBlock] using hk.symm) hT0,hT0⟩
theorem step_append_oz {z0:Value} {bz:Nat} (h0:One ET z0 bz) {ops:Array Oper} {o:Oper} {a:Act} {K:Act→World→Prop} {Q:Exit→Act→World→Prop} {E:Prop} (hgd:o.guard=none) (s x:Operand) (t:TypeId) (ht:Tryz.prog.underlying t=some (.slice ET))
  (ho:o.op=.call { callee:=.builtin .append,args:=#[s,x],argTypes:=#[t,t] }) (hs:a.eval s=v) (h:GrowO ET base w v xs) {ad:Addr} {m c:Nat} {news:List Value} (hx:a.eval x=.slice (some ad) m c) (hl:news.length=m)
  (hnews:∀ j u,news[j]?=some u→w.cell? (ad.add j)=some u) (h1:∀ u∈news,u.oneCell'=true) (hn:xs.length+m≤1000000000)
  (hK:∀ v' w',GrowO ET base w' v' (xs ++ news)→(v'.ownBlock=v.ownBlock∨v'.ownBlock=some w.heap.size)→(∃ g',base≤g'∧(v.ownBlock=some g'∨g'=w.heap.size)∧Chg g' (g'+1) w w'∧NoU w g')→K (a.put o.dst v') w') :
  if Region.wanted o (yielded ops a.tmps)=true then Oper.wp Tryz.prog o a w K Q else E:=by
 have hw:Region.wanted o (yielded ops a.tmps)=true:=by simp [Region.wanted,hgd]
 rw [if_pos hw];obtain⟨v',w',hrun,h2,h3,h4⟩:=run_append_oz h0 t o.type ht h hl hnews h1 hn (c:=c);unfold Oper.wp execOp;simp only [ho,resolve,invoke,builtin,Sem.run_bind,Sem.run_pure,Result.andThen_ok,List.map_toArray,List.map_cons,List.map_nil,hs,hx,hrun];exact hK v' w' h2 h3 h4
end
theorem run_append_e {ET:TypeId} {lo:Nat} {w:World} {z0:Value} {bz:Nat} (ho:One ET z0 bz) (t ty:TypeId) (ht:Tryz.prog.underlying t=some (.slice ET)) {g:Nat} (hg:lo≤g) (BE:w.heap[g]?=some (.cells #[] ET (0,0))) {a:Addr} {m c:Nat} {news:List Value} (hl:news.length=m)
  (hnews:∀ j u,news[j]?=some u→w.cell? (a.add j)=some u) (h1:∀ u∈news,u.oneCell'=true) (hn:m≤1000000000) :
  ∃ v' w',(Builtin.append_ #[t,t] ty #[.slice (some ⟨g,0,none⟩) 0 0,.slice (some a) m c]).run Tryz.prog w=.ok v' w'∧GrowO ET lo w' v' news∧Ext w w':=by
 obtain⟨i0,hi0,hz0,hz1,hz2⟩:=info_parts ho.inf;have hle:=ho.le;have hG0:GrowO ET lo w (.slice (some ⟨g,0,none⟩) 0 0) []:=GrowO.empty hg BE
 by_cases hm:m=0
 ·subst hm;have hnil:news=[]:=List.eq_nil_of_length_eq_zero hl;subst hnil;exact⟨_,w,run_append_none ht hi0 _ _ c w,hG0,Ext.refl w⟩
 ·obtain⟨v',w',hrun,hG,-,-⟩:=run_append_oz ho t ty ht hG0 hl hnews h1 (by simpa using hn) (c:=c)
  have h9:=run_append_grow (P:=Tryz.prog) (w:=w) t ty ET i0 _ ht hi0 hz0 ⟨g,0,none⟩ 0 0 [] (by simp) (fun j v hj=>by simp at hj) a m c news (by rw [hz1]; omega) hnews (by omega) (by omega)
   (growslice_fits (by omega) (Nat.le_trans (Nat.mul_le_mul (show 0+m≤1000000000 by omega) (by rw [hz2]; exact ho.le)) (by decide)))
  rw [hrun] at h9;injection h9 with e1 e2
  exact⟨v',w',hrun,by simpa using hG,by rw [e2]; exact ((Ext.refl w).drew).alloc _⟩
theorem step_append_e {ET:TypeId} {lo:Nat} {w:World} {z0:Value} {bz:Nat} (h0:One ET z0 bz) {ops:Array Oper} {o:Oper} {a:Act} {K:Act→World→Prop} {Q:Exit→Act→World→Prop} {E:Prop} (hgd:o.guard=none) (s x:Operand) (t:TypeId) (ht:Tryz.prog.underlying t=some (.slice ET))
  (ho:o.op=.call { callee:=.builtin .append,args:=#[s,x],argTypes:=#[t,t] }) {g:Nat} (hs:a.eval s=.slice (some ⟨g,0,none⟩) 0 0) (hg:lo≤g) (BE:w.heap[g]?=some (.cells #[] ET (0,0))) {ad:Addr} {m c:Nat} {news:List Value} (hx:a.eval x=.slice (some ad) m c) (hl:news.length=m)
  (hnews:∀ j u,news[j]?=some u→w.cell? (ad.add j)=some u) (h1:∀ u∈news,u.oneCell'=true) (hn:m≤1000000000)
  (hK:∀ v' w',GrowO ET lo w' v' news→Ext w w'→K (a.put o.dst v') w') :
  if Region.wanted o (yielded ops a.tmps)=true then Oper.wp Tryz.prog o a w K Q else E:=by
 have hw:Region.wanted o (yielded ops a.tmps)=true:=by simp [Region.wanted,hgd]
 rw [if_pos hw];obtain⟨v',w',hrun,h2,h3⟩:=run_append_e h0 t o.type ht hg BE hl hnews h1 hn (c:=c);unfold Oper.wp execOp;simp only [ho,resolve,invoke,builtin,Sem.run_bind,Sem.run_pure,Result.andThen_ok,List.map_toArray,List.map_cons,List.map_nil,hs,hx,hrun];exact hK v' w' h2 h3
theorem erase_split (l:List Nat) {b:Nat} (hb:b < l.length):l.take b ++ l.drop (b+1)=l.eraseIdx b:=(List.eraseIdx_eq_take_drop_succ l b).symm
set_option maxRecDepth 100000 in
theorem sn_Snoop_bad {N lo hi:Nat} {w:World} {v u:Value} {Z:Lin} {R:Raw} (h:LinV N lo hi w v Z) (hx:RawV N w u R) (hf:few34 7 4 Z=true) (hsx:RawSz R) (hc:code38 Z 1 (fun _=>R)≠0) :
  Calls Tryz.prog 22 #[v,u] w (RetV w (.tuple #[.slice none 0 0,nilLin,.int .i64 (code38 Z 1 (fun _=>R))])):=by
 have hI:=h;have hIx:=hx;have HC:=Lib.hid hc;have HF:=Lib.hid hf;have HSX:=Lib.hid hsx;have hN:N≤w.heap.size:=hx.le;obtain⟨r,hr⟩:=hid_eq (code38 Z 1 (fun _=>R));have hr0:(r == 0)=false:=by rw [hr.out]; simpa using hc
 have hr1:(r != 0)=true:=by simpa using hr0
 rw [←hr.out];obtain⟨A1,c1,A2,c2,A3,c3,rfl,-⟩:=h.parts;obtain⟨Q1,k1,l1,Q2,k2,l2,rfl,gx1,gx2⟩:=hx.parts;clear h hc hf hx hsx;go_enter Tryz.func22,Tryz.ntmps22;go_upto_region 1 with (fail);refine boxes3 ?_;intro W hE hsz B0 B1 B5;obtain⟨a0,a1,a2,-⟩:=cells3 B0;obtain⟨d0,d1,d2,d3,-⟩:=cells4 B1;go_wp2_with (go_at_call 60; refine Hid.out ?_);refine boxesC1 ?_;intro W1 f1 hsz1 BS;replace hE:=hE.trans f1;replace B5:=f1.block B5;refine (sn_solve_bad (hI.ext hE) (one_raw (by have:=hE.size; omega) BS (gx1.ext hE) (gx2.ext hE)) HF.out (fun i _=>HSX.out) HC.out).mono ?_;rintro e w1 ⟨rfl,e1⟩;unfold nilSlv;rw [←hr.out];replace hE:=hE.trans e1;replace B5:=e1.block B5;clear a0 a1 a2 d0 d1 d2 d3 BS f1 e1;go_upto_region 2 with (fail);refine boxes1 ?_;intro w2 e2 hsz2 B9;replace hE:=hE.trans e2;replace B5:=e2.block B5;clear e2 hsz2;obtain⟨u0,u1,u2,u3,u4,u5⟩:=cells3 B5;go_wp2;obtain⟨w10,E10,D10,U10⟩:=ex3 B5 (.slice none 0 0) (.slice none 0 0) (.slice none 0 0);rw [E10];have hE10:=U10.ext hE (by omega);obtain⟨x0,x1,x2,-⟩:=cells3 D10;refine bodyPost_ret (v:=.tuple #[.slice none 0 0,nilLin,.int .i64 r]) ?_ rfl ⟨rfl,hE10⟩;simp [results,x0,x1,x2,go_sem,nilLin]
structure Rsx (N lo hi:Nat) (S:List Nat) (w:World) (v1 v2 v3 vO:Value) (m n:Nat) (X:Nat→Nat→Rat) (y p:Nat→Rat):Prop where
 A:∃ a b,MtX N a b lo hi w v1 m n X∧Fr a b S vO
 L:∃ l h,LsV N l h w v2 m y∧Fr l h S vO
 P:∃ l h,LsV N l h w v3 m p∧Fr l h S vO
 R:Fr lo hi S vO
section
variable {N lo hi:Nat} {S:List Nat} {w w':World} {v1 v2 v3 vO:Value} {m n:Nat} {X:Nat→Nat→Rat} {y p:Nat→Rat}
theorem Rsx.ext (h:Rsx N lo hi S w v1 v2 v3 vO m n X y p) (e:Ext w w'):Rsx N lo hi S w' v1 v2 v3 vO m n X y p:=by
 obtain⟨⟨l1,h1,a1,b1⟩,⟨l2,h2,a2,b2⟩,⟨l3,h3,a3,b3⟩,b4⟩:=h;exact⟨⟨l1,h1,a1.ext e,b1⟩,⟨l2,h2,a2.ext e,b2⟩,⟨l3,h3,a3.ext e,b3⟩,b4⟩
theorem Rsx.chgt (h:Rsx N lo hi S w v1 v2 v3 vO m n X y p) {gt:Nat} (hgt:gt∈S) (c:Chg gt (gt+1) w w') (hN:N≤gt):Rsx N lo hi S w' v1 v2 v3 vO m n X y p:=by
 obtain⟨⟨l1,h1,a1,b1⟩,⟨l2,h2,a2,b2⟩,⟨l3,h3,a3,b3⟩,b4⟩:=h;exact⟨⟨l1,h1,a1.chg c hN (by have:=b1.1 gt hgt; omega) (by have:=b4.1 gt hgt; omega),b1⟩,⟨l2,h2,a2.chg c hN (by have:=b2.1 gt hgt; omega),b2⟩,⟨l3,h3,a3.chg c hN (by have:=b3.1 gt hgt; omega),b3⟩,b4⟩
theorem Rsx.grow (h:Rsx N lo hi S w v1 v2 v3 vO m n X y p) {g':Nat} (c:Chg g' (g'+1) w w') (hN:N≤g') (o:vO.ownBlock=some g'∨g'=w.heap.size) {vO':Value} (o':∀ k,vO'.ownBlock=some k→vO.ownBlock=some k∨k=w.heap.size):Rsx N lo hi S w' v1 v2 v3 vO' m n X y p:=by
 obtain⟨⟨l1,h1,a1,b1⟩,⟨l2,h2,a2,b2⟩,⟨l3,h3,a3,b3⟩,b4⟩:=h;have s1:=a1.2.1;have s2:=a2.2.1;have s3:=a3.2.1;have s4:=a1.2.2.1
 have key:∀ l h,h≤w.heap.size→Fr l h S vO→(g' < l∨h≤g')∧Fr l h S vO':=fun l h hs b=>by
  refine⟨?_,b.1,fun k hk=>?_⟩
  ·rcases o with o | o
   ·exact b.2 g' o
   ·omega
  ·rcases o' k hk with o9 | o9
   ·exact b.2 k o9
   ·omega
 exact⟨⟨l1,h1,a1.chg c hN (by have:=(key l1 h1 s1 b1).1; omega) (by have:=(key lo hi s4 b4).1; omega),(key l1 h1 s1 b1).2⟩,⟨l2,h2,a2.chg c hN (by have:=(key l2 h2 s2 b2).1; omega),(key l2 h2 s2 b2).2⟩,⟨l3,h3,a3.chg c hN (by have:=(key l3 h3 s3 b3).1; omega),(key l3 h3 s3 b3).2⟩,(key lo hi s4 b4).2⟩
theorem Rsx.mt (h:Rsx N lo hi S w v1 v2 v3 vO m n X y p):MtV N 0 w.heap.size w v1 m n X∧LsV N 0 w.heap.size w v2 m y∧LsV N 0 w.heap.size w v3 m p:=by
 obtain⟨⟨l1,h1,a1,b1⟩,⟨l2,h2,a2,b2⟩,⟨l3,h3,a3,b3⟩,-⟩:=h;exact⟨a1.all,LsV.all a2,LsV.all a3⟩
end
theorem info_lin:(Tryz.prog.info? 26).map (·.size)=some 3:=by kernel_rfl
def RetSq (N:Nat) (w:World) (n:Nat) (R:SnR) (e:Ending) (w':World):Prop :=
 ∃ vO A1 c1 A2 c2 A3 c3,e=.returned (.tuple #[vO,.agg #[.slice A1 R.m c1,.slice A2 R.m c2,.slice A3 R.m c3]])∧GrowO 3 w.heap.size w' vO (nats R.out) ∧
  MtV N 0 w'.heap.size w' (.slice A1 R.m c1) R.m n R.X∧LsV N 0 w'.heap.size w' (.slice A2 R.m c2) R.m R.y∧LsV N 0 w'.heap.size w' (.slice A3 R.m c3) R.m R.p∧Ext w w'
def Mn.emb (lo:Nat):Mn:=⟨fun v w=>∃ g,v=.slice (some ⟨g,0,none⟩) 0 0∧lo≤g∧w.heap[g]?=some (.cells #[] 3 (0,0)),fun e h=>by
  obtain⟨g,h0,h1,h2⟩:=h
  exact⟨g,h0,h1,e.block h2⟩⟩
theorem left_take {w:World} {gl:Nat} {lf:List Nat} (hat:∀ j (hj:j < (nats lf).length),w.cell? ⟨gl,j,none⟩=some (nats lf)[j]) (b:Nat):∀ j u,(nats (lf.take b))[j]?=some u→w.cell? ((⟨gl,0,none⟩:Addr).add j)=some u:=by
 intro j u hu;rw [add_none,Nat.zero_add];have h1:nats (lf.take b)=(nats lf).take b:=by simp [nats,List.map_take]
 rw [h1,List.getElem?_take] at hu
 split at hu
 ·obtain⟨hj,h2⟩:=List.getElem?_eq_some_iff.1 hu;rw [hat j hj,h2]
 ·cases hu
theorem left_drop {w:World} {gl:Nat} {lf:List Nat} (hat:∀ j (hj:j < (nats lf).length),w.cell? ⟨gl,j,none⟩=some (nats lf)[j]) (d:Nat):∀ j u,(nats (lf.drop d))[j]?=some u→w.cell? ((⟨gl,d,none⟩:Addr).add j)=some u:=by
 intro j u hu;rw [add_none];have h1:nats (lf.drop d)=(nats lf).drop d:=by simp [nats,List.map_drop]
 rw [h1,List.getElem?_drop] at hu;obtain⟨hj,h2⟩:=List.getElem?_eq_some_iff.1 hu;rw [hat (d+j) hj,h2]
theorem nats_one' (l:List Nat):∀ u∈nats l,u.oneCell'=true:=by
 intro u hu;obtain⟨z,-,rfl⟩:=List.mem_map.1 hu
 rfl
theorem nats_join (l:List Nat) {b:Nat} (hb:b < l.length):nats (l.take b) ++ nats (l.drop (b+1))=nats (l.eraseIdx b):=by
 rw [←erase_split l hb];simp [nats]
def Mn.gro (lo:Nat) (l:List Nat):Mn:=⟨fun v w=>GrowO 3 lo w v (nats l),fun e h=>h.ext e⟩
theorem cmp_le5 (x y:Rat):decide ((x - y).num.sign≤0)=decide (x≤y):=by
 have h:=cmp_sub x y
 by_cases h1:x≤y
 ·rw [decide_eq_true h1];rw [decide_eq_false (Rat.not_lt.2 h1)] at h;have:=of_decide_eq_false h;exact decide_eq_true (by omega)
 ·rw [decide_eq_false h1];rw [decide_eq_true (Rat.not_le.1 h1)] at h;have:=of_decide_eq_true h;exact decide_eq_false (by omega)
set_option maxRecDepth 100000 in
theorem l38_snooped {N lo hi lo2 hi2 lo3 hi3:Nat} {w:World} {v1 v2 v3 u:Value} {m n:Nat} {X:Nat→Nat→Rat} {y p:Nat→Rat} {cr:Rat} (h1:MtV N lo hi w v1 m n X) (h2:LsV N lo2 hi2 w v2 m y) (h3:LsV N lo3 hi3 w v3 m p) (hx:RatV N w u cr) (d:Md m n X y p) (hr:Reg n (nmat X p m)) (hzd:Ht 400 cr) :
  Calls Tryz.prog 24 #[.agg #[v1,v2,v3],u] w (RetSq N w n (snF n cr m X y p (List.range m) [])):=by
 obtain⟨RR,hRR⟩:=hid_eq (snF n cr m X y p (List.range m) []);obtain⟨Rf,hRf⟩:=hid_eq (RetSq N w n RR);rw [←hRR.out,←hRf.out];have HCR:=Lib.hid hzd;have hIx:=hx;have hhi:=h1.2.1;have hhi2:hi2≤w.heap.size:=h2.2.1;have hhi3:hi3≤w.heap.size:=h3.2.1;obtain⟨b9,Q1,kq1,l1,Q2,kq2,l2,rfl,-⟩:=RatV.parts hx;have HD:=Lib.hid d;have HG:=Lib.hid hr;have hN:=h1.le;have hm0:=d.m0;have hm7:=d.m7;have hn0:=d.n0;have hn4:=d.n4;have hI1:=h1;have hI2:=h2;have hI3:=h3;obtain⟨A1,c1,rfl,hmc,hcm⟩:=h1.form;obtain⟨A2,c2,rfl,hmc2,hcm2⟩:=h2.form;obtain⟨A3,c3,rfl,hmc3,hcm3⟩:=h3.form;unfold maxLen at hcm hcm2 hcm3;clear h1 h2 h3 d hr;clear hx hzd;go_enter Tryz.func24,Tryz.ntmps24;go_upto_region 2 with (fail);refine boxes3 ?_;intro W hE hsz B0 B1 B5;obtain⟨a0,a1,a2,-⟩:=cells3 B0;obtain⟨bs,hbs⟩:∃ bs,bs=W.heap.size:=⟨_,rfl⟩
 have hb1:w.heap.size+1+1 < bs:=by omega
 have hb2:bs≤W.heap.size:=by omega
 have hb4:W.heap.size≤bs:=by omega
 clear hsz hbs;go_wp2;clear a0 a1 a2
 go_loopw [7,14] (fun vL i wr=>∃ a:Nat,a≤m∧i=.int .i64 a∧Ext W wr∧∃ A c,vL=.slice A a c∧GrowO 3 bs wr (.slice A a c) (nats (List.range a))) (fun _ i _=>m - (intOf i).toNat)
 case atStart=>exact⟨0,Nat.zero_le _,rfl,Ext.refl _,_,_,rfl,GrowO.nil hb2⟩
 case round =>
  obtain⟨a,ha,rfl,eR,AL,cL,rfl,hL⟩:=hrel
  by_cases hlt:a < m
  ·go_wp2_with (at_builtin; refine Hid.out ?_);refine boxes1 ?_;intro w2 e2 hsz2 BZ;refine wpList_append_o one_int rfl _ _ 47 Tryz.underlying47 rfl (by rfl) (hL.ext e2) (m:=1) (c:=1) (news:=[.int .i64 (a:Int)]) (by rfl) (by rfl) (one_new BZ) (fun u hu=>by rw [List.mem_singleton.1 hu]; rfl) (by omega) (by rw [nats_len,List.length_range]; omega) ?_;rintro g2 cap2 w3 hL3 - ⟨g3,hb3,-,cc,-⟩;rw [nats_len,List.length_range] at hL3 ⊢;have hL4:GrowO 3 bs w3 (.slice (some ⟨g2,0,none⟩) (a+1) cap2) (nats (List.range (a+1))):=by rw [List.range_succ,nats_app]; exact hL3
   have eR3:=cc.ext (eR.trans e2) (by omega);clear hL hL3 cc e2 BZ eR;go_wp2;go_roundw
   case rel=>exact⟨a+1,by omega,by go_num,eR3,_,_,rfl,hL4⟩
   case measure=>simp [intOf]; omega
  ·obtain rfl:m=a:=by omega
   replace B0:=eR.block B0;replace B1:=eR.block B1;replace B5:=eR.block B5;replace hE:=hE.trans eR;have hlr:=Nat.le_trans hb2 eR.size
   have hS0:Fr lo hi [w.heap.size,w.heap.size+1+1] (.slice none 0 0):=⟨fun g hg=>by
    simp only [List.mem_cons,List.not_mem_nil,or_false] at hg
    rcases hg with rfl | rfl <;> omega,fun k hk=>by simp [Value.ownBlock] at hk⟩
   have hS2:Fr lo2 hi2 [w.heap.size,w.heap.size+1+1] (.slice none 0 0):=⟨fun g hg=>by
    simp only [List.mem_cons,List.not_mem_nil,or_false] at hg
    rcases hg with rfl | rfl <;> omega,fun k hk=>by simp [Value.ownBlock] at hk⟩
   have hS3:Fr lo3 hi3 [w.heap.size,w.heap.size+1+1] (.slice none 0 0):=⟨fun g hg=>by
    simp only [List.mem_cons,List.not_mem_nil,or_false] at hg
    rcases hg with rfl | rfl <;> omega,fun k hk=>by simp [Value.ownBlock] at hk⟩
   have hR0:Rsx N lo hi [w.heap.size,w.heap.size+1+1] wr (.slice A1 m c1) (.slice A2 m c2) (.slice A3 m c3) (.slice none 0 0) m n X y p:=⟨⟨lo,hi,MtX.of (hI1.ext hE),hS0⟩,⟨lo2,hi2,hI2.ext hE,hS2⟩,⟨lo3,hi3,hI3.ext hE,hS3⟩,hS0⟩
   have HRR:Hid (snF n cr m X y p (List.range m) []=RR):=by rw [Hid,hRR.out]
   have hO0:GrowO 3 bs wr (.slice none 0 0) (nats []):=GrowO.nil hlr;clear eR hS0 hS2 hS3 hb2 hb4;go_wp2
   go_loopw [6,7] (fun vO vL wr=>∃ (mm:Nat) (XX:Nat→Nat→Rat) (yy pp:Nat→Rat) (lf ot:List Nat) (E1:Option Addr) (e1:Nat) (E2:Option Addr) (e2:Nat) (E3:Option Addr) (e3:Nat) (AL:Option Addr) (cL:Nat),vL=.slice AL mm cL∧lf.length=mm∧GrowO 3 bs wr (.slice AL mm cL) (nats lf)∧GrowO 3 bs wr vO (nats ot)∧ot.length+mm≤7 ∧
    (∀ k,vO.ownBlock=some k→(Value.slice AL mm cL).ownBlock≠some k)∧Rsx N lo hi [w.heap.size,w.heap.size+1+1] wr (.slice E1 mm e1) (.slice E2 mm e2) (.slice E3 mm e3) vO mm n XX yy pp∧wr.heap[w.heap.size]?=some (.cells #[.slice E1 mm e1,.slice E2 mm e2,.slice E3 mm e3] 26 (0,0)) ∧
    wr.heap[w.heap.size+1]?=some (.cells #[.bool b9,.slice Q1 kq1 l1,.bool false,.slice Q2 kq2 l2] 36 (0,0))∧wr.heap[w.heap.size+1+1]?=some (.cells #[.slice none 0 0,.slice none 0 0,.slice none 0 0] 26 (0,0))∧Ext w wr∧bs≤wr.heap.size ∧
    Hid (Md mm n XX yy pp)∧Hid (Reg n (nmat XX pp mm))∧Hid (snF n cr mm XX yy pp lf ot=RR)) (fun _ vL _=>lenOf vL)
   case atStart=>exact⟨m,X,y,p,List.range m,[],_,_,_,_,_,_,_,_,rfl,by simp,hL,hO0,by simp; omega,fun k hk=>by simp [Value.ownBlock] at hk,hR0,B0,B1,B5,hE,hlr,HD,HG,HRR⟩
   case round =>
    clear hL hO0 hR0 B0 B1 B5 hE hlr HRR;obtain⟨mm,XX,yy,pp,lf,ot,E1,f1,E2,f2,E3,f3,AL,cL,rfl,hlf,hL,hO,hot,hdj,hRs,B0,B1,B5,hE,hlr,HD2,HG2,HR2⟩:=hrel;have hmm0:=HD2.out.m0;have hmm7:=HD2.out.m7;obtain⟨AO,cO,rfl,hOc⟩:=hO.form;rw [nats_len] at hO hRs hOc hdj ⊢
    by_cases h1:1 < mm
    ·obtain⟨x0,x1,x2,-⟩:=cells3 B0;have hMT:=hRs.mt;have HZT:Hid (∀ i,i < mm→Ht 280000000 (zS mm n XX yy pp i)):=zS_ht HD2.out;go_wp2_with (go_at_call 74; refine Hid.out ?_);refine (l38_worst hMT.1 hMT.2.1 hMT.2.2 HD2.out HG2.out).mono ?_;obtain⟨ws,hws⟩:=hid_eq (wS mm n XX yy pp);unfold RetWrs;rw [←hws.out];rintro e w5 ⟨v9,rfl,h9,e5⟩;obtain⟨nb,A9,n9,c9,A8,n8,c8,rfl,hnb,g9,g8⟩:=RatV.parts h9;have hwb : -1≤ws∧ws < (mm:Int):=by rw [hws.out]; exact wF_bd _ _ mm
     replace hL:=hL.ext e5;replace hO:=hO.ext e5;replace hRs:=hRs.ext e5;replace B0:=e5.block B0;replace B1:=e5.block B1;replace B5:=e5.block B5;replace hE:=hE.trans e5;replace hlr:=Nat.le_trans hlr e5.size;clear x0 x1 x2 hMT e5 g9 g8;go_upto_region 9 with (fail);refine boxes1 ?_;intro w6 e6 hsz6 B10;replace hL:=hL.ext e6;replace hO:=hO.ext e6;replace hRs:=hRs.ext e6;replace B0:=e6.block B0;replace B1:=e6.block B1;replace B5:=e6.block B5;replace hE:=hE.trans e6;replace hlr:=Nat.le_trans hlr e6.size;replace h9:=h9.ext e6;obtain⟨g10,hg10⟩:∃ g10,g10=w5.heap.size:=⟨_,rfl⟩
     rw [←hg10] at B10 ⊢;clear e6 hsz6 hg10
     by_cases hneg:ws < 0
     ·have t1:decide (ws < 0)=true:=decide_eq_true hneg;have HRE:Hid (RR=⟨ot,mm,XX,yy,pp⟩):=by rw [Hid,←HR2.out]; exact snF_stop hmm0 (.inr (.inl (by rw [←hws.out]; exact hneg)))
      clear HR2 B10 h9;have B5w:=B5;have hEw:=hE;obtain⟨x0,x1,x2,-⟩:=cells3 B0;go_upto_region 13 with (fail);refine regI [Mn.eq (.slice AO ot.length cO),Mn.eq (.agg #[.slice E1 mm f1,.slice E2 mm f2,.slice E3 mm f3]),Mn.eq (.slice AO ot.length cO),Mn.any] [some 59,some 60,some 4,none] [3] [true,true,true,false] 1 (by kernel_rfl) ?_ ?_
      ·show ∀ i,i < 4→_
       iterate 4 refine fs ?_ ?_
       ·exact fz
       all_goals intro hl
       all_goals first | exact absurd hl (by decide) | skip
       all_goals clear hl
       all_goals refine stp rfl ?_
       all_goals intro ac wi eI hB hA K hK
       have o6:=oOf (hB 6 (by kernel_rfl)) rfl
       rotate_left
       have o2:=oOf (hB 2 (by kernel_rfl)) rfl;have cc0:=eI.cell x0;have cc1:=eI.cell x1;have cc2:=eI.cell x2
       rotate_left
       obtain⟨_,s59,rfl⟩:=hA 0 (by kernel_rfl) 59 rfl
       rotate_left
       all_goals clear hB hA
       all_goals go_simp
       all_goals exact hK.out _ _ (Ext.refl _) rfl
      intro vals wz eZ hJ;have J60:vals 1=_:=hJ 1 (by decide) (by decide);have J4:vals 2=_:=hJ 2 (by decide) (by decide);clear hJ;simp only [pr,Nat.reduceAdd,J60,J4];clear J60 J4;replace B5w:=eZ.block B5w;replace hEw:=hEw.trans eZ;obtain⟨u0,u1,u2,u3,u4,u5⟩:=cells3 B5w;refine stepL_late (i:=3) rfl (by kernel_rfl) (by kernel_rfl) (fun K hK=>?_);go_simp;refine hK.out _ _ ?_;clear hK K;try simp only [nr]
      refine stepL_done (by kernel_rfl) ?_ _;obtain⟨w20,E20,D20,U20⟩:=ex3 B5w (.slice E1 mm f1) (.slice E2 mm f2) (.slice E3 mm f3);rw [E20];have C20:=U20.chg (NoU.mk B5w (by decide));have hR20:=((hRs.ext eZ).chgt (gt:=w.heap.size+1+1) (by simp) C20 (by omega)).mt;have hO20:=(hO.ext eZ).far C20 (fun j hj=>by have:=(hO.own_lt j hj).1; omega);have hE20:=C20.ext hEw (by omega);obtain⟨z0,z1,z2,-⟩:=cells3 D20;clear u0 u1 u2 u3 u4 u5 E20;go_wp2;refine bodyPost_ret (v:=.tuple #[.slice AO ot.length cO,.agg #[.slice E1 mm f1,.slice E2 mm f2,.slice E3 mm f3]]) ?_ rfl ?_
      ·simp [results,z0,z1,z2,go_sem]
      ·rw [hRf.out,HRE.out];exact⟨_,_,_,_,_,_,_,rfl,hO20.low (by omega),hR20.1,hR20.2.1,hR20.2.2,hE20⟩
     ·have t1:decide (ws < 0)=false:=decide_eq_false hneg;obtain⟨b,hb⟩:∃ b:Nat,ws=(b:Int):=⟨ws.toNat,by omega⟩
      subst hb;rw [bQ_nat] at h9;have hbm:b < mm:=by omega
      obtain⟨r0,r1,r2,r3,-⟩:=cells4 B10;obtain⟨d0,d1,d2,d3,-⟩:=cells4 B1;have HZ1:=Lib.hid ((HZT.out b hbm).sz (by omega));have HZ2:=Lib.hid (HCR.out.sz (by omega));have HZ3:=Lib.hid (((HZT.out b hbm).sub HCR.out).sz (by omega));go_wp2_with (go_at_call 28; refine Hid.out ?_);refine (r2_compare h9 (hIx.ext hE) HZ1.out HZ2.out HZ3.out).mono ?_;obtain⟨sg,hsg⟩:=hid_eq (zS mm n XX yy pp b - cr).num.sign;rw [←hsg.out];rintro e w7 ⟨rfl,e7⟩;replace hL:=hL.ext e7;replace hO:=hO.ext e7;replace hRs:=hRs.ext e7;replace B0:=e7.block B0;replace B1:=e7.block B1;replace B5:=e7.block B5;replace hE:=hE.trans e7;replace hlr:=Nat.le_trans hlr e7.size;clear e7 r0 r1 r2 r3 d0 d1 d2 d3 B10 h9 hneg
      by_cases hc:zS mm n XX yy pp b≤cr
      ·have t2:decide (sg≤0)=true:=by rw [hsg.out,cmp_le5]; exact decide_eq_true hc
       have t3:sg≤0:=of_decide_eq_true t2;have HRE:Hid (RR=⟨ot,mm,XX,yy,pp⟩):=by rw [Hid,←HR2.out]; exact snF_stop hmm0 (.inr (.inr (by rw [←hws.out]; exact hc)))
       clear HR2 hc;have B5w:=B5;have hEw:=hE;obtain⟨x0,x1,x2,-⟩:=cells3 B0;go_upto_region 13 with (fail);refine regI [Mn.eq (.slice AO ot.length cO),Mn.eq (.agg #[.slice E1 mm f1,.slice E2 mm f2,.slice E3 mm f3]),Mn.eq (.slice AO ot.length cO),Mn.any] [some 59,some 60,some 4,none] [3] [true,true,true,false] 1 (by kernel_rfl) ?_ ?_
       ·show ∀ i,i < 4→_
        iterate 4 refine fs ?_ ?_
        ·exact fz
        all_goals intro hl
        all_goals first | exact absurd hl (by decide) | skip
        all_goals clear hl
        all_goals refine stp rfl ?_
        all_goals intro ac wi eI hB hA K hK
        have o6:=oOf (hB 6 (by kernel_rfl)) rfl
        rotate_left
        have o2:=oOf (hB 2 (by kernel_rfl)) rfl;have cc0:=eI.cell x0;have cc1:=eI.cell x1;have cc2:=eI.cell x2
        rotate_left
        obtain⟨_,s59,rfl⟩:=hA 0 (by kernel_rfl) 59 rfl
        rotate_left
        all_goals clear hB hA
        all_goals go_simp
        all_goals exact hK.out _ _ (Ext.refl _) rfl
       intro vals wz eZ hJ;have J60:vals 1=_:=hJ 1 (by decide) (by decide);have J4:vals 2=_:=hJ 2 (by decide) (by decide);clear hJ;simp only [pr,Nat.reduceAdd,J60,J4];clear J60 J4;replace B5w:=eZ.block B5w;replace hEw:=hEw.trans eZ;obtain⟨u0,u1,u2,u3,u4,u5⟩:=cells3 B5w;refine stepL_late (i:=3) rfl (by kernel_rfl) (by kernel_rfl) (fun K hK=>?_);go_simp;refine hK.out _ _ ?_;clear hK K;try simp only [nr]
       refine stepL_done (by kernel_rfl) ?_ _;obtain⟨w20,E20,D20,U20⟩:=ex3 B5w (.slice E1 mm f1) (.slice E2 mm f2) (.slice E3 mm f3);rw [E20];have C20:=U20.chg (NoU.mk B5w (by decide));have hR20:=((hRs.ext eZ).chgt (gt:=w.heap.size+1+1) (by simp) C20 (by omega)).mt;have hO20:=(hO.ext eZ).far C20 (fun j hj=>by have:=(hO.own_lt j hj).1; omega);have hE20:=C20.ext hEw (by omega);obtain⟨z0,z1,z2,-⟩:=cells3 D20;clear u0 u1 u2 u3 u4 u5 E20;go_wp2;refine bodyPost_ret (v:=.tuple #[.slice AO ot.length cO,.agg #[.slice E1 mm f1,.slice E2 mm f2,.slice E3 mm f3]]) ?_ rfl ?_
       ·simp [results,z0,z1,z2,go_sem]
       ·rw [hRf.out,HRE.out];exact⟨_,_,_,_,_,_,_,rfl,hO20.low (by omega),hR20.1,hR20.2.1,hR20.2.2,hE20⟩
      ·have t2:decide (sg≤0)=false:=by rw [hsg.out,cmp_le5]; exact decide_eq_false hc
       have t3:¬ sg≤0:=of_decide_eq_false t2
       have HR3:Hid (snF n cr (mm - 1) (fun j=>XX (skip b j)) (fun j=>yy (skip b j)) (fun j=>pp (skip b j)) (lf.eraseIdx b) (ot ++ [lf[b]?.getD 0])=RR):=by
        rw [Hid,←HR2.out]; exact (snF_go h1 hws.out.symm (Rat.not_le.1 hc)).symm
       obtain⟨-,hd3,hr3⟩:=snF_reg HD2.out HG2.out hws.out.symm hbm;have HD3:=Lib.hid hd3;have HG3:=Lib.hid hr3;clear HR2 hc hd3 hr3 hws;obtain⟨gl,capl,hv',hbl,hgl,hcl1,hcl2,⟨csl,hbk,hcs⟩,hat⟩:=hL.at_ (by rw [nats_len]; omega);injection hv' with q1 q2 q3
       subst q1 q3;rw [nats_len] at hcl2;have hz:=hat b (by rw [nats_len]; omega);rw [nats_get] at hz;obtain⟨zz,hzz⟩:=hid_eq (lf[b]?.getD 0);rw [←hzz.out] at hz HR3;clear q2 csl hbk hcs hat;go_wp2_with (at_builtin; refine Hid.out ?_);refine boxes1 ?_;intro w10 e10 hsz10 BZ;refine wpList_append_o one_int rfl _ _ 47 Tryz.underlying47 rfl (by rfl) (hO.ext e10) (m:=1) (c:=1) (news:=[.int .i64 (zz:Int)]) (by rfl) (by rfl) (one_new BZ) (fun u hu=>by rw [List.mem_singleton.1 hu]; rfl) (by omega) (by rw [nats_len]; omega) ?_;rintro g2' cap2' w11 hO11 p11 ⟨g11,hb11,o11,c11,-⟩;rw [nats_len] at hO11 ⊢
       have hgl11:gl≠g11:=by
        rcases o11 with o | o
        ·exact fun e9=>hdj g11 o (by simp [Value.ownBlock,e9])
        ·omega
       have hgl2:gl≠g2':=by
        rcases p11 with o | o
        ·exact fun e9=>hdj g2' o (by simp [Value.ownBlock,e9])
        ·omega
       have hR11:=(hRs.ext e10).grow c11 (by omega) o11 (vO':=.slice (some ⟨g2',0,none⟩) (ot.length+1) cap2') (fun k hk=>by
        obtain rfl:g2'=k:=by simpa [Value.ownBlock] using hk
        exact p11)
       have hL11:=(hL.ext e10).far c11 (fun j hj=>by
        obtain rfl:gl=j:=by simpa [Value.ownBlock] using hj
        omega)
       have hg11:w.heap.size+1+1 < g11:=by omega
       have B01:=c11.blk (e10.block B0) (by omega);have B11:=c11.blk (e10.block B1) (by omega);have B51:=c11.blk (e10.block B5) (by omega);have hE11:=c11.ext (hE.trans e10) (by omega);have hl11:bs≤w11.heap.size:=by have:=c11.size; omega
       have hO12:GrowO 3 bs w11 (.slice (some ⟨g2',0,none⟩) (ot.length+1) cap2') (nats (ot ++ [zz])):=by rw [nats_app]; exact hO11
       clear hRs hL hO hO11 B0 B1 B5 hE e10 c11 BZ hz o11 p11 hlr hdj;have hw1:IntKind.i64.wrap ((b:Int)+1)=(b:Int)+1:=IntWalk.i64_in _ (by omega);unfold maxLen at hcl1;have ha1:(0:Int)≤(b:Int)+1:=by omega
       have ha2:¬ ((mm:Int) < (b:Int)+1):=by omega
       have ha3:¬ ((cL:Int) < (b:Int)):=by omega
       have hgl5:gl < w11.heap.size:=(hL11.own_lt gl (by simp [Value.ownBlock])).2
       have HAT:Hid (∀ j (hj:j < (nats lf).length),w11.cell? ⟨gl,j,none⟩=some (nats lf)[j]):=by
        obtain⟨g9,cap9,hv9,-,-,-,-,-,hat⟩:=hL11.at_ (by rw [nats_len]; omega);injection hv9 with q1
        injection q1 with q1
        injection q1 with q1
        subst q1;exact hat
       obtain⟨AD,hAD,hsrc⟩:∃ AD:Addr,(if cL=b+1 then some (⟨gl,0,none⟩:Addr) else some ⟨gl,b+1,none⟩)=some AD∧Hid (∀ w':World,(∀ j (hj:j < (nats lf).length),w'.cell? ⟨gl,j,none⟩=some (nats lf)[j])→∀ j u,(nats (lf.drop (b+1)))[j]?=some u→w'.cell? (AD.add j)=some u):=by
        by_cases hq:cL=b+1
        ·refine⟨⟨gl,0,none⟩,if_pos hq,fun w' _ j u hu=>?_⟩;rw [List.drop_eq_nil_of_le (by omega)] at hu;simp [nats] at hu
        ·exact⟨⟨gl,b+1,none⟩,if_neg hq,fun w' h9=>left_drop h9 (b+1)⟩
       have hlfb:b < lf.length:=by omega
       have HLD:Hid ((nats (lf.drop (b+1))).length=mm - (b+1)):=by rw [Hid,nats_len,List.length_drop,hlf]
       have HLT:Hid ((nats (lf.take b)).length=b):=by rw [Hid,nats_len,List.length_take]; omega
       clear hL11;go_upto_region 11 with (fail);refine regI [Mn.emb w11.heap.size,Mn.eq (.slice (some ⟨gl,0,none⟩) mm cL),Mn.eq (.int .i64 (b:Int)),Mn.eq (.slice (some ⟨gl,0,none⟩) b cL),Mn.gro w11.heap.size (lf.take b),Mn.eq (.slice (some ⟨gl,0,none⟩) mm cL),Mn.eq (.int .i64 (b:Int)),Mn.eq (.int .i64 ((b:Int)+1)),Mn.eq (.slice (some AD) (mm - (b+1)) (cL - (b+1))),Mn.any,Mn.any] [some 46,some 47,some 48,some 49,some 50,some 51,some 52,some 53,some 54,some 55,some 7] [9,10] [true,true,true,true,true,true,true,true,true,false,false] 2 (by kernel_rfl) ?_ ?_
       ·show ∀ i,i < 11→_
        iterate 11 refine fs ?_ ?_
        ·exact fz
        all_goals intro hl
        all_goals first | exact absurd hl (by decide) | skip
        all_goals clear hl
        all_goals refine stp rfl ?_
        all_goals intro ac wi eI hB hA K hK
        clear hB hA
        ·go_simp;refine boxes1 ?_;intro wj ej hszj BJ;exact hK.out _ _ ej ⟨_,rfl,eI.size,BJ⟩
        have o7:=oOf (hB 7 (by kernel_rfl)) rfl
        rotate_left
        have o9:=oOf (hB 9 (by kernel_rfl)) rfl
        rotate_left
        obtain⟨_,s47,rfl⟩:=hA 1 (by kernel_rfl) 47 rfl;obtain⟨_,s48,rfl⟩:=hA 2 (by kernel_rfl) 48 rfl;clear hB hA
        ·go_simp;rw [if_pos (by omega)];exact hK.out _ _ (Ext.refl _) rfl
        obtain⟨x46,s46,j46⟩:=hA 0 (by kernel_rfl) 46 rfl;replace j46:Mn.p (Mn.emb w11.heap.size) x46 wi:=j46;obtain⟨_,s49,rfl⟩:=hA 3 (by kernel_rfl) 49 rfl;clear hB hA
        ·obtain⟨g46,rfl,hg46,BE⟩:=j46;refine step_append_e one_int rfl _ _ 47 Tryz.underlying47 rfl (g:=g46) (by first | simp [Act.eval,s46] | go_simp) hg46 BE (ad:=⟨gl,0,none⟩) (m:=b) (c:=cL) (by first | simp [Act.eval,s49] | go_simp) HLT.out (left_take (fun j hj=>eI.cell (HAT.out j hj)) b) (nats_one' _) (by omega) ?_;intro vj wj hj ej;exact hK.out _ _ ej hj
        have o7:=oOf (hB 7 (by kernel_rfl)) rfl
        rotate_left
        have o9:=oOf (hB 9 (by kernel_rfl)) rfl
        rotate_left
        obtain⟨_,s52,rfl⟩:=hA 6 (by kernel_rfl) 52 rfl
        rotate_left
        obtain⟨_,s51,rfl⟩:=hA 5 (by kernel_rfl) 51 rfl;obtain⟨_,s53,rfl⟩:=hA 7 (by kernel_rfl) 53 rfl;clear hB hA
        ·go_simp;rw [if_pos (by omega)];exact hK.out _ _ (Ext.refl _) rfl
        all_goals clear hB hA
        all_goals go_simp
        all_goals exact hK.out _ _ (Ext.refl _) rfl
       intro vals wz eZ hJ;have J50:Mn.p (Mn.gro w11.heap.size (lf.take b)) (vals 4) wz:=hJ 4 (by decide) (by decide);have J54:vals 8=_:=hJ 8 (by decide) (by decide);clear hJ;simp only [pr,Nat.reduceAdd,J54];clear J54
       generalize vals 4=z50 at J50 ⊢
       have hlz:=eZ.size;have hJ50:GrowO 3 w11.heap.size wz z50 (nats (lf.take b)):=J50;have HAZ:Hid (∀ j (hj:j < (nats lf).length),wz.cell? ⟨gl,j,none⟩=some (nats lf)[j]):=fun j hj=>eZ.cell (HAT.out j hj)
       refine stepL_late (i:=9) rfl (by kernel_rfl) (by kernel_rfl) (fun K hK=>?_);refine step_append_oz one_int rfl _ _ 47 Tryz.underlying47 rfl (by rfl) hJ50 (ad:=AD) (m:=mm - (b+1)) (c:=cL - (b+1)) (by rfl) HLD.out (hsrc.out wz HAZ.out) (nats_one' _) (by rw [HLT.out]; omega) ?_;rintro v55 w13 hL13 o13 ⟨g13,hb13,p13,c13,-⟩;refine hK.out _ _ ?_;clear hK K;try simp only [nr]
       refine stepL_late (i:=10) rfl (by kernel_rfl) (by kernel_rfl) (fun K hK=>?_);go_simp;refine hK.out _ _ ?_;clear hK K;try simp only [nr]
       refine stepL_done (by kernel_rfl) ?_ _;rw [nats_join lf hlfb] at hL13;have e13:=c13.ext eZ hb13;have hln:(nats (lf.eraseIdx b)).length=mm - 1:=by rw [nats_len,List.length_eraseIdx_of_lt hlfb,hlf]
       obtain⟨AN,cN,rfl,hNc⟩:=hL13.form;rw [hln] at hL13 hNc ⊢;have hLn:=hL13.own_lt;have hL14:=hL13.low hl11;have hR13:=hR11.ext e13;have hO13:=hO12.ext e13;have B03:=e13.block B01;have B13:=e13.block B11;have B53:=e13.block B51;have hE13:=hE11.trans e13;have hl13:=Nat.le_trans hl11 e13.size;have hO11k:=hO12.own_lt;have hs13:=e13.size;clear hR11 hO12 B01 B11 B51 hE11 eZ c13 hL13 hJ50 HAZ HAT J50 hsrc hAD o13 p13 HLD HLT;obtain⟨y0,y1,y2,-⟩:=cells3 B03;obtain⟨⟨la,ha,hA,fA⟩,⟨ll,hl,hLs,fL⟩,⟨lp,hp,hP,fP⟩,fR⟩:=hR13;go_wp2_with (go_at_call 16; refine Hid.out ?_);refine (l34_withoutX hA hLs hP h1 (by omega) hn0 (by omega) (i:=b) rfl hbm).mono ?_;rintro e w14 ⟨M1,d1,M2,d2,M3,d3,rfl,hA14,hl14,hP14,e14⟩;clear y0 y1 y2 hA hLs hP fA fL fP
       rename_i K9 hK9
       refine hK9 _ _ ?_;clear hK9 K9;try simp only [nr]
       have B04:=e14.block B03;refine wpList_store_blk rfl 26 _ _ rfl (by rfl) (by rfl) B04 info_lin (by rfl) (by rfl) (by rfl) ?_;try simp only [nr]
       intro w15 B05 U15;have C15:=U15.chg (NoU.mk B04 (by decide));have hs14:=e14.size;have hs15:=C15.size;have hg2:=(hO11k g2' (by simp [Value.ownBlock])).2
       have hFr:Fr w13.heap.size w14.heap.size [w.heap.size,w.heap.size+1+1] (.slice (some ⟨g2',0,none⟩) (ot.length+1) cap2'):=⟨fun g hg=>by
        simp only [List.mem_cons,List.not_mem_nil,or_false] at hg
        rcases hg with rfl | rfl <;> omega,fun k hk=>by
        obtain rfl:g2'=k:=by simpa [Value.ownBlock] using hk
        omega⟩
       have hR15:Rsx N lo hi [w.heap.size,w.heap.size+1+1] w15 (.slice M1 (mm - 1) d1) (.slice M2 (mm - 1) d2) (.slice M3 (mm - 1) d3) (.slice (some ⟨g2',0,none⟩) (ot.length+1) cap2') (mm - 1) n (fun j=>XX (skip b j)) (fun j=>yy (skip b j)) (fun j=>pp (skip b j)) :=
        ⟨⟨_,_,hA14.chg C15 hN (.inr (by omega)) (.inl hhi),hFr⟩,⟨_,_,hl14.chg C15 hN (.inr (by omega)),hFr⟩,⟨_,_,hP14.chg C15 hN (.inr (by omega)),hFr⟩,fR⟩
       have hL15:=(hL14.ext e14).far C15 (fun j hj=>by have:=(hLn j hj).1; omega);have hO15:=(hO13.ext e14).far C15 (fun j hj=>by have:=(hO11k j hj).1; omega);have B15:=C15.blk (e14.block B13) (by omega);have B55:=C15.blk (e14.block B53) (by omega);have hE15:=C15.ext (hE13.trans e14) (by omega);have hl15:bs≤w15.heap.size:=by omega
       have hdj15:∀ k,(Value.slice (some ⟨g2',0,none⟩) (ot.length+1) cap2').ownBlock=some k→(Value.slice AN (mm - 1) cN).ownBlock≠some k:=fun k hk hk2=>by
        have:=(hO11k k hk).2;have:=(hLn k hk2).1;omega
       have hlf15:(lf.eraseIdx b).length=mm - 1:=by rw [List.length_eraseIdx_of_lt hlfb,hlf]
       have hot15:(ot ++ [zz]).length+(mm - 1)≤7:=by rw [List.length_append]; simp; omega
       clear hA14 hl14 hP14 hL14 hO13 B13 B53 hE13 e14 C15 U15 B04 B03 hFr fR hLn;refine wpList_nil ?_;go_wp2;go_roundw
       case rel=>exact⟨mm - 1,_,_,_,lf.eraseIdx b,ot ++ [zz],_,_,_,_,_,_,AN,cN,rfl,hlf15,hL15,by simpa using hO15,hot15,hdj15,hR15,B05,B15,B55,hE15,hl15,HD3,HG3,HR3⟩
       case measure=>simp [lenOf]; omega
    ·have t1:¬ 1 < mm:=h1;have HRE:Hid (RR=⟨ot,mm,XX,yy,pp⟩):=by rw [Hid,←HR2.out]; exact snF_stop hmm0 (.inl (by omega))
     clear HR2;have B5w:=B5;have hEw:=hE;obtain⟨x0,x1,x2,-⟩:=cells3 B0;go_upto_region 13 with (fail);refine regI [Mn.eq (.slice AO ot.length cO),Mn.eq (.agg #[.slice E1 mm f1,.slice E2 mm f2,.slice E3 mm f3]),Mn.eq (.slice AO ot.length cO),Mn.any] [some 59,some 60,some 4,none] [3] [true,true,true,false] 1 (by kernel_rfl) ?_ ?_
     ·show ∀ i,i < 4→_
      iterate 4 refine fs ?_ ?_
      ·exact fz
      all_goals intro hl
      all_goals first | exact absurd hl (by decide) | skip
      all_goals clear hl
      all_goals refine stp rfl ?_
      all_goals intro ac wi eI hB hA K hK
      have o6:=oOf (hB 6 (by kernel_rfl)) rfl
      rotate_left
      have o2:=oOf (hB 2 (by kernel_rfl)) rfl;have cc0:=eI.cell x0;have cc1:=eI.cell x1;have cc2:=eI.cell x2
      rotate_left
      obtain⟨_,s59,rfl⟩:=hA 0 (by kernel_rfl) 59 rfl
      rotate_left
      all_goals clear hB hA
      all_goals go_simp
      all_goals exact hK.out _ _ (Ext.refl _) rfl
     intro vals wz eZ hJ;have J60:vals 1=_:=hJ 1 (by decide) (by decide);have J4:vals 2=_:=hJ 2 (by decide) (by decide);clear hJ;simp only [pr,Nat.reduceAdd,J60,J4];clear J60 J4;replace B5w:=eZ.block B5w;replace hEw:=hEw.trans eZ;obtain⟨u0,u1,u2,u3,u4,u5⟩:=cells3 B5w;refine stepL_late (i:=3) rfl (by kernel_rfl) (by kernel_rfl) (fun K hK=>?_);go_simp;refine hK.out _ _ ?_;clear hK K;try simp only [nr]
     refine stepL_done (by kernel_rfl) ?_ _;obtain⟨w20,E20,D20,U20⟩:=ex3 B5w (.slice E1 mm f1) (.slice E2 mm f2) (.slice E3 mm f3);rw [E20];have C20:=U20.chg (NoU.mk B5w (by decide));have hR20:=((hRs.ext eZ).chgt (gt:=w.heap.size+1+1) (by simp) C20 (by omega)).mt;have hO20:=(hO.ext eZ).far C20 (fun j hj=>by have:=(hO.own_lt j hj).1; omega);have hE20:=C20.ext hEw (by omega);obtain⟨z0,z1,z2,-⟩:=cells3 D20;clear u0 u1 u2 u3 u4 u5 E20;go_wp2;refine bodyPost_ret (v:=.tuple #[.slice AO ot.length cO,.agg #[.slice E1 mm f1,.slice E2 mm f2,.slice E3 mm f3]]) ?_ rfl ?_
     ·simp [results,z0,z1,z2,go_sem]
     ·rw [hRf.out,HRE.out];exact⟨_,_,_,_,_,_,_,rfl,hO20.low (by omega),hR20.1,hR20.2.1,hR20.2.2,hE20⟩
end Go.Proofs.YthkkknjcoidioaaGreat
namespace Go.Proofs.YthkkknjcoidioaaGreat
open Go.RowKit Go.ChangeShapes Go.ChangeAt
theorem cells_lin:Tryz.prog.cellsOf 26=3:=by kernel_rfl
section
variable {H:Type} {enc:TypeId×Value→H} {w:World} {spare:Nat→Bool} {held:Bool}
instance:Inhabited Raw:=⟨⟨false,[],false,[]⟩⟩
end
end Go.Proofs.YthkkknjcoidioaaGreat
namespace Go.Proofs.YthkkknjcoidioaaGreat
open Go.RowKit Go.ChangeShapes Go.ChangeAt Go.WideShapes
theorem dgn_sz {R:Raw} (h:dgn R≤6):RawSz R:=by
 unfold dgn at h;exact⟨by omega,by omega⟩
section
variable {H:Type} {enc:TypeId×Value→H} {w:World} {spare:Nat→Bool} {held:Bool}
end
end Go.Proofs.YthkkknjcoidioaaGreat
namespace Go.Proofs.YthkkknjcoidioaaGreat
open Go.RowKit
def SnEnd (n:Nat) (cr:Rat) (R:SnR):Prop:=Md R.m n R.X R.y R.p∧Reg n (nmat R.X R.p R.m)∧(1 < R.m→∀ i,i < R.m→kS R.m n R.X R.p i=true→zS R.m n R.X R.y R.p i≤cr)
theorem snF_end {n:Nat} {cr:Rat}:∀ {m:Nat} {X:Nat→Nat→Rat} {y p:Nat→Rat} (left out:List Nat),Md m n X y p→Reg n (nmat X p m)→SnEnd n cr (snF n cr m X y p left out):=by
 intro m
 induction m with
 | zero=>exact fun _ _ d _=>absurd d.m0 (by omega)
 | succ m ih =>
  intro X y p left out d hr
  by_cases hs:m+1=1∨wS (m+1) n X y p < 0∨zS (m+1) n X y p (wS (m+1) n X y p).toNat≤cr
  ·rw [snF_stop d.m0 hs];refine⟨d,hr,fun h1 i hi hk=>?_⟩
   dsimp only at h1 hi hk ⊢
   have sp:=wF_spec (kS (m+1) n X p) (zS (m+1) n X y p) (m+1)
   rcases hs with hs | hs | hs
   ·omega
   ·rw [sp.1 hs i hi] at hk;cases hk
   ·by_cases h0:wS (m+1) n X y p < 0
    ·rw [sp.1 h0 i hi] at hk;cases hk
    ·exact Rat.le_trans ((sp.2 (by unfold wS at h0; omega)).2 i hi hk) hs
  ·have hs1:¬ m+1=1:=fun h=>hs (.inl h)
   have hs2:¬ wS (m+1) n X y p < 0:=fun h=>hs (.inr (.inl h))
   have hs3:¬ zS (m+1) n X y p (wS (m+1) n X y p).toNat≤cr:=fun h=>hs (.inr (.inr h))
   obtain⟨b,hb⟩:∃ b:Nat,wS (m+1) n X y p=(b:Int):=⟨(wS (m+1) n X y p).toNat,by omega⟩
   rw [hb] at hs3;have hbm:b < m+1:=by have:=wF_bd (kS (m+1) n X p) (zS (m+1) n X y p) (m+1); unfold wS at hb; omega
   rw [snF_go (by omega) hb (Rat.not_le.1 hs3)];obtain⟨-,d2,r2⟩:=snF_reg d hr hb hbm;exact ih _ _ d2 r2
theorem l38_none_nil {w:World}:Calls Tryz.prog 23 #[nilLin] w (RetV w (.bool true)):=by
 unfold nilLin;go_enter Tryz.func23,Tryz.ntmps23;go_upto_region 1 with (fail);refine boxes1 ?_;intro W hE hsz B0;obtain⟨a0,a1,a2,-⟩:=cells3 B0;go_wp2;go_ret;exact⟨rfl,hE⟩
theorem cmp_sub4 {x y:Rat} (h:x≤y):decide (0 < (x - y).num.sign)=false:=decide_eq_false (by
 rw [Int.sign_pos_iff];intro h9;have:=rat_pos h9
 grind)
set_option maxRecDepth 100000 in
theorem snoops_bad {N lo hi:Nat} {w:World} {v u:Value} {Z:Lin} {R:Raw} (h:LinV N lo hi w v Z) (hx:RawV N w u R) (hsx:RawL R) (hs:few34 7 4 Z=false∨(few34 7 4 Z=true∧(6 < dgn R∨(dgn R≤6∧code38 Z 1 (fun _=>R)≠0)))) :
  Calls Tryz.prog 4 #[v,u] w (RetV w (.bool true)):=by
 have hI:=h;have hIx:=hx;have hN:N≤w.heap.size:=hx.le;have HSX:=Lib.hid hsx;obtain⟨A1,c1,A2,c2,A3,c3,rfl,-⟩:=h.parts;obtain⟨Q1,k1,l1,Q2,k2,l2,rfl,gx1,gx2⟩:=hx.parts;obtain⟨dz,hdz⟩:=hid_eq ((R.l1.length+R.l2.length:Nat):Int)
 rcases hs with hs | ⟨hf,hd | ⟨hd,hc⟩⟩
 ·have HS:=Lib.hid hs;clear h hs hx hsx;go_enter Tryz.func4,Tryz.ntmps4;go_wp2_with (go_at_call 10; refine Hid.out ?_);refine boxesC2 ?_;intro W hE hsz B0 B1;refine (l38_known W).mono ?_;rintro e w1 ⟨rfl,e1⟩;replace hE:=hE.trans e1;replace B0:=e1.block B0;replace B1:=e1.block B1;replace hsz:=blk_lt B1;clear e1;obtain⟨a0,a1,a2,-⟩:=cells3 B0;obtain⟨b0,b1,b2,b3,-⟩:=cells4 B1;go_wp2_with (go_at_call 11; refine Hid.out ?_);refine (l38_few (hI.ext hE)).mono ?_;rintro e w2 ⟨rfl,e2⟩;rw [HS.out];replace hE:=hE.trans e2;replace B0:=e2.block B0;replace B1:=e2.block B1;replace hsz:=blk_lt B1;clear a0 a1 a2 b0 b1 b2 b3;obtain⟨a0,a1,a2,-⟩:=cells3 B0;obtain⟨b0,b1,b2,b3,-⟩:=cells4 B1;clear e2;go_wp2;go_ret;exact⟨rfl,hE⟩
 ·have HF:=Lib.hid hf;have hd1:6 < dz:=by rw [hdz.out]; unfold dgn at hd; omega
  have hd2:decide (6 < dz)=true:=decide_eq_true hd1;clear h hf hx hsx hd;go_enter Tryz.func4,Tryz.ntmps4;go_wp2_with (go_at_call 10; refine Hid.out ?_);refine boxesC2 ?_;intro W hE hsz B0 B1;refine (l38_known W).mono ?_;rintro e w1 ⟨rfl,e1⟩;replace hE:=hE.trans e1;replace B0:=e1.block B0;replace B1:=e1.block B1;replace hsz:=blk_lt B1;clear e1;obtain⟨a0,a1,a2,-⟩:=cells3 B0;obtain⟨b0,b1,b2,b3,-⟩:=cells4 B1;go_wp2_with (go_at_call 11; refine Hid.out ?_);refine (l38_few (hI.ext hE)).mono ?_;rintro e w2 ⟨rfl,e2⟩;rw [HF.out];replace hE:=hE.trans e2;replace B0:=e2.block B0;replace B1:=e2.block B1;replace hsz:=blk_lt B1;clear a0 a1 a2 b0 b1 b2 b3;obtain⟨a0,a1,a2,-⟩:=cells3 B0;obtain⟨b0,b1,b2,b3,-⟩:=cells4 B1;clear e2;go_wp2_with (go_at_call 21; refine Hid.out ?_);refine (r2_digitsN (hIx.ext hE) HSX.out).mono ?_;rintro e w5 ⟨rfl,e5⟩;rw [←hdz.out];replace hE:=hE.trans e5;replace B0:=e5.block B0;replace B1:=e5.block B1;replace hsz:=blk_lt B1;clear a0 a1 a2 b0 b1 b2 b3;obtain⟨a0,a1,a2,-⟩:=cells3 B0;obtain⟨b0,b1,b2,b3,-⟩:=cells4 B1;clear e5;go_wp2;go_ret;exact⟨rfl,hE⟩
 ·have HF:=Lib.hid hf;have HC:=Lib.hid hc;have HSZ:=Lib.hid (dgn_sz hd);have hd1:¬ 6 < dz:=by rw [hdz.out]; unfold dgn at hd; omega
  have hd2:decide (6 < dz)=false:=decide_eq_false hd1;obtain⟨cd,hcd⟩:=hid_eq (code38 Z 1 (fun _=>R));have hr0:(cd == 0)=false:=by rw [hcd.out]; simpa using hc
  have hr1:(cd != 0)=true:=by simpa using hr0
  clear h hf hx hsx hd hc;go_enter Tryz.func4,Tryz.ntmps4;go_wp2_with (go_at_call 10; refine Hid.out ?_);refine boxesC2 ?_;intro W hE hsz B0 B1;refine (l38_known W).mono ?_;rintro e w1 ⟨rfl,e1⟩;replace hE:=hE.trans e1;replace B0:=e1.block B0;replace B1:=e1.block B1;replace hsz:=blk_lt B1;clear e1;obtain⟨a0,a1,a2,-⟩:=cells3 B0;obtain⟨b0,b1,b2,b3,-⟩:=cells4 B1;go_wp2_with (go_at_call 11; refine Hid.out ?_);refine (l38_few (hI.ext hE)).mono ?_;rintro e w2 ⟨rfl,e2⟩;rw [HF.out];replace hE:=hE.trans e2;replace B0:=e2.block B0;replace B1:=e2.block B1;replace hsz:=blk_lt B1;clear a0 a1 a2 b0 b1 b2 b3;obtain⟨a0,a1,a2,-⟩:=cells3 B0;obtain⟨b0,b1,b2,b3,-⟩:=cells4 B1;clear e2;go_wp2_with (go_at_call 21; refine Hid.out ?_);refine (r2_digitsN (hIx.ext hE) HSX.out).mono ?_;rintro e w5 ⟨rfl,e5⟩;rw [←hdz.out];replace hE:=hE.trans e5;replace B0:=e5.block B0;replace B1:=e5.block B1;replace hsz:=blk_lt B1;clear a0 a1 a2 b0 b1 b2 b3;obtain⟨a0,a1,a2,-⟩:=cells3 B0;obtain⟨b0,b1,b2,b3,-⟩:=cells4 B1;clear e5;go_wp2_with (go_at_call 22; refine Hid.out ?_);clear hd1 hd2;refine (sn_Snoop_bad (hI.ext hE) (hIx.ext hE) HF.out HSZ.out HC.out).mono ?_;rw [←hcd.out];unfold nilLin;rintro e w6 ⟨rfl,e6⟩;replace hE:=hE.trans e6;replace B0:=e6.block B0;replace B1:=e6.block B1;replace hsz:=blk_lt B1;clear a0 a1 a2 b0 b1 b2 b3;obtain⟨a0,a1,a2,-⟩:=cells3 B0;obtain⟨b0,b1,b2,b3,-⟩:=cells4 B1;clear e6;go_upto_region 6 with (fail);refine boxes1 ?_
  intro w7 e7 hsz7 B6;replace hE:=hE.trans e7;replace B0:=e7.block B0;replace B1:=e7.block B1;replace hsz:=blk_lt B1;clear a0 a1 a2 b0 b1 b2 b3;obtain⟨a0,a1,a2,-⟩:=cells3 B0;obtain⟨b0,b1,b2,b3,-⟩:=cells4 B1;obtain⟨g6,hg6⟩:∃ g6,g6=w6.heap.size:=⟨_,rfl⟩
  rw [←hg6] at B6 ⊢;clear e7 hsz7 hg6;go_wp2_with (go_at_call 12; refine Hid.out ?_);refine boxesC1 ?_;intro W3 f3 hsz3 BS;have hE3:=hE.trans f3;refine (l38_checked (R:=fun _=>R) (hI.ext hE3) (one_raw (by have:=hE3.size; omega) BS (gx1.ext hE3) (gx2.ext hE3)) HF.out (fun i _=>HSX.out)).mono ?_;rintro e w3 ⟨rfl,e3⟩;rw [←hcd.out];replace e3:=f3.trans e3;replace hE:=hE.trans e3;replace B0:=e3.block B0;replace B1:=e3.block B1;replace hsz:=blk_lt B1;clear a0 a1 a2 b0 b1 b2 b3;obtain⟨a0,a1,a2,-⟩:=cells3 B0;obtain⟨b0,b1,b2,b3,-⟩:=cells4 B1;replace B6:=e3.block B6;clear e3 f3 BS hE3 hsz3;obtain⟨s0,s1,s2,-⟩:=cells3 B6;go_wp2_with (go_at_call 23; refine Hid.out ?_);refine l38_none_nil.mono ?_;rintro e w8 ⟨rfl,e8⟩;replace hE:=hE.trans e8;go_wp2;go_ret;exact⟨rfl,hE⟩
set_option maxRecDepth 100000 in
theorem snoops_good {N lo hi:Nat} {w:World} {A1 A2 A3:Option Addr} {c1 c2 c3 m n:Nat} {X:Nat→Nat→Rat} {y p:Nat→Rat} {Z:Lin} {R:Raw} {u:Value} {b:Rat} (hI:LinV N lo hi w (.agg #[.slice A1 m c1,.slice A2 m c2,.slice A3 m c3]) Z) (hf:few34 7 4 Z=true) (hc:code38 Z 1 (fun _=>R)=0)
  (h1:MtV N lo hi w (.slice A1 m c1) m n X) (h2:LsV N lo hi w (.slice A2 m c2) m y) (h3:LsV N lo hi w (.slice A3 m c3) m p) (hx:RawV N w u R) (hxr:RatV N w u b) (hsx:RawL R) (hdg:dgn R≤6) (hbh:Ht 180 b) (d:Md m n X y p) (hr:Reg n (nmat X p m)) :
  Calls Tryz.prog 4 #[.agg #[.slice A1 m c1,.slice A2 m c2,.slice A3 m c3],u] w (RetV w (.bool true)):=by
 have HF:=Lib.hid hf;have HC:=Lib.hid hc;have HD:=Lib.hid d;have HG:=Lib.hid hr;have HBH:=Lib.hid hbh;have hI1:=h1;have hI2:=h2;have hI3:=h3;have hIx:=hx;have hIr:=hxr;have hN:=h1.le;have HSX:=Lib.hid hsx;obtain⟨⟨ot,mm,XX,yy,pp⟩,hRR⟩:=hid_eq (snF n b m X y p (List.range m) []);have hend:SnEnd n b ⟨ot,mm,XX,yy,pp⟩:=by rw [hRR.out]; exact snF_end _ _ d hr
 obtain⟨he1,he2,he3⟩:=hend
 dsimp only at he1 he2 he3
 have HD2:=Lib.hid he1;have HG2:=Lib.hid he2;have HLE:=Lib.hid he3;have hmm0:=he1.m0;have hmm7:=he1.m7;obtain⟨dz,hdz⟩:=hid_eq ((R.l1.length+R.l2.length:Nat):Int);have hd1:¬ 6 < dz:=by rw [hdz.out]; unfold dgn at hdg; omega
 have hd2:decide (6 < dz)=false:=decide_eq_false hd1;obtain⟨Q1,k1,l1,Q2,k2,l2,rfl,gx1,gx2⟩:=hx.parts;clear hf hc h1 h2 h3 d hr hx hxr hsx hdg hbh he1 he2 he3;go_enter Tryz.func4,Tryz.ntmps4;go_wp2_with (go_at_call 10; refine Hid.out ?_);refine boxesC2 ?_;intro W hE hsz B0 B1;refine (l38_known W).mono ?_;rintro e w1 ⟨rfl,e1⟩;replace hE:=hE.trans e1;replace B0:=e1.block B0;replace B1:=e1.block B1;replace hsz:=blk_lt B1;clear e1;obtain⟨a0,a1,a2,-⟩:=cells3 B0;obtain⟨b0,b1,b2,b3,-⟩:=cells4 B1;go_wp2_with (go_at_call 11; refine Hid.out ?_);refine (l38_few (hI.ext hE)).mono ?_;rintro e w2 ⟨rfl,e2⟩;rw [HF.out];replace hE:=hE.trans e2;replace B0:=e2.block B0;replace B1:=e2.block B1;replace hsz:=blk_lt B1;clear a0 a1 a2 b0 b1 b2 b3;obtain⟨a0,a1,a2,-⟩:=cells3 B0;obtain⟨b0,b1,b2,b3,-⟩:=cells4 B1;clear e2;go_wp2_with (go_at_call 21; refine Hid.out ?_);refine (r2_digitsN (hIx.ext hE) HSX.out).mono ?_;rintro e w5 ⟨rfl,e5⟩;rw [←hdz.out];replace hE:=hE.trans e5;replace B0:=e5.block B0;replace B1:=e5.block B1;replace hsz:=blk_lt B1;clear a0 a1 a2 b0 b1 b2 b3;obtain⟨a0,a1,a2,-⟩:=cells3 B0;obtain⟨b0,b1,b2,b3,-⟩:=cells4 B1;clear e5;go_wp2_with (go_at_call 22; refine Hid.out ?_);clear hd1 hd2;refine (sn_Snoop (hI1.ext hE) (hI2.ext hE) (hI3.ext hE) (hIr.ext hE) HD.out HG.out (HBH.out.sz (by omega))).mono ?_;unfold RetSn;rw [←hRR.out]
 dsimp only
 rintro e w6 ⟨v6,A4,c4,A5,c5,A6,c6,rfl,hO,m1,m2,m3,e6⟩;replace hE:=hE.trans e6;replace B0:=e6.block B0;replace B1:=e6.block B1;replace hsz:=blk_lt B1;clear a0 a1 a2 b0 b1 b2 b3;obtain⟨a0,a1,a2,-⟩:=cells3 B0;obtain⟨b0,b1,b2,b3,-⟩:=cells4 B1;obtain⟨AO,cO,rfl,hOc⟩:=hO.form;rw [nats_len] at hO hOc ⊢;clear e6;go_upto_region 6 with (fail);refine boxes1 ?_;intro w7 e7 hsz7 B6;replace hE:=hE.trans e7;replace B0:=e7.block B0;replace B1:=e7.block B1;replace hsz:=blk_lt B1;clear a0 a1 a2 b0 b1 b2 b3;obtain⟨a0,a1,a2,-⟩:=cells3 B0;obtain⟨b0,b1,b2,b3,-⟩:=cells4 B1;replace hO:=hO.ext e7;replace m1:=m1.ext e7;replace m2:=m2.ext e7;replace m3:=m3.ext e7;obtain⟨g6,hg6⟩:∃ g6,g6=w6.heap.size:=⟨_,rfl⟩
 rw [←hg6] at B6 ⊢;clear e7 hsz7 hg6;go_wp2_with (go_at_call 12; refine Hid.out ?_);refine boxesC1 ?_;intro W3 f3 hsz3 BS;have hE3:=hE.trans f3;refine (l38_checked (R:=fun _=>R) (hI.ext hE3) (one_raw (by have:=hE3.size; omega) BS (gx1.ext hE3) (gx2.ext hE3)) HF.out (fun i _=>HSX.out)).mono ?_;rintro e w3 ⟨rfl,e3⟩;rw [HC.out];replace e3:=f3.trans e3;replace hE:=hE.trans e3;replace B0:=e3.block B0;replace B1:=e3.block B1;replace hsz:=blk_lt B1;clear a0 a1 a2 b0 b1 b2 b3;obtain⟨a0,a1,a2,-⟩:=cells3 B0;obtain⟨b0,b1,b2,b3,-⟩:=cells4 B1;replace hO:=hO.ext e3;replace m1:=m1.ext e3;replace m2:=m2.ext e3;replace m3:=m3.ext e3;replace B6:=e3.block B6;clear e3 f3 BS hE3 hsz3;go_wp2_with (go_at_call 24; refine Hid.out ?_);refine (l38_snooped (hI1.ext hE) (hI2.ext hE) (hI3.ext hE) (hIr.ext hE) HD.out HG.out (HBH.out.mono (by omega))).mono ?_;unfold RetSq;rw [←hRR.out]
 dsimp only
 rintro e w8 ⟨v8,A7,c7,A8,c8,A9,c9,rfl,hO2,n1,n2,n3,e8⟩;replace hE:=hE.trans e8;replace B0:=e8.block B0;replace B1:=e8.block B1;replace hsz:=blk_lt B1;clear a0 a1 a2 b0 b1 b2 b3;obtain⟨a0,a1,a2,-⟩:=cells3 B0;obtain⟨b0,b1,b2,b3,-⟩:=cells4 B1;replace hO:=hO.ext e8;replace m1:=m1.ext e8;replace m2:=m2.ext e8;replace m3:=m3.ext e8;replace B6:=e8.block B6;obtain⟨AP,cP,rfl,hPc⟩:=hO2.form;rw [nats_len] at hO2 hPc ⊢;clear e8;go_upto_region 10 with (fail);refine boxes1 ?_;intro w9 e9 hsz9 B10;replace hE:=hE.trans e9;replace B0:=e9.block B0;replace B1:=e9.block B1;replace hsz:=blk_lt B1;clear a0 a1 a2 b0 b1 b2 b3;obtain⟨a0,a1,a2,-⟩:=cells3 B0;obtain⟨b0,b1,b2,b3,-⟩:=cells4 B1;replace hO:=hO.ext e9;replace m1:=m1.ext e9;replace m2:=m2.ext e9;replace m3:=m3.ext e9;obtain⟨g10,hg10⟩:∃ g10,g10=w8.heap.size:=⟨_,rfl⟩
 rw [←hg10] at B10 ⊢;replace hO2:=hO2.ext e9;replace n1:=n1.ext e9;replace n2:=n2.ext e9;replace n3:=n3.ext e9;replace B6:=e9.block B6;clear e9 hsz9 hg10;go_wp2_with (go_at_call 25; refine Hid.out ?_);refine (sl_eqInts (nats_isv hO) (nats_isv hO2)).mono ?_;rintro e w11 ⟨rfl,e11⟩;replace hE:=hE.trans e11;replace B0:=e11.block B0;replace B1:=e11.block B1;replace hsz:=blk_lt B1;clear a0 a1 a2 b0 b1 b2 b3;obtain⟨a0,a1,a2,-⟩:=cells3 B0;obtain⟨b0,b1,b2,b3,-⟩:=cells4 B1;replace hO:=hO.ext e11;replace m1:=m1.ext e11;replace m2:=m2.ext e11;replace m3:=m3.ext e11;replace hO2:=hO2.ext e11;replace n1:=n1.ext e11;replace n2:=n2.ext e11;replace n3:=n3.ext e11;replace B6:=e11.block B6;replace B10:=e11.block B10;clear e11;obtain⟨s0,s1,s2,-⟩:=cells3 B6;obtain⟨t0,t1,t2,-⟩:=cells3 B10;go_wp2_with (go_at_call 26; refine Hid.out ?_);refine (l34_same m1 m2 m3 n1 n2 n3 (fun _ _ _ _=>rfl) (fun _ _=>rfl) (fun _ _=>rfl) (fun i hi j hj=>(HD2.out.hX i hi j hj).sz (by omega)) (fun i hi=>(HD2.out.hy i hi).sz (by omega)) (fun i hi=>(HD2.out.hp i hi).sz (by omega))).mono ?_;rintro e w12 ⟨rfl,e12⟩;replace hE:=hE.trans e12;replace B0:=e12.block B0;replace B1:=e12.block B1;replace hsz:=blk_lt B1;clear a0 a1 a2 b0 b1 b2 b3;obtain⟨a0,a1,a2,-⟩:=cells3 B0;obtain⟨b0,b1,b2,b3,-⟩:=cells4 B1;replace n1:=n1.ext e12;replace n2:=n2.ext e12;replace n3:=n3.ext e12;replace B10:=e12.block B10;clear e12 s0 s1 s2 t0 t1 t2 hO hO2 m1 m2 m3 B6 hOc hPc
 obtain⟨t0,t1,t2,-⟩:=cells3 B10;obtain⟨wp,hwp⟩:∃ wp,wp=w12:=⟨_,rfl⟩
 rw [←hwp] at hE B0 B1 hsz n1 n2 n3 B10 a0 a1 a2 b0 b1 b2 b3 t0 t1 t2 ⊢;clear hwp;have N1:=n1;have N2:=n2;have N3:=n3;clear n1 n2 n3;go_wp2;clear a0 a1 a2 b0 b1 b2 b3 t0 t1 t2
 go_loopw [72] (fun j wr=>∃ i:Nat,i≤mm∧j=.int .i64 i∧Ext wp wr) (fun j _=>mm - (intOf j).toNat)
 case atStart=>exact⟨0,Nat.zero_le _,rfl,Ext.refl _⟩
 case round =>
  obtain⟨i,hi',rfl,eR⟩:=hrel
  by_cases hlt:i < mm
  ·have B1q:=eR.block B1;have B10q:=eR.block B10;obtain⟨t0,t1,t2,-⟩:=cells3 B10q;go_wp2_with (go_at_call 27; refine Hid.out ?_);refine (l38_statistic (N1.ext eR) (N2.ext eR) (N3.ext eR) HD2.out HG2.out hlt).mono ?_;obtain⟨tk,htk⟩:=hid_eq (kS mm n XX pp i);obtain⟨zq,hzq⟩:=hid_eq (zS mm n XX yy pp i);rw [←htk.out,←hzq.out];rintro e w13 hst;obtain⟨nb,A11,n11,c11,A12,n12,c12,rfl,hnb,g1,g2,e13⟩:=hst.form;replace eR:=eR.trans e13;replace B1q:=e13.block B1q;replace B10q:=e13.block B10q;clear e13 t0 t1 t2 hst;go_upto_region 16 with (fail);refine boxes1 ?_;intro w14 e14 hsz14 B12;replace eR:=eR.trans e14;replace B1q:=e14.block B1q;replace B10q:=e14.block B10q;replace g1:=g1.ext e14;replace g2:=g2.ext e14;obtain⟨g12,hg12⟩:∃ g12,g12=w13.heap.size:=⟨_,rfl⟩
   rw [←hg12] at B12 ⊢;clear e14 hsz14 hg12;obtain⟨t0,t1,t2,-⟩:=cells3 B10q;cases tk with
   | false =>
    clear hnb g1 g2 B12 B1q B10q;go_wp2;go_roundw
    case rel=>exact⟨i+1,by omega,by go_num,eR⟩
    case measure=>simp [intOf]; omega
   | true =>
    by_cases h1m:1 < mm
    ·have hle:zq≤b:=by rw [hzq.out]; exact HLE.out h1m i hlt htk.out.symm
     have HSA:Hid (Ht 280000000 zq):=by rw [Hid,hzq.out]; exact zS_ht HD2.out i hlt
     have hRa:RatV N w14 (.agg #[.bool nb,.slice A11 n11 c11,.bool false,.slice A12 n12 c12]) zq:=RatV.mk hnb.out g1 g2;have hRb:=hIr.ext (hE.trans eR);obtain⟨r0,r1,r2,r3,-⟩:=cells4 B12;obtain⟨d0,d1,d2,d3,-⟩:=cells4 B1q;clear hnb g1 g2;go_wp2_with (go_at_call 28; refine Hid.out ?_);refine (r2_compare hRa hRb (HSA.out.sz (by omega)) (HBH.out.sz (by omega)) ((HSA.out.sub (HBH.out.mono (by omega:180≤280000000))).sz (by omega))).mono ?_;obtain⟨sg,hsg⟩:=hid_eq (zq - b).num.sign;have tg:decide (0 < sg)=false:=by rw [hsg.out]; exact cmp_sub4 hle
     have tg2:¬ 0 < sg:=of_decide_eq_false tg;rw [←hsg.out];rintro e w15 ⟨rfl,e15⟩;clear hle;go_wp2;go_roundw
     case rel=>exact⟨i+1,by omega,by go_num,eR.trans e15⟩
     case measure=>simp [intOf]; omega
    ·clear hnb g1 g2 B12 B1q B10q;go_wp2;go_roundw
     case rel=>exact⟨i+1,by omega,by go_num,eR⟩
     case measure=>simp [intOf]; omega
  ·obtain rfl:mm=i:=by omega
   go_wp2;go_ret;exact⟨rfl,hE.trans eR⟩
end Go.Proofs.YthkkknjcoidioaaGreat
