import Derived.Test.YthkkknjcoidioaaGreatWb42
set_option linter.all false
set_option maxHeartbeats 8000000
namespace Go.Proofs.YthkkknjcoidioaaGreat
open Go.RowKit
def Mn.lsB (N B n:Nat) (x:Nat→Rat):Mn:=⟨fun v w=>LsV N B w.heap.size w v n x,fun e h=>LsR.wide (h.ext e) (Nat.le_refl _) e.size (Nat.le_refl _)⟩
def sR (m n:Nat) (X:Nat→Nat→Rat) (p:Nat→Rat) (i a:Nat):Rat:=sum a (fun s=>gS m n X p i s*X i s)
theorem sR_rS (m n:Nat) (X:Nat→Nat→Rat) (p:Nat→Rat) (i:Nat):((1:Int):Rat) - p i*sR m n X p i n=rS m n X p i:=by
 have h:sR m n X p i n=sum n (fun s=>X i s*gS m n X p i s):=by
  unfold sR;exact congrArg (sum n) (funext fun s=>Rat.mul_comm _ _)
 rw [h]; rfl
theorem sR_ht {m n:Nat} {X:Nat→Nat→Rat} {y p:Nat→Rat} (d:Md m n X y p) {i a:Nat} (hi:i < m) (ha:a≤n):Ht 90000000 (sR m n X p i a) :=
 sum_ht (n:=n) (k:=22000000+400) (fun c hc=>(d.g_ht hi c hc).mul (d.hX i hi c hc)) ha (by have:=d.n4; omega)
set_option maxRecDepth 100000 in
theorem l38_redundancy {N lo hi:Nat} {w:World} {v1 v2 v3:Value} {m n:Nat} {X:Nat→Nat→Rat} {y p:Nat→Rat} (h1:MtV N lo hi w v1 m n X) (h2:LsV N lo hi w v2 m y) (h3:LsV N lo hi w v3 m p) (d:Md m n X y p) (hr:Reg n (nmat X p m)) {i:Nat} (him:i < m) :
  Calls Tryz.prog 45 #[.agg #[v1,v2,v3],.int .i64 (i:Int)] w (RetR N w (rS m n X p i)):=by
 obtain⟨Rf,hRf⟩:=hid_eq (RetR N w (rS m n X p i));rw [←hRf.out];have HD:=Lib.hid d;have HG:=Lib.hid hr;have hN:=h1.le;have hm0:=d.m0;have hm7:=d.m7;have hn0:=d.n0;have hn4:=d.n4;have hI1:=h1;have hI2:=h2;have hI3:=h3;obtain⟨A1,c1,rfl,hmc,hcm⟩:=h1.form;obtain⟨A2,c2,rfl,hmc2,hcm2⟩:=h2.form;obtain⟨A3,c3,rfl,hmc3,hcm3⟩:=h3.form;unfold maxLen at hcm hcm2 hcm3;clear h1 h2 h3 d hr;have HZS:Hid (∀ a,a≤n→Sz (sR m n X p i a)):=fun a ha=>(sR_ht HD.out him ha).sz (by omega)
 have HZG:Hid (∀ a,a < n→Sz (gS m n X p i a)∧Sz (X i a)∧Sz (gS m n X p i a*X i a)):=fun a ha=>⟨(HD.out.g_ht him a ha).sz (by omega),(HD.out.hX i him a ha).sz (by omega),((HD.out.g_ht him a ha).mul (HD.out.hX i him a ha)).sz (by omega)⟩
 have HZP:=Lib.hid ((HD.out.hp i him).sz (by omega));have HZ1:Hid (Sz ((1:Int):Rat)):=(ht_nat 1 1 (by decide) (by omega)).sz (by omega);have HZM:=Lib.hid (((HD.out.hp i him).mul (sR_ht HD.out him (Nat.le_refl n))).sz (by omega));go_enter Tryz.func45,Tryz.ntmps45;go_wp2_with (go_at_call 50; refine Hid.out ?_);refine boxesC2 ?_;intro W hE hsz B0 B1;refine (r2_Whole (N:=N) (by have:=hE.size; omega) 0 (by omega) (by omega)).mono ?_;intro e w2 hh;obtain⟨b3,A9,k9,c9,A10,k10,c10,rfl,hb3,g3,g4,e2⟩:=hh.form;replace hE:=hE.trans e2;replace B0:=e2.block B0;replace B1:=e2.block B1;have hb1':w.heap.size+1 < w2.heap.size:=blk_lt B1;clear e2 hh hsz;go_upto_region 2 with (fail);refine boxes1 ?_;intro w3 e3 hsz3 B3;have HS0:Hid (((0:Int):Rat)=sR m n X p i 0):=rfl;rw [HS0.out] at hb3 g3 g4;obtain⟨gx,hgx⟩:∃ gx,gx=w2.heap.size:=⟨_,rfl⟩
 rw [←hgx] at B3 ⊢;have hBx:BoxR N w3 gx (sR m n X p i 0):=BoxR.mk B3 hb3 (g3.ext e3) (g4.ext e3);have hgx1:w.heap.size+1 < gx:=by omega
 have hgx3:gx+1≤w3.heap.size:=by omega
 have hNgx:N≤gx:=by omega
 replace hE:=hE.trans e3;replace B0:=e3.block B0;replace B1:=e3.block B1;clear B3 g3 g4 hb3 hgx hsz3 hb1' e3;obtain⟨e1,off1,rfl,-,-,hx1⟩:=hI1.addr hm0;obtain⟨A0,c0,p0,hc0,hm0',hR0⟩:=hx1 i him;obtain⟨f3,off3,rfl,-,-,hx3⟩:=LsV.addr hI3 hm0;unfold maxLen at hm0';have P0:=p0;replace p0:=hE.cell p0;obtain⟨a0,a1,a2,-⟩:=cells3 B0;refine regI [Mn.eq (.agg #[.slice (some ⟨e1,off1,none⟩) m c1,.slice A2 m c2,.slice (some ⟨f3,off3,none⟩) m c3]),Mn.mt N n n (qS m n X p),Mn.eq (.pointer (some ⟨w.heap.size,0,none⟩)),Mn.eq (.slice (some ⟨e1,off1,none⟩) m c1),Mn.eq (.int .i64 (i:Int)),Mn.eq (.pointer (some ⟨e1,off1+i,none⟩)),Mn.eq (.slice A0 n c0),Mn.lsB N w3.heap.size n (gS m n X p i),Mn.eq (.int .i64 (n:Int)),Mn.eq (.int .i64 0)] [some 9,some 10,some 11,some 12,some 13,some 14,some 15,some 16,some 17,some 18] [] [true,true,true,true,true,true,true,true,true,true] 0 (by kernel_rfl) ?_ ?_
 ·show ∀ i,i < 10→_
  iterate 10 refine fs ?_ ?_
  ·exact fz
  all_goals intro hl
  all_goals clear hl
  all_goals refine stp rfl ?_
  all_goals intro ac wi eI hB hA K hK
  have o2:=oOf (hB 2 (by kernel_rfl)) rfl;have cc0:=eI.cell a0;have cc1:=eI.cell a1;have cc2:=eI.cell a2
  rotate_left
  obtain⟨_,s9,rfl⟩:=hA 0 (by kernel_rfl) 9 rfl;clear hB hA
  ·go_simp;refine (l38_cofactor (hI1.ext (hE.trans eI)) (hI2.ext (hE.trans eI)) (hI3.ext (hE.trans eI)) HD.out HG.out).mono ?_;rintro e wj ⟨Aj,cj,rfl,hj,ej⟩;go_wp2_with fail;exact hK.out _ _ ej hj
  have o2:=oOf (hB 2 (by kernel_rfl)) rfl
  rotate_left
  obtain⟨_,s11,rfl⟩:=hA 2 (by kernel_rfl) 11 rfl;have cc0:=eI.cell a0;have cc1:=eI.cell a1;have cc2:=eI.cell a2
  rotate_left
  have o1:=oOf (hB 1 (by kernel_rfl)) rfl
  rotate_left
  obtain⟨_,s12,rfl⟩:=hA 3 (by kernel_rfl) 12 rfl;obtain⟨_,s13,rfl⟩:=hA 4 (by kernel_rfl) 13 rfl
  rotate_left
  obtain⟨_,s14,rfl⟩:=hA 5 (by kernel_rfl) 14 rfl;have cc0:=eI.cell p0
  rotate_left
  obtain⟨x10,s10,j10⟩:=hA 1 (by kernel_rfl) 10 rfl;replace j10:Mn.p (Mn.mt N n n (qS m n X p)) x10 wi:=j10;obtain⟨_,s15,rfl⟩:=hA 6 (by kernel_rfl) 15 rfl;clear hB hA
  ·go_simp;refine (r5_apply j10 (hR0.ext (hE.trans eI)) (by omega) hn0 (by omega) HD.out.q_ht (HD.out.hX i him) HD.out.hK5).mono ?_;rintro e wj ⟨Aj,cj,rfl,hj,ej⟩;go_wp2_with fail;exact hK.out _ _ ej (LsR.wide hj eI.size (Nat.le_refl _) (Nat.le_refl _))
  obtain⟨x16,s16,j16⟩:=hA 7 (by kernel_rfl) 16 rfl;replace j16:Mn.p (Mn.lsB N w3.heap.size n (gS m n X p i)) x16 wi:=j16;clear hB hA
  ·obtain⟨A7,c7,rfl,-⟩:=LsR.form j16;go_simp;exact hK.out _ _ (Ext.refl _) rfl
  rotate_left
  all_goals clear hB hA
  all_goals go_simp
  all_goals exact hK.out _ _ (Ext.refl _) rfl
 intro vals wz eZ hJ;have J16:Mn.p (Mn.lsB N w3.heap.size n (gS m n X p i)) (vals 7) wz:=hJ 7 (by decide) (by decide);have J17:vals 8=_:=hJ 8 (by decide) (by decide);have J18:vals 9=_:=hJ 9 (by decide) (by decide);clear hJ;simp only [pr,Nat.reduceAdd,J17,J18];clear J17 J18
 generalize vals 7=z16 at J16 ⊢
 refine stepL_done (by kernel_rfl) ?_ _;have h16:LsV N w3.heap.size wz.heap.size wz z16 n (gS m n X p i):=J16;obtain⟨A5,c5,rfl,hnc5,-⟩:=LsR.form h16;replace hE:=hE.trans eZ;replace B0:=eZ.block B0;replace B1:=eZ.block B1;replace hBx:=hBx.ext eZ;have hgxz:gx+1≤wz.heap.size:=Nat.le_trans hgx3 eZ.size;clear a0 a1 a2 p0 eZ J16;go_wp2
 go_loopw [18] (fun j wr=>∃ a:Nat,a≤n∧j=.int .i64 a∧Chg gx (gx+1) wz wr∧gx < wr.heap.size∧BoxR N wr gx (sR m n X p i a)) (fun j _=>n - (intOf j).toNat)
 case atStart=>exact⟨0,Nat.zero_le _,rfl,Chg.refl _ _ _,by omega,hBx⟩
 case round =>
  clear hBx;obtain⟨a,ha,rfl,hCg,hszg,hBx⟩:=hrel;have hEr:=hCg.ext hE (by omega);have B0r:=hCg.blk B0 (.inl (by omega));have B1r:=hCg.blk B1 (.inl hgx1)
  by_cases hlt:a < n
  ·obtain⟨b6,off6,rfl,-,-,hx6⟩:=LsR.addr (h16.chg hCg hNgx (.inr hgx3)) (by omega);obtain⟨n1,A6,k6,c6,A12,k12,c12,p0,p1,p2,p3,hb1,g1,g2⟩:=(hx6 a hlt).open;obtain⟨e0,off0,rfl,-,-,hx7⟩:=LsV.addr (hR0.ext hEr) (by omega);obtain⟨n5,A13,k13,c13,A14,k14,c14,q0,q1,q2,q3,hb5,g5,g6⟩:=(hx7 a hlt).open;clear hx6 hx7;go_upto_region 5 with (fail);refine boxes1 ?_;intro w5 e5 hsz5 B5;have hC5:=hCg.trans (e5.chg _ _);have hE5:=hEr.trans e5;obtain⟨b3,A9,k9,c9,A10,k10,c10,BS,hb3,g3,g4⟩:=hBx.ext e5;have hRs:RatV N w5 (.agg #[.bool b3,.slice A9 k9 c9,.bool false,.slice A10 k10 c10]) (sR m n X p i a):=RatV.mk hb3 g3 g4;have hRt:RatV N w5 (.agg #[.bool n1,.slice A6 k6 c6,.bool false,.slice A12 k12 c12]) (gS m n X p i a):=RatV.mk hb1 (g1.ext e5) (g2.ext e5);have hRq:RatV N w5 (.agg #[.bool n5,.slice A13 k13 c13,.bool false,.slice A14 k14 c14]) (X i a):=RatV.mk hb5 (g5.ext e5) (g6.ext e5);obtain⟨s0,s1,s2,s3,-⟩:=cells4 BS;obtain⟨t0,t1,t2,t3,-⟩:=cells4 B5;obtain⟨a0,a1,a2,-⟩:=cells3 (e5.block B0r);have o0:=hE5.cell P0;replace q0:=e5.cell q0;replace q1:=e5.cell q1;replace q2:=e5.cell q2;replace q3:=e5.cell q3;obtain⟨hS1,hS2,hS3⟩:=HZG.out a hlt;have HS1:=Lib.hid hS1;have HS2:=Lib.hid hS2;have HS3:=Lib.hid hS3;have HS4:=Lib.hid (HZS.out a ha);have HNX:Hid (sR m n X p i a+gS m n X p i a*X i a=sR m n X p i (a+1)):=rfl;obtain⟨gz,hgz⟩:∃ gz,gz=wr.heap.size:=⟨_,rfl⟩
   rw [←hgz] at t0 t1 t2 t3 hsz5 hszg ⊢;clear p0 p1 p2 p3 B5 hBx e5 hS1 hS2 hS3 a1 a2 hgz g1 g2 g5 g6 hb1 hb5 hb3 g3 g4;refine regI [Mn.rat N (sR m n X p i a),Mn.rat N (gS m n X p i a),Mn.eq (.pointer (some ⟨w.heap.size,0,none⟩)),Mn.eq (.slice (some ⟨e1,off1,none⟩) m c1),Mn.eq (.int .i64 (i:Int)),Mn.eq (.pointer (some ⟨e1,off1+i,none⟩)),Mn.eq (.slice (some ⟨e0,off0,none⟩) n c0),Mn.eq (.int .i64 (a:Int)),Mn.eq (.pointer (some ⟨e0,off0+a*4,none⟩)),Mn.rat N (X i a),Mn.rat N (gS m n X p i a*X i a),Mn.rat N (sR m n X p i (a+1)),Mn.any] [some 23,some 24,some 25,some 26,some 27,some 28,some 29,some 30,some 31,some 32,some 33,some 34,none] [12] [true,true,true,true,true,true,true,true,true,true,true,true,false] 1 (by kernel_rfl) ?_ ?_
   ·show ∀ i,i < 13→_
    iterate 13 refine fs ?_ ?_
    ·exact fz
    all_goals intro hl
    all_goals first | exact absurd hl (by decide) | skip
    all_goals clear hl
    all_goals refine stp rfl ?_
    all_goals intro ac wi eI hB hA K hK
    have o5:=oOf (hB 5 (by kernel_rfl)) rfl;clear hB hA;have cc0:=eI.cell s0;have cc1:=eI.cell s1;have cc2:=eI.cell s2;have cc3:=eI.cell s3
    ·go_simp;exact hK.out _ _ (Ext.refl _) (hRs.ext eI)
    have o7:=oOf (hB 7 (by kernel_rfl)) rfl;clear hB hA;have cc0:=eI.cell t0;have cc1:=eI.cell t1;have cc2:=eI.cell t2;have cc3:=eI.cell t3
    ·go_simp;exact hK.out _ _ (Ext.refl _) (hRt.ext eI)
    have o2:=oOf (hB 2 (by kernel_rfl)) rfl
    rotate_left
    obtain⟨_,s25,rfl⟩:=hA 2 (by kernel_rfl) 25 rfl;have cc0:=eI.cell a0
    rotate_left
    have o1:=oOf (hB 1 (by kernel_rfl)) rfl
    rotate_left
    obtain⟨_,s26,rfl⟩:=hA 3 (by kernel_rfl) 26 rfl;obtain⟨_,s27,rfl⟩:=hA 4 (by kernel_rfl) 27 rfl
    rotate_left
    obtain⟨_,s28,rfl⟩:=hA 5 (by kernel_rfl) 28 rfl;have cc0:=eI.cell o0
    rotate_left
    have o6:=oOf (hB 6 (by kernel_rfl)) rfl
    rotate_left
    obtain⟨_,s29,rfl⟩:=hA 6 (by kernel_rfl) 29 rfl;obtain⟨_,s30,rfl⟩:=hA 7 (by kernel_rfl) 30 rfl
    rotate_left
    obtain⟨_,s31,rfl⟩:=hA 8 (by kernel_rfl) 31 rfl;clear hB hA;have cc0:=eI.cell q0;have cc1:=eI.cell q1;have cc2:=eI.cell q2;have cc3:=eI.cell q3
    ·go_simp;exact hK.out _ _ (Ext.refl _) (hRq.ext eI)
    obtain⟨x24,s24,j24⟩:=hA 1 (by kernel_rfl) 24 rfl;replace j24:Mn.p (Mn.rat N (gS m n X p i a)) x24 wi:=j24;obtain⟨x32,s32,j32⟩:=hA 9 (by kernel_rfl) 32 rfl;replace j32:Mn.p (Mn.rat N (X i a)) x32 wi:=j32;clear hB hA
    ·go_simp;refine (l38_mul j24 j32 HS1.out HS2.out).mono ?_;rintro e wj ⟨vj,rfl,hj,ej⟩;go_wp2_with fail;exact hK.out _ _ ej hj
    obtain⟨x23,s23,j23⟩:=hA 0 (by kernel_rfl) 23 rfl;replace j23:Mn.p (Mn.rat N (sR m n X p i a)) x23 wi:=j23;obtain⟨x33,s33,j33⟩:=hA 10 (by kernel_rfl) 33 rfl;replace j33:Mn.p (Mn.rat N (gS m n X p i a*X i a)) x33 wi:=j33;clear hB hA
    ·go_simp;refine (l38_add j23 j33 HS4.out HS3.out).mono ?_;rw [HNX.out];rintro e wj ⟨vj,rfl,hj,ej⟩;go_wp2_with fail;exact hK.out _ _ ej hj
    all_goals clear hB hA
    all_goals go_simp
    all_goals exact hK.out _ _ (Ext.refl _) rfl
   intro vals wz eZ hJ;have J34:Mn.p (Mn.rat N (sR m n X p i (a+1))) (vals 11) wz:=hJ 11 (by decide) (by decide);clear hJ;simp only [pr,Nat.reduceAdd]
   generalize vals 11=z34 at J34 ⊢
   obtain⟨bz,Az,kz,cz,Az',kz',cz',rfl,hbz,gz1,gz2⟩:=RatV.parts J34;have D0:=eZ.block BS;obtain⟨u0,u1,u2,u3,u4,u5,u6,u7⟩:=cells4 D0;refine stepL_late (i:=12) rfl (by kernel_rfl) (by kernel_rfl) (fun K hK=>?_);go_simp;refine hK.out _ _ ?_;clear hK K;try simp only [nr]
   refine stepL_done (by kernel_rfl) ?_ _;obtain⟨w9,E9,hB9,K9,hs9⟩:=boxSet (q:=sR m n X p i (a+1)) D0 (by omega) hbz gz1 gz2;rw [E9];have hC9:=(hC5.trans (eZ.chg _ _)).trans K9;have hs10:gx < w9.heap.size:=by have:=eZ.size; omega
   clear E9 K9 D0 s0 s1 s2 s3 t0 t1 t2 t3 u0 u1 u2 u3 u4 u5 u6 u7 BS gz1 gz2 hbz q0 q1 q2 q3 a0 o0;go_wp2;go_roundw
   case rel=>exact⟨a+1,by omega,by go_num,hC9,hs10,hB9⟩
   case measure=>simp [intOf]; omega
  ·obtain rfl:a=n:=by omega
   obtain⟨b3,A9,k9,c9,A10,k10,c10,BS,hb3,g3,g4⟩:=hBx;have hRs:RatV N wr (.agg #[.bool b3,.slice A9 k9 c9,.bool false,.slice A10 k10 c10]) (sR m a X p i a):=RatV.mk hb3 g3 g4;obtain⟨n5,A13,k13,c13,A14,k14,c14,q0,q1,q2,q3,hb5,g5,g6⟩:=((hx3 i him).ext hEr).open;have hRp:RatV N wr (.agg #[.bool n5,.slice A13 k13 c13,.bool false,.slice A14 k14 c14]) (p i):=RatV.mk hb5 g5 g6;obtain⟨s0,s1,s2,s3,-⟩:=cells4 BS;obtain⟨a0,a1,a2,-⟩:=cells3 B0r;have HZA:=Lib.hid (HZS.out a (Nat.le_refl _));have HEQ:=Lib.hid (sR_rS m a X p i);clear BS hb3 g3 g4 hb5 g5 g6 a0 a1;go_upto_region 7 with (fail);refine regI [Mn.rat N ((1:Int):Rat),Mn.eq (.pointer (some ⟨w.heap.size,2,none⟩)),Mn.eq (.slice (some ⟨f3,off3,none⟩) m c3),Mn.eq (.int .i64 (i:Int)),Mn.eq (.pointer (some ⟨f3,off3+i*4,none⟩)),Mn.rat N (p i),Mn.rat N (sR m a X p i a),Mn.rat N (p i*sR m a X p i a),Mn.rat N (rS m a X p i),Mn.any] [some 36,some 37,some 38,some 39,some 40,some 41,some 42,some 43,some 44,none] [9] [true,true,true,true,true,true,true,true,true,false] 1 (by kernel_rfl) ?_ ?_
   ·show ∀ i,i < 10→_
    iterate 10 refine fs ?_ ?_
    ·exact fz
    all_goals intro hl
    all_goals first | exact absurd hl (by decide) | skip
    all_goals clear hl
    all_goals refine stp rfl ?_
    all_goals intro ac wi eI hB hA K hK
    clear hB hA
    ·go_simp;refine (r2_Whole (N:=N) (by have:=eI.size; have:=hEr.size; omega) 1 (by omega) (by omega)).mono ?_;rintro e wj ⟨vj,rfl,hj,ej⟩;go_wp2_with fail;exact hK.out _ _ ej hj
    have o2:=oOf (hB 2 (by kernel_rfl)) rfl
    rotate_left
    obtain⟨_,s37,rfl⟩:=hA 1 (by kernel_rfl) 37 rfl;have cc0:=eI.cell a2
    rotate_left
    have o1:=oOf (hB 1 (by kernel_rfl)) rfl
    rotate_left
    obtain⟨_,s38,rfl⟩:=hA 2 (by kernel_rfl) 38 rfl;obtain⟨_,s39,rfl⟩:=hA 3 (by kernel_rfl) 39 rfl
    rotate_left
    obtain⟨_,s40,rfl⟩:=hA 4 (by kernel_rfl) 40 rfl;clear hB hA;have cc0:=eI.cell q0;have cc1:=eI.cell q1;have cc2:=eI.cell q2;have cc3:=eI.cell q3
    ·go_simp;exact hK.out _ _ (Ext.refl _) (hRp.ext eI)
    have o5:=oOf (hB 5 (by kernel_rfl)) rfl;clear hB hA;have cc0:=eI.cell s0;have cc1:=eI.cell s1;have cc2:=eI.cell s2;have cc3:=eI.cell s3
    ·go_simp;exact hK.out _ _ (Ext.refl _) (hRs.ext eI)
    obtain⟨x41,s41,j41⟩:=hA 5 (by kernel_rfl) 41 rfl;replace j41:Mn.p (Mn.rat N (p i)) x41 wi:=j41;obtain⟨x42,s42,j42⟩:=hA 6 (by kernel_rfl) 42 rfl;replace j42:Mn.p (Mn.rat N (sR m a X p i a)) x42 wi:=j42;clear hB hA
    ·go_simp;refine (l38_mul j41 j42 HZP.out HZA.out).mono ?_;rintro e wj ⟨vj,rfl,hj,ej⟩;go_wp2_with fail;exact hK.out _ _ ej hj
    obtain⟨x36,s36,j36⟩:=hA 0 (by kernel_rfl) 36 rfl;replace j36:Mn.p (Mn.rat N ((1:Int):Rat)) x36 wi:=j36;obtain⟨x43,s43,j43⟩:=hA 7 (by kernel_rfl) 43 rfl;replace j43:Mn.p (Mn.rat N (p i*sR m a X p i a)) x43 wi:=j43;clear hB hA
    ·go_simp;refine (l38_sub j36 j43 HZ1.out HZM.out).mono ?_;rw [HEQ.out];rintro e wj ⟨vj,rfl,hj,ej⟩;go_wp2_with fail;exact hK.out _ _ ej hj
    all_goals clear hB hA
    all_goals go_simp
    all_goals exact hK.out _ _ (Ext.refl _) rfl
   intro vals wz eZ hJ;have J44:Mn.p (Mn.rat N (rS m a X p i)) (vals 8) wz:=hJ 8 (by decide) (by decide);clear hJ;simp only [pr,Nat.reduceAdd]
   generalize vals 8=z44 at J44 ⊢
   obtain⟨bz,Az,kz,cz,Az',kz',cz',rfl,hbz,gz1,gz2⟩:=RatV.parts J44;have D0:=eZ.block B1r;obtain⟨u0,u1,u2,u3,u4,u5,u6,u7⟩:=cells4 D0;refine stepL_late (i:=9) rfl (by kernel_rfl) (by kernel_rfl) (fun K hK=>?_);go_simp;refine hK.out _ _ ?_;clear hK K;try simp only [nr]
   refine stepL_done (by kernel_rfl) ?_ _;go_wp2;rw [hRf.out];exact fin_rat rfl rfl rfl (hEr.trans eZ) D0 (by omega) hN gz1 gz2 hbz
end Go.Proofs.YthkkknjcoidioaaGreat
