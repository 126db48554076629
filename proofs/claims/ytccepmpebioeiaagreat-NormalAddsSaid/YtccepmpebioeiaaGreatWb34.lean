import Derived.Test.YtccepmpebioeiaaGreatWb27
import Derived.Test.YtccepmpebioeiaaGreatWb26
import Derived.Test.YtccepmpebioeiaaGreatWb33
set_option linter.all false
set_option maxHeartbeats 8000000
namespace Go.Proofs.YtccepmpebioeiaaGreat
open Go.RowKit
def RetNB (N:Nat) (w:World) (n:Nat) (M:Nat→Nat→Rat) (r:Nat→Rat) (e:Ending) (w':World):Prop :=
 ∃ A c A' c',e=.returned (.tuple #[.slice A n c,.slice A' n c'])∧MtV N w.heap.size w'.heap.size w' (.slice A n c) n n M∧LsV N w.heap.size w'.heap.size w' (.slice A' n c') n r∧Ext w w'
def fN (X:Nat→Nat→Rat) (p:Nat→Rat) (s a b:Nat):Rat:=nmat X p s a b
theorem cellSt_upd (F:Nat→Nat→Nat→Rat) (m i s j a b:Nat):updM (cellSt F m i s j) i (upd (cellSt F m i s j i) j (F (s+1) i j)) a b=cellSt F m i s (j+1) a b:=by
 rw [cellSt_set];unfold updM upd
 split
 ·rfl
 ·rfl
set_option maxRecDepth 100000 in
theorem l34_normal {N lo hi:Nat} {w:World} {v1 v2 v3:Value} {m n:Nat} {X:Nat→Nat→Rat} {y p:Nat→Rat} (h1:MtV N lo hi w v1 m n X) (h2:LsV N lo hi w v2 m y) (h3:LsV N lo hi w v3 m p) (hm0:0 < m) (hm:m < 1000000) (hn0:0 < n) (hn:n < 1000000)
  {k:Nat} (hkx:HtM m n k X) (hky:HtL m k y) (hkp:HtL m k p) (hK:m*(3*k+1)+3*k+2≤29000000000) :
  Calls Tryz.prog 15 #[.agg #[v1,v2,v3]] w (RetNB N w n (nmat X p m) (nrhs X y p m)):=by
 have HSS:Hid (∀ s,s < m→∀ i,i < n→∀ j,j < n→Sz (p s)∧Sz (X s i)∧Sz (X s j)∧Sz (y s)∧Sz (p s*X s i)∧Sz (p s*X s i*y s)∧Sz (p s*X s i*X s j)):=fun s hs i hi j hj =>
  ⟨(hkp s hs).sz (by omega),(hkx s hs i hi).sz (by omega),(hkx s hs j hj).sz (by omega),(hky s hs).sz (by omega),((hkp s hs).mul (hkx s hs i hi)).sz (by omega),(((hkp s hs).mul (hkx s hs i hi)).mul (hky s hs)).sz (by omega),(((hkp s hs).mul (hkx s hs i hi)).mul (hkx s hs j hj)).sz (by omega)⟩
 have HSU:Hid (∀ s,s≤m→∀ i,i < n→Sz (nrhs X y p s i)∧∀ j,j < n→Sz (nmat X p s i j)):=fun s hs i hi =>
  ⟨(nrhs_ht hkx hky hkp hs (Nat.le_refl _) i hi).sz (by omega),fun j hj=>(nmat_ht hkx hkp hs (Nat.le_refl _) i hi j hj).sz (by omega)⟩
 obtain⟨Rf,hRf⟩:=hid_eq (RetNB N w n (nmat X p m) (nrhs X y p m));rw [←hRf.out];have hN:=h1.le;obtain⟨A1,c1,rfl,hmc,hcm⟩:=h1.form;obtain⟨A2,c2,rfl,hmc2,hcm2⟩:=h2.form;obtain⟨A3,c3,rfl,hmc3,hcm3⟩:=h3.form;have hI1:=h1;have hI2:=h2;have hI3:=h3;obtain⟨b,off,rfl,-,-,hx⟩:=h1.addr hm0;obtain⟨A0,c0,o0,hc0,hm0',-⟩:=hx 0 (by omega);rw [Nat.add_zero] at o0;unfold maxLen at hm0' hcm hcm2 hcm3;clear h1 h2 h3 hx hkx hky hkp hK;obtain⟨F,hF⟩:=hid_eq (fN X p);have HFS:Hid (∀ s i j,F s i j+p s*X s i*X s j=F (s+1) i j):=fun s i j=>by rw [hF.out]; rfl
 have HFM:Hid (∀ i j,F m i j=nmat X p m i j):=fun i j=>by rw [hF.out]; rfl
 have HF0:Hid (∀ i j,F 0 i j=0):=fun i j=>by rw [hF.out]; rfl
 have HFZ:Hid (∀ s,s≤m→∀ i,i < n→∀ j,j < n→Sz (F s i j)):=fun s hs i hi j hj=>by rw [hF.out]; exact (HSU.out s hs i hi).2 j hj
 obtain⟨R,hR⟩:=hid_eq (nrhs X y p);have HRS:Hid (∀ s i,R s i+p s*X s i*y s=R (s+1) i):=fun s i=>by rw [hR.out]; rfl
 have HRM:Hid (∀ i,R m i=nrhs X y p m i):=fun i=>by rw [hR.out]
 have HR0:Hid (∀ i,((0:Int):Rat)=R 0 i):=fun i=>by rw [hR.out]; rfl
 have HRZ:Hid (∀ s,s≤m→∀ i,i < n→Sz (R s i)):=fun s hs i hi=>by rw [hR.out]; exact (HSU.out s hs i hi).1
 clear HSU hF hR;go_enter Tryz.func15,Tryz.ntmps15;go_upto_region 1 with (fail);refine boxes1 ?_;intro W hE hsz B0;obtain⟨a0,a1,a2,-⟩:=cells3 B0;replace o0:=hE.cell o0;go_wp2_with (go_at_call 61; refine Hid.out ?_);refine (r5_zeros (N:=N) (by omega) n n rfl rfl (by omega) hn0 (by omega)).mono ?_;rintro e w2 ⟨h,cap,β,κ,rfl,hcap,ho,e2⟩;have hW0:w.heap.size < W.heap.size:=blk_lt B0;obtain⟨lo2,hlo2⟩:∃ lo2,lo2=W.heap.size:=⟨_,rfl⟩
 rw [←hlo2] at ho hW0;have hs2:=e2.size;rw [←hlo2] at hs2;replace hE:=hE.trans e2;replace B0:=e2.block B0;clear a0 a1 a2 o0 e2 hsz hlo2;have hNl:N≤lo2:=by omega
 have hhi:=hI1.2.1;unfold maxLen at hcap;go_wp2_with (at_make; refine Hid.out ?_);refine wpList_make_rats rfl _ _ rfl .i64 .i64 _ _ n rfl rfl rfl rfl (by omega) ?_;intro w3 cs3 B3 hcs3 e3;have hRw:RowB N w3 w2.heap.size n 0 (R m):=⟨by omega,Nat.zero_le _,⟨cs3,B3,hcs3⟩,fun j hj=>by omega⟩
 have hs3:w2.heap.size < w3.heap.size:=blk_lt B3;obtain⟨gx,hgx⟩:∃ gx,gx=w2.heap.size:=⟨_,rfl⟩
 rw [←hgx] at hRw hs3 ho hs2 ⊢;have hE3:=hE.trans e3;have B03:=e3.block B0;have ho3:=(ho.ext e3).congr (B:=cellSt F m 0 0 0) (fun i _ j _=>by rw [cellSt_zero,HF0.out]);clear B3 hcs3 cs3 e3 B0 hE ho hgx;go_wp2
 go_loopw [23] (fun i wr=>∃ a:Nat,a≤n∧i=.int .i64 a∧Chg lo2 (gx+1) w3 wr∧OwnM N lo2 gx wr h cap n n β κ (cellSt F m a 0 0)∧RowB N wr gx n a (R m)) (fun i _=>n - (intOf i).toNat)
 case atStart=>exact⟨0,Nat.zero_le _,rfl,Chg.refl _ _ _,ho3,hRw⟩
 case round =>
  clear ho3 hRw;obtain⟨a,ha,rfl,hC,ho,hRw⟩:=hrel;have hsC:=hC.size
  by_cases hlt:a < n
  ·go_wp2_with (go_at_call 56; refine Hid.out ?_);refine (r2_Whole (N:=N) (by omega) 0 (by omega) (by omega)).mono ?_;intro e w5 hh;obtain⟨b9,A9,k9,c9,A10,k10,c10,rfl,hb9,g9,g10,e5⟩:=hh.form;have hR5:=hRw.ext e5;have ho5:=ho.ext e5;obtain⟨x0,q0⟩:=hR5.there (o:=a*4) (by omega);obtain⟨x1,q1⟩:=hR5.there (o:=a*4+1) (by omega);obtain⟨x2,q2⟩:=hR5.there (o:=a*4+2) (by omega);obtain⟨x3,q3⟩:=hR5.there (o:=a*4+3) (by omega);have f0:=hR5.frozen (a*4);have f1:=hR5.frozen (a*4+1);have f2:=hR5.frozen (a*4+2);have f3:=hR5.frozen (a*4+3);go_upto_region 8 with (fail);obtain⟨w6,E6,C6,hs6,hr6⟩:=hR5.set (i:=a) (q:=((0:Int):Rat)) hlt (Nat.le_refl _) hb9 g9 g10;rw [E6];have hC6:=(hC.trans (e5.chg _ _)).trans (C6.wide (lo':=lo2) (hi':=gx+1) (by omega) (Nat.le_refl _));have ho6:=ho5.chg C6 (by omega) (.inl (Nat.le_refl _));have hr7:RowB N w6 gx n (a+1) (upd (R m) a (R 0 a)):=(hr6.less (n':=a+1) (by omega)).congr (fun c _=>by rw [HR0.out]);have B06:=hC6.blk B03 (.inl (by omega));clear E6 C6 hs6 hr6 hRw hR5 q0 q1 q2 q3 f0 f1 f2 f3 hh e5 hC g9 g10 hb9 ho ho5;obtain⟨a0,a1,a2,-⟩:=cells3 B06;go_wp2;clear a0 a1 a2 B06
   go_loopw [33] (fun i wr=>∃ s:Nat,s≤m∧i=.int .i64 s∧Chg lo2 (gx+1) w3 wr∧OwnM N lo2 gx wr h cap n n β κ (cellSt F m a s 0)∧RowB N wr gx n (a+1) (upd (R m) a (R s a))) (fun i _=>m - (intOf i).toNat)
   case atStart=>exact⟨0,Nat.zero_le _,rfl,hC6,ho6,hr7⟩
   case round =>
    clear hC6 hr7 hsC ho6;obtain⟨s,hs,rfl,hC,ho,hRw⟩:=hrel;have hsC:=hC.size;have B0r:=hC.blk B03 (.inl (by omega));have hEr:=hC.ext hE3 (by omega)
    by_cases hlts:s < m
    ·obtain⟨b',off',hA,-,-,hx⟩:=(hI1.ext hEr).addr hm0;obtain⟨rfl,rfl⟩:b=b'∧off=off':=by injection hA with hA; injection hA with e1 e2; exact⟨e1,e2⟩
     obtain⟨Ar,cr,o0,-,hcr,hrow⟩:=hx s hlts;obtain⟨br,offr,rfl,-,-,hx2⟩:=hrow.addr hn0;obtain⟨n1,A11,k11,c11,A12,k12,c12,p0,p1,p2,p3,hb1,g1,g2⟩:=(hx2 a hlt).open;obtain⟨bp,offp,rfl,-,-,hx3⟩:=(hI3.ext hEr).addr hm0;obtain⟨n2,A13,k13,c13,A14,k14,c14,q0,q1,q2,q3,hb2,g3,g4⟩:=(hx3 s hlts).open;unfold maxLen at hcr;obtain⟨a0,a1,a2,-⟩:=cells3 B0r;have HZ:=Lib.hid (HSS.out s hlts a hlt a hlt);have hR1:RatV N wr (.agg #[.bool n1,.slice A11 k11 c11,.bool false,.slice A12 k12 c12]) (X s a):=RatV.mk hb1 g1 g2;have hR2:RatV N wr (.agg #[.bool n2,.slice A13 k13 c13,.bool false,.slice A14 k14 c14]) (p s):=RatV.mk hb2 g3 g4;have hNr:N≤wr.heap.size:=by omega
     clear hx hx2 hx3 hA hb1 g1 g2 hb2 g3 g4;go_upto_region 11 with (fail);refine regI [Mn.eq (.pointer (some ⟨w.heap.size,2,none⟩)),Mn.eq (.slice (some ⟨bp,offp,none⟩) m c3),Mn.eq (.int .i64 (s:Int)),Mn.eq (.pointer (some ⟨bp,offp+s*4,none⟩)),Mn.rat N (p s),Mn.eq (.slice (some ⟨br,offr,none⟩) n cr),Mn.eq (.int .i64 (a:Int)),Mn.eq (.pointer (some ⟨br,offr+a*4,none⟩)),Mn.rat N (X s a),Mn.rat N (p s*X s a),Mn.blk wr.heap.size (.cells #[.bool false,.slice none 0 0,.bool false,.slice none 0 0] 44 (0,0)),Mn.any] [some 38,some 39,some 40,some 41,some 42,some 43,some 44,some 45,some 46,some 47,some 10,none] [11] [true,true,true,true,true,true,true,true,true,true,true,false] 1 (by kernel_rfl) ?_ ?_
     ·show ∀ i,i < 12→_
      iterate 12 refine fs ?_ ?_
      ·exact fz
      all_goals intro hl
      all_goals first | exact absurd hl (by decide) | skip
      all_goals clear hl
      all_goals refine stp rfl ?_
      all_goals intro ac wi eI hB hA K hK
      have o1:=oOf (hB 1 (by kernel_rfl)) rfl
      rotate_left
      obtain⟨x38,s38,j38⟩:=hA 0 (by kernel_rfl) 38 rfl;obtain rfl:x38=(.pointer (some ⟨w.heap.size,2,none⟩)):=j38;have cc0:=eI.cell a2;have cc1:=eI.cell p0;have cc2:=eI.cell p1;have cc3:=eI.cell p2;have cc4:=eI.cell p3;have cc5:=eI.cell q0;have cc6:=eI.cell q1;have cc7:=eI.cell q2;have cc8:=eI.cell q3
      rotate_left
      have o8:=oOf (hB 8 (by kernel_rfl)) rfl
      rotate_left
      obtain⟨x39,s39,j39⟩:=hA 1 (by kernel_rfl) 39 rfl;obtain rfl:x39=(.slice (some ⟨bp,offp,none⟩) m c3):=j39;obtain⟨x40,s40,j40⟩:=hA 2 (by kernel_rfl) 40 rfl;obtain rfl:x40=(.int .i64 (s:Int)):=j40
      rotate_left
      obtain⟨x41,s41,j41⟩:=hA 3 (by kernel_rfl) 41 rfl;obtain rfl:x41=(.pointer (some ⟨bp,offp+s*4,none⟩)):=j41;clear hB hA;have cc0:=eI.cell a2;have cc1:=eI.cell p0;have cc2:=eI.cell p1;have cc3:=eI.cell p2;have cc4:=eI.cell p3;have cc5:=eI.cell q0;have cc6:=eI.cell q1;have cc7:=eI.cell q2;have cc8:=eI.cell q3
      ·go_simp;exact hK.out _ _ (Ext.refl _) (hR2.ext eI)
      have o9:=oOf (hB 9 (by kernel_rfl)) rfl
      rotate_left
      have o7:=oOf (hB 7 (by kernel_rfl)) rfl
      rotate_left
      obtain⟨x43,s43,j43⟩:=hA 5 (by kernel_rfl) 43 rfl;obtain rfl:x43=(.slice (some ⟨br,offr,none⟩) n cr):=j43;obtain⟨x44,s44,j44⟩:=hA 6 (by kernel_rfl) 44 rfl;obtain rfl:x44=(.int .i64 (a:Int)):=j44
      rotate_left
      obtain⟨x45,s45,j45⟩:=hA 7 (by kernel_rfl) 45 rfl;obtain rfl:x45=(.pointer (some ⟨br,offr+a*4,none⟩)):=j45;clear hB hA;have cc0:=eI.cell a2;have cc1:=eI.cell p0;have cc2:=eI.cell p1;have cc3:=eI.cell p2;have cc4:=eI.cell p3;have cc5:=eI.cell q0;have cc6:=eI.cell q1;have cc7:=eI.cell q2;have cc8:=eI.cell q3
      ·go_simp;exact hK.out _ _ (Ext.refl _) (hR1.ext eI)
      obtain⟨x42,s42,j42⟩:=hA 4 (by kernel_rfl) 42 rfl;replace j42:Mn.p (Mn.rat N (p s)) x42 wi:=j42;obtain⟨x46,s46,j46⟩:=hA 8 (by kernel_rfl) 46 rfl;replace j46:Mn.p (Mn.rat N (X s a)) x46 wi:=j46;clear hB hA
      ·go_simp;refine (l34_mul j42 j46 HZ.out.1 HZ.out.2.1).mono ?_;rintro e wj ⟨vj,rfl,hj,ej⟩;go_wp2_with fail;exact hK.out _ _ ej hj
      clear hB hA
      ·go_simp;refine boxes1 ?_;intro wj ej hszj BJ;exact hK.out _ _ ej ⟨_,rfl,eI.size,BJ⟩
      all_goals clear hB hA
      all_goals go_simp
      all_goals exact hK.out _ _ (Ext.refl _) rfl
     intro vals wz eZ hJ;have J47:Mn.p (Mn.rat N (p s*X s a)) (vals 9) wz:=hJ 9 (by decide) (by decide);have J10:Mn.p (Mn.blk wr.heap.size (.cells #[.bool false,.slice none 0 0,.bool false,.slice none 0 0] 44 (0,0))) (vals 10) wz:=hJ 10 (by decide) (by decide);clear hJ;simp only [pr,Nat.reduceAdd]
     generalize vals 9=z47 at J47 ⊢
     generalize vals 10=z10 at J10 ⊢
     obtain⟨gW,rfl,hgW,BG⟩:=J10;obtain⟨bz,Az,kz,cz,Az',kz',cz',rfl,hbz,gz1,gz2⟩:=RatV.parts J47;obtain⟨r0,r1,r2,r3,r4,r5,r6,r7⟩:=cells4 BG;refine stepL_late (i:=11) rfl (by kernel_rfl) (by kernel_rfl) (fun K hK=>?_);go_simp;refine hK.out _ _ ?_;clear hK K;try simp only [nr]
     refine stepL_done (by kernel_rfl) ?_ _;obtain⟨w7,E7,hBW,K7,hs7⟩:=boxSet (q:=p s*X s a) BG (by omega) hbz gz1 gz2;rw [E7];have hgW7:gW < w7.heap.size:=by have:=blk_lt BG; omega
     have hgx7:gx+1≤gW:=by omega
     replace hRw:=(hRw.ext eZ).chg K7 (by omega) (.inl (by omega));replace ho:=(ho.ext eZ).chg K7 (by omega) (.inl (by omega));have hE7:Ext wr w7:=K7.ext eZ hgW;replace hC:=hC.trans (hE7.chg _ _);replace hEr:=hEr.trans hE7;replace B0r:=hE7.block B0r;have hrow7:=hrow.ext hE7;clear r0 r1 r2 r3 r4 r5 r6 r7 a0 a1 a2 p0 p1 p2 p3 q0 q1 q2 q3 o0 BG hbz gz1 gz2 E7 K7 hR1 hR2 J47 eZ hs7 HZ hrow;obtain⟨by_,offy,rfl,-,-,hx3⟩:=(hI2.ext hEr).addr hm0;obtain⟨n2,A13,k13,c13,A14,k14,c14,q0,q1,q2,q3,hb2,g3,g4⟩:=(hx3 s hlts).open;obtain⟨zb,zA,zn,zc,zA2,zn2,zc2,t0,t1,t2,t3,t4,t5,t6,t7,hbz,gz1,gz2⟩:=hRw.at_ (i:=a) (by omega);rw [upd_same] at hbz gz1 gz2;obtain⟨n1,A11,k11,c11,A12,k12,c12,p0,p1,p2,p3,-,-,-,-,hR1,BW⟩:=hBW.open;obtain⟨a0,a1,a2,-⟩:=cells3 B0r;have HZ:=Lib.hid (HSS.out s hlts a hlt a hlt);have HZ2:=Lib.hid (HRZ.out s hs a hlt);have HNX:=Lib.hid (HRS.out s a);have hR2:RatV N w7 (.agg #[.bool n2,.slice A13 k13 c13,.bool false,.slice A14 k14 c14]) (y s):=RatV.mk hb2 g3 g4;have hR3:RatV N w7 (.agg #[.bool zb,.slice zA zn zc,.bool false,.slice zA2 zn2 zc2]) (R s a):=RatV.mk hbz gz1 gz2;clear hx3 hb2 g3 g4 hbz gz1 gz2 BW;go_upto_region 12 with (fail);refine regI [Mn.eq (.slice (some ⟨gx,0,none⟩) n n),Mn.eq (.int .i64 (a:Int)),Mn.eq (.slice (some ⟨gx,0,none⟩) n n),Mn.eq (.int .i64 (a:Int)),Mn.eq (.pointer (some ⟨gx,a*4,none⟩)),Mn.rat N (R s a),Mn.rat N (p s*X s a),Mn.eq (.pointer (some ⟨w.heap.size,1,none⟩)),Mn.eq (.slice (some ⟨by_,offy,none⟩) m c2),Mn.eq (.int .i64 (s:Int)),Mn.eq (.pointer (some ⟨by_,offy+s*4,none⟩)),Mn.rat N (y s),Mn.rat N (p s*X s a*y s),Mn.rat N (R (s+1) a),Mn.eq (.pointer (some ⟨gx,a*4,none⟩)),Mn.any] [some 48,some 49,some 50,some 51,some 52,some 53,some 54,some 55,some 56,some 57,some 58,some 59,some 60,some 61,some 62,none] [15] [true,true,true,true,true,true,true,true,true,true,true,true,true,true,true,false] 1 (by kernel_rfl) ?_ ?_
     ·show ∀ i,i < 16→_
      iterate 16 refine fs ?_ ?_
      ·exact fz
      all_goals intro hl
      all_goals first | exact absurd hl (by decide) | skip
      all_goals clear hl
      all_goals refine stp rfl ?_
      all_goals intro ac wi eI hB hA K hK
      have o6:=oOf (hB 6 (by kernel_rfl)) rfl
      rotate_left
      have o7:=oOf (hB 7 (by kernel_rfl)) rfl
      rotate_left
      have o6:=oOf (hB 6 (by kernel_rfl)) rfl
      rotate_left
      have o7:=oOf (hB 7 (by kernel_rfl)) rfl
      rotate_left
      obtain⟨x50,s50,j50⟩:=hA 2 (by kernel_rfl) 50 rfl;obtain rfl:x50=(.slice (some ⟨gx,0,none⟩) n n):=j50;obtain⟨x51,s51,j51⟩:=hA 3 (by kernel_rfl) 51 rfl;obtain rfl:x51=(.int .i64 (a:Int)):=j51
      rotate_left
      obtain⟨x52,s52,j52⟩:=hA 4 (by kernel_rfl) 52 rfl;obtain rfl:x52=(.pointer (some ⟨gx,a*4,none⟩)):=j52;clear hB hA;have cc0:=eI.cell a1;have cc1:=eI.cell p0;have cc2:=eI.cell p1;have cc3:=eI.cell p2;have cc4:=eI.cell p3;have cc5:=eI.cell q0;have cc6:=eI.cell q1;have cc7:=eI.cell q2;have cc8:=eI.cell q3;have cc9:=eI.cell t0;have cc10:=eI.cell t1;have cc11:=eI.cell t2;have cc12:=eI.cell t3
      ·go_simp;exact hK.out _ _ (Ext.refl _) (hR3.ext eI)
      have o10:=oOf (hB 10 (by kernel_rfl)) rfl;clear hB hA;have cc0:=eI.cell a1;have cc1:=eI.cell p0;have cc2:=eI.cell p1;have cc3:=eI.cell p2;have cc4:=eI.cell p3;have cc5:=eI.cell q0;have cc6:=eI.cell q1;have cc7:=eI.cell q2;have cc8:=eI.cell q3;have cc9:=eI.cell t0;have cc10:=eI.cell t1;have cc11:=eI.cell t2;have cc12:=eI.cell t3
      ·go_simp;exact hK.out _ _ (Ext.refl _) (hR1.ext eI)
      have o1:=oOf (hB 1 (by kernel_rfl)) rfl
      rotate_left
      obtain⟨x55,s55,j55⟩:=hA 7 (by kernel_rfl) 55 rfl;obtain rfl:x55=(.pointer (some ⟨w.heap.size,1,none⟩)):=j55;have cc0:=eI.cell a1;have cc1:=eI.cell p0;have cc2:=eI.cell p1;have cc3:=eI.cell p2;have cc4:=eI.cell p3;have cc5:=eI.cell q0;have cc6:=eI.cell q1;have cc7:=eI.cell q2;have cc8:=eI.cell q3;have cc9:=eI.cell t0;have cc10:=eI.cell t1;have cc11:=eI.cell t2;have cc12:=eI.cell t3
      rotate_left
      have o8:=oOf (hB 8 (by kernel_rfl)) rfl
      rotate_left
      obtain⟨x56,s56,j56⟩:=hA 8 (by kernel_rfl) 56 rfl;obtain rfl:x56=(.slice (some ⟨by_,offy,none⟩) m c2):=j56;obtain⟨x57,s57,j57⟩:=hA 9 (by kernel_rfl) 57 rfl;obtain rfl:x57=(.int .i64 (s:Int)):=j57
      rotate_left
      obtain⟨x58,s58,j58⟩:=hA 10 (by kernel_rfl) 58 rfl;obtain rfl:x58=(.pointer (some ⟨by_,offy+s*4,none⟩)):=j58;clear hB hA;have cc0:=eI.cell a1;have cc1:=eI.cell p0;have cc2:=eI.cell p1;have cc3:=eI.cell p2;have cc4:=eI.cell p3;have cc5:=eI.cell q0;have cc6:=eI.cell q1;have cc7:=eI.cell q2;have cc8:=eI.cell q3;have cc9:=eI.cell t0;have cc10:=eI.cell t1;have cc11:=eI.cell t2;have cc12:=eI.cell t3
      ·go_simp;exact hK.out _ _ (Ext.refl _) (hR2.ext eI)
      obtain⟨x54,s54,j54⟩:=hA 6 (by kernel_rfl) 54 rfl;replace j54:Mn.p (Mn.rat N (p s*X s a)) x54 wi:=j54;obtain⟨x59,s59,j59⟩:=hA 11 (by kernel_rfl) 59 rfl;replace j59:Mn.p (Mn.rat N (y s)) x59 wi:=j59;clear hB hA
      ·go_simp;refine (l34_mul j54 j59 HZ.out.2.2.2.2.1 HZ.out.2.2.2.1).mono ?_;rintro e wj ⟨vj,rfl,hj,ej⟩;go_wp2_with fail;exact hK.out _ _ ej hj
      obtain⟨x53,s53,j53⟩:=hA 5 (by kernel_rfl) 53 rfl;replace j53:Mn.p (Mn.rat N (R s a)) x53 wi:=j53;obtain⟨x60,s60,j60⟩:=hA 12 (by kernel_rfl) 60 rfl;replace j60:Mn.p (Mn.rat N (p s*X s a*y s)) x60 wi:=j60;clear hB hA
      ·go_simp;refine (l34_add j53 j60 HZ2.out HZ.out.2.2.2.2.2.1).mono ?_;rw [HNX.out];rintro e wj ⟨vj,rfl,hj,ej⟩;go_wp2_with fail;exact hK.out _ _ ej hj
      obtain⟨x48,s48,j48⟩:=hA 0 (by kernel_rfl) 48 rfl;obtain rfl:x48=(.slice (some ⟨gx,0,none⟩) n n):=j48;obtain⟨x49,s49,j49⟩:=hA 1 (by kernel_rfl) 49 rfl;obtain rfl:x49=(.int .i64 (a:Int)):=j49
      rotate_left
      all_goals clear hB hA
      all_goals go_simp
      all_goals exact hK.out _ _ (Ext.refl _) rfl
     intro vals wz eZ hJ;have J61:Mn.p (Mn.rat N (R (s+1) a)) (vals 13) wz:=hJ 13 (by decide) (by decide);have J62:vals 14=_:=hJ 14 (by decide) (by decide);clear hJ;simp only [pr,Nat.reduceAdd,J62];clear J62
     generalize vals 13=z61 at J61 ⊢
     obtain⟨bz,Az,kz,cz,Az',kz',cz',rfl,hbz,gz1,gz2⟩:=RatV.parts J61;have hRz:=hRw.ext eZ;replace t0:=eZ.cell t0;replace t1:=eZ.cell t1;replace t2:=eZ.cell t2;replace t3:=eZ.cell t3;replace t4:=hRz.frozen (a*4);replace t5:=hRz.frozen (a*4+1);replace t6:=hRz.frozen (a*4+2);replace t7:=hRz.frozen (a*4+3);refine stepL_late (i:=15) rfl (by kernel_rfl) (by kernel_rfl) (fun K hK=>?_);go_simp;refine hK.out _ _ ?_;clear hK K;try simp only [nr]
     refine stepL_done (by kernel_rfl) ?_ _;obtain⟨w8,E8,C8,hs8,hr8⟩:=hRz.set (i:=a) (q:=R (s+1) a) hlt (by omega) hbz gz1 gz2;rw [E8];have hsz8:=eZ.size;replace hC:=(hC.trans (eZ.chg _ _)).trans (C8.wide (lo':=lo2) (hi':=gx+1) (by omega) (Nat.le_refl _));have hr9:=(hr8.less (n':=a+1) (by omega)).congr (y:=upd (R m) a (R (s+1) a)) (fun c _=>by unfold upd; split <;> rfl);have ho8:=(ho.ext eZ).chg C8 (by omega) (.inl (Nat.le_refl _));have hBW8:=(hBW.ext eZ).chg C8 (by omega) (.inr (by omega));have hrow8:=(hrow7.ext eZ).chg C8 (by omega) (.inl (by omega));clear E8 C8 hr8 hRw hRz a0 a1 a2 p0 p1 p2 p3 q0 q1 q2 q3 t0 t1 t2 t3 t4 t5 t6 t7 hbz gz1 gz2 ho hBW hR1 hR2 hR3 HZ HZ2 HNX eZ;go_wp2
     go_loopw [64] (fun i wr=>∃ j:Nat,j≤n∧i=.int .i64 j∧Chg lo2 (gx+1) w3 wr∧OwnM N lo2 gx wr h cap n n β κ (cellSt F m a s j)∧RowB N wr gx n (a+1) (upd (R m) a (R (s+1) a))∧BoxR N wr gW (p s*X s a)∧LsV N lo hi wr (.slice (some ⟨br,offr,none⟩) n cr) n (X s)) (fun i _=>n - (intOf i).toNat)
     case atStart=>exact⟨0,Nat.zero_le _,rfl,hC,ho8,hr9,hBW8,hrow8⟩
     case round =>
      clear hr9 ho8 hBW8 hrow8 hC hsC hsz8 hs8 hEr B0r;obtain⟨j,hj,rfl,hC,ho,hRw,hBW,hrow⟩:=hrel;have hsC:=hC.size
      by_cases hltj:j < n
      ·obtain⟨br',offr',hA,-,-,hx2⟩:=hrow.addr hn0;obtain⟨rfl,rfl⟩:br=br'∧offr=offr':=by injection hA with hA; injection hA with e1 e2; exact⟨e1,e2⟩
       obtain⟨n1,A11,k11,c11,A12,k12,c12,p0,p1,p2,p3,hb1,g1,g2⟩:=(hx2 j hltj).open;have r0:=ho.hcell hlt;obtain⟨zb,zA,zn,zc,zA2,zn2,zc2,t0,t1,t2,t3,t4,t5,t6,t7,hbz,gz1,gz2⟩:=(ho.row a hlt).at_ hltj;rw [cellSt_at] at hbz gz1 gz2;obtain⟨n2,A13,k13,c13,A14,k14,c14,q0,q1,q2,q3,-,-,-,-,hR2,-⟩:=hBW.open;have hκ:=ho.cap a hlt;have hnc:=ho.mle;unfold maxLen at hκ;have HZ:=Lib.hid (HSS.out s hlts a hlt j hltj);have HZ2:=Lib.hid (HFZ.out s hs a hlt j hltj);have HNX:=Lib.hid (HFS.out s a j);have hR1:RatV N wr (.agg #[.bool n1,.slice A11 k11 c11,.bool false,.slice A12 k12 c12]) (X s j):=RatV.mk hb1 g1 g2;have hR3:RatV N wr (.agg #[.bool zb,.slice zA zn zc,.bool false,.slice zA2 zn2 zc2]) (F s a j):=RatV.mk hbz gz1 gz2;clear hx2 hA hb1 g1 g2 hbz gz1 gz2;go_upto_region 16 with (fail);refine regI [Mn.eq (.slice (some ⟨h,0,none⟩) n cap),Mn.eq (.int .i64 (a:Int)),Mn.eq (.pointer (some ⟨h,a,none⟩)),Mn.eq (.slice (some ⟨β a,0,none⟩) n (κ a)),Mn.eq (.int .i64 (j:Int)),Mn.eq (.slice (some ⟨h,0,none⟩) n cap),Mn.eq (.int .i64 (a:Int)),Mn.eq (.pointer (some ⟨h,a,none⟩)),Mn.eq (.slice (some ⟨β a,0,none⟩) n (κ a)),Mn.eq (.int .i64 (j:Int)),Mn.eq (.pointer (some ⟨β a,j*4,none⟩)),Mn.rat N (F s a j),Mn.rat N (p s*X s a),Mn.eq (.slice (some ⟨br,offr,none⟩) n cr),Mn.eq (.int .i64 (j:Int)),Mn.eq (.pointer (some ⟨br,offr+j*4,none⟩)),Mn.rat N (X s j),Mn.rat N (p s*X s a*X s j),Mn.rat N (F (s+1) a j),Mn.eq (.pointer (some ⟨β a,j*4,none⟩)),Mn.any] [some 67,some 68,some 69,some 70,some 71,some 72,some 73,some 74,some 75,some 76,some 77,some 78,some 79,some 80,some 81,some 82,some 83,some 84,some 85,some 86,none] [20] [true,true,true,true,true,true,true,true,true,true,true,true,true,true,true,true,true,true,true,true,false] 1 (by kernel_rfl) ?_ ?_
       ·show ∀ i,i < 21→_
        iterate 21 refine fs ?_ ?_
        ·exact fz
        all_goals intro hl
        all_goals first | exact absurd hl (by decide) | skip
        all_goals clear hl
        all_goals refine stp rfl ?_
        all_goals intro ac wi eI hB hA K hK
        have o5:=oOf (hB 5 (by kernel_rfl)) rfl
        rotate_left
        have o7:=oOf (hB 7 (by kernel_rfl)) rfl
        rotate_left
        obtain⟨x67,s67,j67⟩:=hA 0 (by kernel_rfl) 67 rfl;obtain rfl:x67=(.slice (some ⟨h,0,none⟩) n cap):=j67;obtain⟨x68,s68,j68⟩:=hA 1 (by kernel_rfl) 68 rfl;obtain rfl:x68=(.int .i64 (a:Int)):=j68
        rotate_left
        obtain⟨x69,s69,j69⟩:=hA 2 (by kernel_rfl) 69 rfl;obtain rfl:x69=(.pointer (some ⟨h,a,none⟩)):=j69;have cc0:=eI.cell r0;have cc1:=eI.cell p0;have cc2:=eI.cell p1;have cc3:=eI.cell p2;have cc4:=eI.cell p3;have cc5:=eI.cell q0;have cc6:=eI.cell q1;have cc7:=eI.cell q2;have cc8:=eI.cell q3;have cc9:=eI.cell t0;have cc10:=eI.cell t1;have cc11:=eI.cell t2;have cc12:=eI.cell t3
        rotate_left
        have o11:=oOf (hB 11 (by kernel_rfl)) rfl
        rotate_left
        have o5:=oOf (hB 5 (by kernel_rfl)) rfl
        rotate_left
        have o7:=oOf (hB 7 (by kernel_rfl)) rfl
        rotate_left
        obtain⟨x72,s72,j72⟩:=hA 5 (by kernel_rfl) 72 rfl;obtain rfl:x72=(.slice (some ⟨h,0,none⟩) n cap):=j72;obtain⟨x73,s73,j73⟩:=hA 6 (by kernel_rfl) 73 rfl;obtain rfl:x73=(.int .i64 (a:Int)):=j73
        rotate_left
        obtain⟨x74,s74,j74⟩:=hA 7 (by kernel_rfl) 74 rfl;obtain rfl:x74=(.pointer (some ⟨h,a,none⟩)):=j74;have cc0:=eI.cell r0;have cc1:=eI.cell p0;have cc2:=eI.cell p1;have cc3:=eI.cell p2;have cc4:=eI.cell p3;have cc5:=eI.cell q0;have cc6:=eI.cell q1;have cc7:=eI.cell q2;have cc8:=eI.cell q3;have cc9:=eI.cell t0;have cc10:=eI.cell t1;have cc11:=eI.cell t2;have cc12:=eI.cell t3
        rotate_left
        have o11:=oOf (hB 11 (by kernel_rfl)) rfl
        rotate_left
        obtain⟨x75,s75,j75⟩:=hA 8 (by kernel_rfl) 75 rfl;obtain rfl:x75=(.slice (some ⟨β a,0,none⟩) n (κ a)):=j75;obtain⟨x76,s76,j76⟩:=hA 9 (by kernel_rfl) 76 rfl;obtain rfl:x76=(.int .i64 (j:Int)):=j76
        rotate_left
        obtain⟨x77,s77,j77⟩:=hA 10 (by kernel_rfl) 77 rfl;obtain rfl:x77=(.pointer (some ⟨β a,j*4,none⟩)):=j77;clear hB hA;have cc0:=eI.cell r0;have cc1:=eI.cell p0;have cc2:=eI.cell p1;have cc3:=eI.cell p2;have cc4:=eI.cell p3;have cc5:=eI.cell q0;have cc6:=eI.cell q1;have cc7:=eI.cell q2;have cc8:=eI.cell q3;have cc9:=eI.cell t0;have cc10:=eI.cell t1;have cc11:=eI.cell t2;have cc12:=eI.cell t3
        ·go_simp;exact hK.out _ _ (Ext.refl _) (hR3.ext eI)
        have o10:=oOf (hB 10 (by kernel_rfl)) rfl;clear hB hA;have cc0:=eI.cell r0;have cc1:=eI.cell p0;have cc2:=eI.cell p1;have cc3:=eI.cell p2;have cc4:=eI.cell p3;have cc5:=eI.cell q0;have cc6:=eI.cell q1;have cc7:=eI.cell q2;have cc8:=eI.cell q3;have cc9:=eI.cell t0;have cc10:=eI.cell t1;have cc11:=eI.cell t2;have cc12:=eI.cell t3
        ·go_simp;exact hK.out _ _ (Ext.refl _) (hR2.ext eI)
        have o9:=oOf (hB 9 (by kernel_rfl)) rfl
        rotate_left
        have o11:=oOf (hB 11 (by kernel_rfl)) rfl
        rotate_left
        obtain⟨x80,s80,j80⟩:=hA 13 (by kernel_rfl) 80 rfl;obtain rfl:x80=(.slice (some ⟨br,offr,none⟩) n cr):=j80;obtain⟨x81,s81,j81⟩:=hA 14 (by kernel_rfl) 81 rfl;obtain rfl:x81=(.int .i64 (j:Int)):=j81
        rotate_left
        obtain⟨x82,s82,j82⟩:=hA 15 (by kernel_rfl) 82 rfl;obtain rfl:x82=(.pointer (some ⟨br,offr+j*4,none⟩)):=j82;clear hB hA;have cc0:=eI.cell r0;have cc1:=eI.cell p0;have cc2:=eI.cell p1;have cc3:=eI.cell p2;have cc4:=eI.cell p3;have cc5:=eI.cell q0;have cc6:=eI.cell q1;have cc7:=eI.cell q2;have cc8:=eI.cell q3;have cc9:=eI.cell t0;have cc10:=eI.cell t1;have cc11:=eI.cell t2;have cc12:=eI.cell t3
        ·go_simp;exact hK.out _ _ (Ext.refl _) (hR1.ext eI)
        obtain⟨x79,s79,j79⟩:=hA 12 (by kernel_rfl) 79 rfl;replace j79:Mn.p (Mn.rat N (p s*X s a)) x79 wi:=j79;obtain⟨x83,s83,j83⟩:=hA 16 (by kernel_rfl) 83 rfl;replace j83:Mn.p (Mn.rat N (X s j)) x83 wi:=j83;clear hB hA
        ·go_simp;refine (l34_mul j79 j83 HZ.out.2.2.2.2.1 HZ.out.2.2.1).mono ?_;rintro e wj ⟨vj,rfl,hj,ej⟩;go_wp2_with fail;exact hK.out _ _ ej hj
        obtain⟨x78,s78,j78⟩:=hA 11 (by kernel_rfl) 78 rfl;replace j78:Mn.p (Mn.rat N (F s a j)) x78 wi:=j78;obtain⟨x84,s84,j84⟩:=hA 17 (by kernel_rfl) 84 rfl;replace j84:Mn.p (Mn.rat N (p s*X s a*X s j)) x84 wi:=j84;clear hB hA
        ·go_simp;refine (l34_add j78 j84 HZ2.out HZ.out.2.2.2.2.2.2).mono ?_;rw [HNX.out];rintro e wj ⟨vj,rfl,hj,ej⟩;go_wp2_with fail;exact hK.out _ _ ej hj
        obtain⟨x70,s70,j70⟩:=hA 3 (by kernel_rfl) 70 rfl;obtain rfl:x70=(.slice (some ⟨β a,0,none⟩) n (κ a)):=j70;obtain⟨x71,s71,j71⟩:=hA 4 (by kernel_rfl) 71 rfl;obtain rfl:x71=(.int .i64 (j:Int)):=j71
        rotate_left
        all_goals clear hB hA
        all_goals go_simp
        all_goals exact hK.out _ _ (Ext.refl _) rfl
       intro vals wz eZ hJ;have J85:Mn.p (Mn.rat N (F (s+1) a j)) (vals 18) wz:=hJ 18 (by decide) (by decide);have J86:vals 19=_:=hJ 19 (by decide) (by decide);clear hJ;simp only [pr,Nat.reduceAdd,J86];clear J86
       generalize vals 18=z85 at J85 ⊢
       obtain⟨bz,Az,kz,cz,Az',kz',cz',rfl,hbz,gz1,gz2⟩:=RatV.parts J85;have hoz:=ho.ext eZ;have hRa:=hoz.row a hlt;replace t0:=eZ.cell t0;replace t1:=eZ.cell t1;replace t2:=eZ.cell t2;replace t3:=eZ.cell t3;replace t4:=hRa.frozen (j*4);replace t5:=hRa.frozen (j*4+1);replace t6:=hRa.frozen (j*4+2);replace t7:=hRa.frozen (j*4+3);refine stepL_late (i:=20) rfl (by kernel_rfl) (by kernel_rfl) (fun K hK=>?_);go_simp;refine hK.out _ _ ?_;clear hK K;try simp only [nr]
       refine stepL_done (by kernel_rfl) ?_ _;have hκn:=hRa.2.1;obtain⟨w9,E9,C9,hs9,hr9⟩:=hRa.set (i:=j) (q:=F (s+1) a j) (by omega) (by omega) hbz gz1 gz2;rw [E9];have hlo9:=hoz.lo_ a hlt;have hhi9:=hoz.hi_ a hlt;have hsz9:=eZ.size;replace hC:=(hC.trans (eZ.chg _ _)).trans (C9.wide (lo':=lo2) (hi':=gx+1) hlo9 (by omega));have ho9:=(hoz.setRow hlt C9 (hr9.less (n':=n) (by omega))).congr (B:=cellSt F m a s (j+1)) (fun i _ c _=>cellSt_upd F m a s j i c);have hr10:=(hRw.ext eZ).chg C9 (by omega) (.inr (by omega));have hBW9:=(hBW.ext eZ).chg C9 (by omega) (.inr (by omega));have hrow9:=(hrow.ext eZ).chg C9 (by omega) (.inl (by omega));clear E9 C9 hr9 hRw hRa hoz ho hBW hrow r0 p0 p1 p2 p3 q0 q1 q2 q3 t0 t1 t2 t3 t4 t5 t6 t7 hbz gz1 gz2 hR1 hR2 hR3 HZ HZ2 HNX eZ;go_wp2;go_roundw
       case rel=>exact⟨j+1,by omega,by go_num,hC,ho9,hr10,hBW9,hrow9⟩
       case measure=>simp [intOf]; omega
      ·obtain rfl:n=j:=by omega
       go_wp2;go_roundw
       case rel=>exact⟨s+1,by omega,by go_num,hC,ho.congr (fun i _ c hc=>cellSt_row F m a s i hc),hRw⟩
       case measure=>simp [intOf]; omega
    ·obtain rfl:m=s:=by omega
     have hr8:=hRw.congr (y:=R m) (fun c _=>by unfold upd; split; (rename_i e; rw [e]); rfl);go_wp2;go_roundw
     case rel=>exact⟨a+1,by omega,by go_num,hC,ho.congr (fun i _ j _=>cellSt_next F m a i j),hr8⟩
     case measure=>simp [intOf]; omega
  ·obtain rfl:n=a:=by omega
   go_wp2
   first | go_ret2 | go_ret | skip
   rw [hRf.out];have hEr:=hC.ext hE3 (by omega);have hom:=(ho.congr (fun i hi j _=>by rw [cellSt_end F m n i j hi,HFM.out])).wide (lo':=w.heap.size) (hi':=_) (by omega) hN (by omega) (Nat.le_refl _);exact⟨_,_,_,_,rfl,hom.mtv hom.mle (by unfold maxLen; omega),(hRw.congr (fun c _=>HRM.out c)).lsv (c:=n) (Nat.le_refl _) (by unfold maxLen; omega) (by omega) hRw.lt (Nat.le_refl _),hEr⟩
end Go.Proofs.YtccepmpebioeiaaGreat
