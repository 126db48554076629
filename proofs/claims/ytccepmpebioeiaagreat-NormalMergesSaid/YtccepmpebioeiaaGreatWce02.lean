import Derived.Test.YtccepmpebioeiaaGreatWce01
set_option linter.all false
set_option maxHeartbeats 8000000
set_option maxRecDepth 100000
namespace Go.Proofs.YtccepmpebioeiaaGreat
open Go.RowKit
theorem l34_less {N:Nat} {w:World} {g gm:Nat} {v1 v2 v3 u1 u2 u3 xv:Value} {S1 S2:Rat} (hN:N≤w.heap.size) (hg:w.heap[g]?=some (.cells #[v1,v2,v3] 26 (0,0))) (hgm:w.heap[gm]?=some (.cells #[u1,u2,u3] 26 (0,0)))
  (h1:∀ w1,Ext w w1→Calls Tryz.prog 21 #[.agg #[v1,v2,v3],xv] w1 (RetR N w1 S1)) (h2:∀ w1,Ext w w1→Calls Tryz.prog 21 #[.agg #[u1,u2,u3],xv] w1 (RetR N w1 S2)) (z1:Sz S1) (z2:Sz S2) :
  Calls Tryz.prog 50 #[xv,.pointer (some ⟨g,0,none⟩),.pointer (some ⟨gm,0,none⟩)] w (RetR N w (S1 - S2)):=by
 have H1:=Lib.hid h1;have H2:=Lib.hid h2;have Z1:=Lib.hid z1;have Z2:=Lib.hid z2;have G1:=Lib.hid hg;have G2:=Lib.hid hgm;clear h1 h2 z1 z2 hg hgm;go_enter Tryz.func50,Tryz.ntmps50;go_upto_region 1 with (fail);refine boxes1 ?_;intro W hE hsz B4;obtain⟨a0,a1,a2,-⟩:=cells3 (hE.block G1.out);obtain⟨b0,b1,b2,-⟩:=cells3 (hE.block G2.out);refine regI [Mn.eq (.agg #[v1,v2,v3]),Mn.eq (xv),Mn.rat N S1,Mn.eq (.agg #[u1,u2,u3]),Mn.eq (xv),Mn.rat N S2,Mn.rat N (S1 - S2),Mn.any] [some 5,some 6,some 7,some 8,some 9,some 10,some 11,none] [7] [true,true,true,true,true,true,true,false] 1 (by kernel_rfl) ?_ ?_
 ·show ∀ i,i < 8→_
  iterate 8 refine fs ?_ ?_
  ·exact fz
  all_goals intro hl
  all_goals first | exact absurd hl (by decide) | skip
  all_goals clear hl
  all_goals refine stp rfl ?_
  all_goals intro ac wi eI hB hA K hK
  have o1:=oOf (hB 1 (by kernel_rfl)) rfl;have cc0:=eI.cell a0;have cc1:=eI.cell a1;have cc2:=eI.cell a2
  rotate_left
  have o0:=oOf (hB 0 (by kernel_rfl)) rfl
  rotate_left
  obtain⟨_,s5,rfl⟩:=hA 0 (by kernel_rfl) 5 rfl;obtain⟨_,s6,rfl⟩:=hA 1 (by kernel_rfl) 6 rfl;clear hB hA
  ·go_simp;refine (H1.out _ (hE.trans eI)).mono ?_;rintro e wj ⟨vj,rfl,hj,ej⟩;go_wp2_with fail;exact hK.out _ _ ej hj
  have o2:=oOf (hB 2 (by kernel_rfl)) rfl;have cc0:=eI.cell b0;have cc1:=eI.cell b1;have cc2:=eI.cell b2
  rotate_left
  have o0:=oOf (hB 0 (by kernel_rfl)) rfl
  rotate_left
  obtain⟨_,s8,rfl⟩:=hA 3 (by kernel_rfl) 8 rfl;obtain⟨_,s9,rfl⟩:=hA 4 (by kernel_rfl) 9 rfl;clear hB hA
  ·go_simp;refine (H2.out _ (hE.trans eI)).mono ?_;rintro e wj ⟨vj,rfl,hj,ej⟩;go_wp2_with fail;exact hK.out _ _ ej hj
  obtain⟨x7,s7,j7⟩:=hA 2 (by kernel_rfl) 7 rfl;replace j7:Mn.p (Mn.rat N S1) x7 wi:=j7;obtain⟨x10,s10,j10⟩:=hA 5 (by kernel_rfl) 10 rfl;replace j10:Mn.p (Mn.rat N S2) x10 wi:=j10;clear hB hA
  ·go_simp;refine (l34_sub j7 j10 Z1.out Z2.out).mono ?_;rintro e wj ⟨vj,rfl,hj,ej⟩;go_wp2_with fail;exact hK.out _ _ ej hj
  all_goals clear hB hA
  all_goals go_simp
  all_goals exact hK.out _ _ (Ext.refl _) rfl
 intro vals wz eZ hJ;have J11:Mn.p (Mn.rat N (S1 - S2)) (vals 6) wz:=hJ 6 (by decide) (by decide);clear hJ;simp only [pr,Nat.reduceAdd]
 generalize vals 6=z11 at J11 ⊢
 replace hE:=hE.trans eZ;replace B4:=eZ.block B4;obtain⟨bz,Az,kz,cz,Az',kz',cz',rfl,hbz,gz1,gz2⟩:=RatV.parts J11;obtain⟨r0,r1,r2,r3,r4,r5,r6,r7⟩:=cells4 B4;refine stepL_late (i:=7) rfl (by kernel_rfl) (by kernel_rfl) (fun K hK=>?_);go_simp;refine hK.out _ _ ?_;clear hK K;try simp only [nr]
 refine stepL_done (by kernel_rfl) ?_ _;go_wp2;exact fin_rat rfl rfl rfl hE B4 (by omega) hN gz1 gz2 hbz
theorem merges_out {N lo hi lo0 hi0 lo1 hi1:Nat} {w:World} {v u0 u1:Value} {Z:Lin} {n0 n1:Nat} {R0 R1:Nat→Raw} {iz jz:Int} (h:LinV N lo hi w v Z) (x0:LsR N lo0 hi0 w u0 n0 R0) (x1:LsR N lo1 hi1 w u1 n1 R1) (hs:few34 8 5 Z=false∨(few34 8 5 Z=true∧(shB 8 n0 R0=false∨(shB 8 n0 R0=true∧shB 8 n1 R1=false)))) :
  Calls Tryz.prog 8 #[v,.agg #[.int .i64 iz,.int .i64 jz],.agg #[u0,u1]] w (RetV w (.bool true)):=by
 have hI:=h;obtain⟨A1,c1,A2,c2,A3,c3,rfl,-⟩:=h.parts;obtain⟨A4,c4,rfl,-⟩:=x0.form;obtain⟨A5,c5,rfl,-⟩:=x1.form;have hX0:=x0;have hX1:=x1;clear h x0 x1
 rcases hs with hs | ⟨hs,hs0 | ⟨hs0,hs1⟩⟩
 ·have HS:=Lib.hid hs;clear hs;go_enter Tryz.func8,Tryz.ntmps8;go_wp2_with (go_at_call 10; refine Hid.out ?_);refine boxesC3 ?_;intro W hE hsz B0 B1 B2;refine (l34_known W).mono ?_;rintro e w1 ⟨rfl,e1⟩;replace hE:=hE.trans e1;replace B0:=e1.block B0;replace B1:=e1.block B1;replace B2:=e1.block B2;have hsz1:=blk_lt B2;clear e1 hsz;obtain⟨a0,a1,a2,-⟩:=cells3 B0;obtain⟨d0,d1,-⟩:=cells2 B1;obtain⟨f0,f1,-⟩:=cells2 B2;go_wp2_with (go_at_call 11; refine Hid.out ?_);refine (l34_few (hI.ext hE) 8 5 rfl rfl (by omega) (by omega)).mono ?_;rintro e w2 ⟨rfl,e2⟩;rw [HS.out];replace hE:=hE.trans e2;replace B0:=e2.block B0;replace B1:=e2.block B1;replace B2:=e2.block B2;replace hsz1:=blk_lt B2;clear a0 a1 a2 d0 d1 f0 f1;obtain⟨a0,a1,a2,-⟩:=cells3 B0;obtain⟨d0,d1,-⟩:=cells2 B1;obtain⟨f0,f1,-⟩:=cells2 B2;clear e2;go_wp2;go_ret;exact⟨rfl,hE⟩
 ·have HS:=Lib.hid hs;have HS0:=Lib.hid hs0;clear hs hs0;go_enter Tryz.func8,Tryz.ntmps8;go_wp2_with (go_at_call 10; refine Hid.out ?_);refine boxesC3 ?_;intro W hE hsz B0 B1 B2;refine (l34_known W).mono ?_;rintro e w1 ⟨rfl,e1⟩;replace hE:=hE.trans e1;replace B0:=e1.block B0;replace B1:=e1.block B1;replace B2:=e1.block B2;have hsz1:=blk_lt B2;clear e1 hsz;obtain⟨a0,a1,a2,-⟩:=cells3 B0;obtain⟨d0,d1,-⟩:=cells2 B1;obtain⟨f0,f1,-⟩:=cells2 B2;go_wp2_with (go_at_call 11; refine Hid.out ?_);refine (l34_few (hI.ext hE) 8 5 rfl rfl (by omega) (by omega)).mono ?_;rintro e w2 ⟨rfl,e2⟩;rw [HS.out];replace hE:=hE.trans e2;replace B0:=e2.block B0;replace B1:=e2.block B1;replace B2:=e2.block B2;replace hsz1:=blk_lt B2;clear a0 a1 a2 d0 d1 f0 f1;obtain⟨a0,a1,a2,-⟩:=cells3 B0;obtain⟨d0,d1,-⟩:=cells2 B1;obtain⟨f0,f1,-⟩:=cells2 B2;clear e2;go_wp2_with (go_at_call 12; refine Hid.out ?_);refine (r2_short (hX0.ext hE) 8 rfl (by omega)).mono ?_;rintro e w3 ⟨rfl,e3⟩;rw [HS0.out];replace hE:=hE.trans e3;replace B0:=e3.block B0;replace B1:=e3.block B1;replace B2:=e3.block B2;replace hsz1:=blk_lt B2;clear a0 a1 a2 d0 d1 f0 f1;obtain⟨a0,a1,a2,-⟩:=cells3 B0;obtain⟨d0,d1,-⟩:=cells2 B1;obtain⟨f0,f1,-⟩:=cells2 B2;clear e3;go_wp2;go_ret;exact⟨rfl,hE⟩
 ·have HS:=Lib.hid hs;have HS0:=Lib.hid hs0;have HS1:=Lib.hid hs1;clear hs hs0 hs1;go_enter Tryz.func8,Tryz.ntmps8;go_wp2_with (go_at_call 10; refine Hid.out ?_);refine boxesC3 ?_;intro W hE hsz B0 B1 B2;refine (l34_known W).mono ?_;rintro e w1 ⟨rfl,e1⟩;replace hE:=hE.trans e1;replace B0:=e1.block B0;replace B1:=e1.block B1;replace B2:=e1.block B2;have hsz1:=blk_lt B2;clear e1 hsz;obtain⟨a0,a1,a2,-⟩:=cells3 B0;obtain⟨d0,d1,-⟩:=cells2 B1;obtain⟨f0,f1,-⟩:=cells2 B2;go_wp2_with (go_at_call 11; refine Hid.out ?_);refine (l34_few (hI.ext hE) 8 5 rfl rfl (by omega) (by omega)).mono ?_;rintro e w2 ⟨rfl,e2⟩;rw [HS.out];replace hE:=hE.trans e2;replace B0:=e2.block B0;replace B1:=e2.block B1;replace B2:=e2.block B2;replace hsz1:=blk_lt B2;clear a0 a1 a2 d0 d1 f0 f1;obtain⟨a0,a1,a2,-⟩:=cells3 B0;obtain⟨d0,d1,-⟩:=cells2 B1;obtain⟨f0,f1,-⟩:=cells2 B2;clear e2;go_wp2_with (go_at_call 12; refine Hid.out ?_);refine (r2_short (hX0.ext hE) 8 rfl (by omega)).mono ?_;rintro e w3 ⟨rfl,e3⟩;rw [HS0.out];replace hE:=hE.trans e3;replace B0:=e3.block B0;replace B1:=e3.block B1;replace B2:=e3.block B2;replace hsz1:=blk_lt B2;clear a0 a1 a2 d0 d1 f0 f1;obtain⟨a0,a1,a2,-⟩:=cells3 B0;obtain⟨d0,d1,-⟩:=cells2 B1;obtain⟨f0,f1,-⟩:=cells2 B2;clear e3;go_wp2_with (go_at_call 12; refine Hid.out ?_);refine (r2_short (hX1.ext hE) 8 rfl (by omega)).mono ?_;rintro e w3 ⟨rfl,e3⟩;rw [HS1.out];replace hE:=hE.trans e3;replace B0:=e3.block B0
  replace B1:=e3.block B1;replace B2:=e3.block B2;replace hsz1:=blk_lt B2;clear a0 a1 a2 d0 d1 f0 f1;obtain⟨a0,a1,a2,-⟩:=cells3 B0;obtain⟨d0,d1,-⟩:=cells2 B1;obtain⟨f0,f1,-⟩:=cells2 B2;clear e3;go_wp2;go_ret;exact⟨rfl,hE⟩
theorem merges_bad {N lo hi lo0 hi0 lo1 hi1:Nat} {w:World} {v u0 u1:Value} {Z:Lin} {n0 n1:Nat} {R0 R1:Nat→Raw} {iz jz:Int} (h:LinV N lo hi w v Z) (x0:LsR N lo0 hi0 w u0 n0 R0) (x1:LsR N lo1 hi1 w u1 n1 R1) (hs:few34 8 5 Z=true) (hs0:shB 8 n0 R0=true) (hs1:shB 8 n1 R1=true) (hc:codeOf Z≠0) :
  Calls Tryz.prog 8 #[v,.agg #[.int .i64 iz,.int .i64 jz],.agg #[u0,u1]] w (RetV w (.bool true)):=by
 have hI:=h;obtain⟨A1,c1,A2,c2,A3,c3,rfl,-⟩:=h.parts;obtain⟨A4,c4,rfl,-⟩:=x0.form;obtain⟨A5,c5,rfl,-⟩:=x1.form;have hX0:=x0;have hX1:=x1;obtain⟨f1,f2,f3⟩:=few34_sz hs;have HS:=Lib.hid hs;have HS0:=Lib.hid hs0;have HS1:=Lib.hid hs1;have HC:=Lib.hid hc;have HF2:=Lib.hid f2;have HF3:=Lib.hid f3;obtain⟨r,hr⟩:=hid_eq (codeOf Z);have hr0:(r == 0)=false:=by rw [hr.out]; simpa using hc
 have hr1:(r != 0)=true:=by simpa using hr0
 have hr2:(r == r)=true:=by simp
 obtain⟨zi,hzi⟩:=hid_eq (if jz < iz then jz else iz);obtain⟨zj,hzj⟩:=hid_eq (if iz < jz then jz else iz);clear h x0 x1 hs hs0 hs1 hc f1 f2 f3;go_enter Tryz.func8,Tryz.ntmps8;go_wp2_with (go_at_call 10; refine Hid.out ?_);refine boxesC3 ?_;intro W hE hsz B0 B1 B2;refine (l34_known W).mono ?_;rintro e w1 ⟨rfl,e1⟩;replace hE:=hE.trans e1;replace B0:=e1.block B0;replace B1:=e1.block B1;replace B2:=e1.block B2;have hsz1:=blk_lt B2;clear e1 hsz;obtain⟨a0,a1,a2,-⟩:=cells3 B0;obtain⟨d0,d1,-⟩:=cells2 B1;obtain⟨f0,f1,-⟩:=cells2 B2;go_wp2_with (go_at_call 11; refine Hid.out ?_);refine (l34_few (hI.ext hE) 8 5 rfl rfl (by omega) (by omega)).mono ?_;rintro e w2 ⟨rfl,e2⟩;rw [HS.out];replace hE:=hE.trans e2;replace B0:=e2.block B0;replace B1:=e2.block B1;replace B2:=e2.block B2;replace hsz1:=blk_lt B2;clear a0 a1 a2 d0 d1 f0 f1;obtain⟨a0,a1,a2,-⟩:=cells3 B0;obtain⟨d0,d1,-⟩:=cells2 B1;obtain⟨f0,f1,-⟩:=cells2 B2;clear e2;go_wp2_with (go_at_call 12; refine Hid.out ?_);refine (r2_short (hX0.ext hE) 8 rfl (by omega)).mono ?_;rintro e w3 ⟨rfl,e3⟩;rw [HS0.out];replace hE:=hE.trans e3;replace B0:=e3.block B0;replace B1:=e3.block B1;replace B2:=e3.block B2;replace hsz1:=blk_lt B2;clear a0 a1 a2 d0 d1 f0 f1;obtain⟨a0,a1,a2,-⟩:=cells3 B0;obtain⟨d0,d1,-⟩:=cells2 B1;obtain⟨f0,f1,-⟩:=cells2 B2;clear e3;go_wp2_with (go_at_call 12; refine Hid.out ?_);refine (r2_short (hX1.ext hE) 8 rfl (by omega)).mono ?_;rintro e w3 ⟨rfl,e3⟩
 rw [HS1.out];replace hE:=hE.trans e3;replace B0:=e3.block B0;replace B1:=e3.block B1;replace B2:=e3.block B2;replace hsz1:=blk_lt B2;clear a0 a1 a2 d0 d1 f0 f1;obtain⟨a0,a1,a2,-⟩:=cells3 B0;obtain⟨d0,d1,-⟩:=cells2 B1;obtain⟨f0,f1,-⟩:=cells2 B2;clear e3;go_upto_region 5 with (fail);refine regI [Mn.eq (.pointer (some ⟨w.heap.size+1,0,none⟩)),Mn.eq (.int .i64 iz),Mn.eq (.pointer (some ⟨w.heap.size+1,1,none⟩)),Mn.eq (.int .i64 jz),Mn.eq (.int .i64 zi),Mn.eq (.pointer (some ⟨w.heap.size+1,0,none⟩)),Mn.eq (.int .i64 iz),Mn.eq (.pointer (some ⟨w.heap.size+1,1,none⟩)),Mn.eq (.int .i64 jz),Mn.eq (.int .i64 zj),Mn.eq (.int .i64 zi),Mn.eq (.int .i64 zj)] [some 40,some 41,some 42,some 43,some 44,some 45,some 46,some 47,some 48,some 49,some 7,some 8] [] [true,true,true,true,true,true,true,true,true,true,true,true] 0 (by kernel_rfl) ?_ ?_
 ·show ∀ i,i < 12→_
  iterate 12 refine fs ?_ ?_
  ·exact fz
  all_goals intro hl
  all_goals clear hl
  all_goals refine stp rfl ?_
  all_goals intro ac wi eI hB hA K hK
  have o4:=oOf (hB 4 (by kernel_rfl)) rfl
  rotate_left
  obtain⟨_,s40,rfl⟩:=hA 0 (by kernel_rfl) 40 rfl;have cc0:=eI.cell d0
  rotate_left
  have o4:=oOf (hB 4 (by kernel_rfl)) rfl
  rotate_left
  obtain⟨_,s42,rfl⟩:=hA 2 (by kernel_rfl) 42 rfl;have cc0:=eI.cell d1
  rotate_left
  obtain⟨_,s41,rfl⟩:=hA 1 (by kernel_rfl) 41 rfl;obtain⟨_,s43,rfl⟩:=hA 3 (by kernel_rfl) 43 rfl;clear hB hA
  ·go_simp;rw [←hzi.out];exact hK.out _ _ (Ext.refl _) rfl
  have o4:=oOf (hB 4 (by kernel_rfl)) rfl
  rotate_left
  obtain⟨_,s45,rfl⟩:=hA 5 (by kernel_rfl) 45 rfl;have cc0:=eI.cell d0
  rotate_left
  have o4:=oOf (hB 4 (by kernel_rfl)) rfl
  rotate_left
  obtain⟨_,s47,rfl⟩:=hA 7 (by kernel_rfl) 47 rfl;have cc0:=eI.cell d1
  rotate_left
  obtain⟨_,s46,rfl⟩:=hA 6 (by kernel_rfl) 46 rfl;obtain⟨_,s48,rfl⟩:=hA 8 (by kernel_rfl) 48 rfl;clear hB hA
  ·go_simp;rw [←hzj.out];exact hK.out _ _ (Ext.refl _) rfl
  obtain⟨_,s44,rfl⟩:=hA 4 (by kernel_rfl) 44 rfl
  rotate_left
  obtain⟨_,s49,rfl⟩:=hA 9 (by kernel_rfl) 49 rfl
  rotate_left
  all_goals clear hB hA
  all_goals go_simp
  all_goals exact hK.out _ _ (Ext.refl _) rfl
 intro vals wz eZ hJ;have J7:vals 10=_:=hJ 10 (by decide) (by decide);have J8:vals 11=_:=hJ 11 (by decide) (by decide);clear hJ;simp only [pr,Nat.reduceAdd,J7,J8];clear J7 J8;refine stepL_done (by kernel_rfl) ?_ _;replace hE:=hE.trans eZ;replace B0:=eZ.block B0;replace B1:=eZ.block B1;replace B2:=eZ.block B2;replace hsz1:=blk_lt B2;clear a0 a1 a2 d0 d1 f0 f1;obtain⟨a0,a1,a2,-⟩:=cells3 B0;obtain⟨d0,d1,-⟩:=cells2 B1;obtain⟨f0,f1,-⟩:=cells2 B2;clear eZ;go_wp2_with (go_at_call 45; refine Hid.out ?_);refine (n_Merge_bad (hI.ext hE) HF2.out HF3.out HC.out iz jz).mono ?_;rintro e w4 ⟨rfl,e4⟩;unfold nilLin;replace hE:=hE.trans e4;replace B0:=e4.block B0;replace B1:=e4.block B1;replace B2:=e4.block B2;replace hsz1:=blk_lt B2;clear a0 a1 a2 d0 d1 f0 f1;obtain⟨a0,a1,a2,-⟩:=cells3 B0;obtain⟨d0,d1,-⟩:=cells2 B1;obtain⟨f0,f1,-⟩:=cells2 B2;clear e4;go_upto_region 7 with (fail);refine boxes1 ?_;intro w5 e5 hsz5 B9;replace hE:=hE.trans e5;replace B0:=e5.block B0;replace B1:=e5.block B1;replace B2:=e5.block B2;replace hsz1:=blk_lt B2;clear a0 a1 a2 d0 d1 f0 f1;obtain⟨a0,a1,a2,-⟩:=cells3 B0;obtain⟨d0,d1,-⟩:=cells2 B1;obtain⟨f0,f1,-⟩:=cells2 B2;clear e5 hsz5;obtain⟨g9,hg9⟩:∃ g9,g9=w4.heap.size:=⟨_,rfl⟩
 rw [←hg9] at B9 ⊢;clear hg9;rw [←hr.out];go_wp2_with (go_at_call 14; refine Hid.out ?_);refine (l34_checked (hI.ext hE) HF2.out HF3.out).mono ?_;rintro e w6 ⟨rfl,e6⟩;replace B9:=e6.block B9;replace hE:=hE.trans e6;replace B0:=e6.block B0;replace B1:=e6.block B1;replace B2:=e6.block B2;replace hsz1:=blk_lt B2;clear a0 a1 a2 d0 d1 f0 f1;obtain⟨a0,a1,a2,-⟩:=cells3 B0;obtain⟨d0,d1,-⟩:=cells2 B1;obtain⟨f0,f1,-⟩:=cells2 B2;clear e6;rw [←hr.out];go_upto_region 10 with (fail);refine regI [Mn.eq (.int .i64 r),Mn.eq (.bool false),Mn.eq (.bool false),Mn.eq undef,Mn.eq undef,Mn.eq undef,Mn.eq undef,Mn.eq undef,Mn.eq undef,Mn.eq undef,Mn.eq undef,Mn.eq undef,Mn.eq undef,Mn.eq undef,Mn.eq undef,Mn.eq (.bool false)] [some 79,some 80,some 81,some 82,some 83,some 84,some 85,some 86,some 87,some 88,some 89,some 90,some 91,some 92,some 93,some 94] [] [true,true,true,true,true,true,true,true,true,true,true,true,true,true,true,true] 0 (by kernel_rfl) ?_ ?_
 ·show ∀ i,i < 16→_
  iterate 16 refine fs ?_ ?_
  ·exact fz
  all_goals intro hl
  all_goals clear hl
  all_goals refine stp rfl ?_
  all_goals intro ac wi eI hB hA K hK
  have o11:=oOf (hB 11 (by kernel_rfl)) rfl
  rotate_left
  obtain⟨_,s79,rfl⟩:=hA 0 (by kernel_rfl) 79 rfl
  rotate_left
  obtain⟨_,s80,rfl⟩:=hA 1 (by kernel_rfl) 80 rfl
  rotate_left
  obtain⟨_,s81,rfl⟩:=hA 2 (by kernel_rfl) 81 rfl;clear hB hA;rw [if_neg (by simp [Region.wanted,yielded,s81,undef])];exact hK.out _ _ (Ext.refl _) rfl;obtain⟨_,s81,rfl⟩:=hA 2 (by kernel_rfl) 81 rfl;clear hB hA;rw [if_neg (by simp [Region.wanted,yielded,s81,undef])];exact hK.out _ _ (Ext.refl _) rfl;obtain⟨_,s81,rfl⟩:=hA 2 (by kernel_rfl) 81 rfl;clear hB hA;rw [if_neg (by simp [Region.wanted,yielded,s81,undef])];exact hK.out _ _ (Ext.refl _) rfl;obtain⟨_,s81,rfl⟩:=hA 2 (by kernel_rfl) 81 rfl;clear hB hA;rw [if_neg (by simp [Region.wanted,yielded,s81,undef])];exact hK.out _ _ (Ext.refl _) rfl;obtain⟨_,s81,rfl⟩:=hA 2 (by kernel_rfl) 81 rfl;clear hB hA;rw [if_neg (by simp [Region.wanted,yielded,s81,undef])];exact hK.out _ _ (Ext.refl _) rfl;obtain⟨_,s81,rfl⟩:=hA 2 (by kernel_rfl) 81 rfl;clear hB hA;rw [if_neg (by simp [Region.wanted,yielded,s81,undef])];exact hK.out _ _ (Ext.refl _) rfl;obtain⟨_,s81,rfl⟩:=hA 2 (by kernel_rfl) 81 rfl;clear hB hA;rw [if_neg (by simp [Region.wanted,yielded,s81,undef])];exact hK.out _ _ (Ext.refl _) rfl;obtain⟨_,s81,rfl⟩:=hA 2 (by kernel_rfl) 81 rfl;clear hB hA;rw [if_neg (by simp [Region.wanted,yielded,s81,undef])];exact hK.out _ _ (Ext.refl _) rfl;obtain⟨_,s81,rfl⟩:=hA 2 (by kernel_rfl) 81 rfl;clear hB hA;rw [if_neg (by simp [Region.wanted,yielded,s81,undef])];exact hK.out _ _ (Ext.refl _) rfl;obtain⟨_,s81,rfl⟩:=hA 2 (by kernel_rfl) 81 rfl;clear hB hA;rw [if_neg (by simp [Region.wanted,yielded,s81,undef])]
  exact hK.out _ _ (Ext.refl _) rfl;obtain⟨_,s81,rfl⟩:=hA 2 (by kernel_rfl) 81 rfl;clear hB hA;rw [if_neg (by simp [Region.wanted,yielded,s81,undef])];exact hK.out _ _ (Ext.refl _) rfl;obtain⟨_,s81,rfl⟩:=hA 2 (by kernel_rfl) 81 rfl;clear hB hA;rw [if_neg (by simp [Region.wanted,yielded,s81,undef])];exact hK.out _ _ (Ext.refl _) rfl;obtain⟨_,s81,rfl⟩:=hA 2 (by kernel_rfl) 81 rfl;obtain⟨_,s93,rfl⟩:=hA 14 (by kernel_rfl) 93 rfl
  rotate_left
  all_goals clear hB hA
  all_goals go_simp
  all_goals exact hK.out _ _ (Ext.refl _) rfl
 intro vals wz eZ hJ;have J94:vals 15=_:=hJ 15 (by decide) (by decide);clear hJ;simp only [pr,Nat.reduceAdd,J94];clear J94;refine stepL_done (by kernel_rfl) ?_ _;replace B9:=eZ.block B9;replace hE:=hE.trans eZ;replace B0:=eZ.block B0;replace B1:=eZ.block B1;replace B2:=eZ.block B2;replace hsz1:=blk_lt B2;clear a0 a1 a2 d0 d1 f0 f1;obtain⟨a0,a1,a2,-⟩:=cells3 B0;obtain⟨d0,d1,-⟩:=cells2 B1;obtain⟨f0,f1,-⟩:=cells2 B2;obtain⟨y0,y1,y2,-⟩:=cells3 B9;go_wp2_with (go_at_call 40; refine Hid.out ?_);refine l34_none_nil.mono ?_;rintro e w9 ⟨rfl,e9⟩;go_wp2;go_ret;exact⟨rfl,hE.trans e9⟩
theorem merges_range {N lo hi lo0 hi0 lo1 hi1:Nat} {w:World} {A1 A2 A3 A4 A5:Option Addr} {c1 c2 c3 c4 c5 m n n0 n1:Nat} {X:Nat→Nat→Rat} {y p:Nat→Rat} {R0 R1:Nat→Raw} {Z:Lin} {iz jz:Int}
  (hI:LinV N lo hi w (.agg #[.slice A1 m c1,.slice A2 m c2,.slice A3 m c3]) Z) (hX0:LsR N lo0 hi0 w (.slice A4 n0 c4) n0 R0) (hX1:LsR N lo1 hi1 w (.slice A5 n1 c5) n1 R1) (hs:few34 8 5 Z=true) (hs0:shB 8 n0 R0=true) (hs1:shB 8 n1 R1=true) (hc:codeOf Z=0)
  (h1:MtV N lo hi w (.slice A1 m c1) m n X) (h2:LsV N lo hi w (.slice A2 m c2) m y) (h3:LsV N lo hi w (.slice A3 m c3) m p) (hm0:0 < m) (hm:m≤8) (hn0:0 < n) (hn:n≤5) (hpos:∀ i,i < m→0 < p i)
  (hkx:HtM m n 17 X) (hky:HtL m 17 y) (hkp:HtL m 17 p)
  (hz:iz < 0∨(m:Int)≤iz∨jz < 0∨(m:Int)≤jz∨iz=jz) :
  Calls Tryz.prog 8 #[.agg #[.slice A1 m c1,.slice A2 m c2,.slice A3 m c3],.agg #[.int .i64 iz,.int .i64 jz],.agg #[.slice A4 n0 c4,.slice A5 n1 c5]] w (RetV w (.bool true)):=by
 obtain⟨f1,f2,f3⟩:=few34_sz hs;have HS:=Lib.hid hs;have HS0:=Lib.hid hs0;have HS1:=Lib.hid hs1;have HC:=Lib.hid hc;have HF2:=Lib.hid f2;have HF3:=Lib.hid f3;have HX:=Lib.hid hkx;have HY:=Lib.hid hky;have HP:=Lib.hid hkp;have HPOS:=Lib.hid hpos;obtain⟨zi,hzi⟩:=hid_eq (if jz < iz then jz else iz);obtain⟨zj,hzj⟩:=hid_eq (if iz < jz then jz else iz)
 have HZ:Hid (zi < 0∨(m:Int)≤zj∨zi=zj):=by
  rw [Hid,hzi.out,hzj.out]
  split <;> split <;> omega
 clear hs hs0 hs1 hc f1 f2 f3 hkx hky hkp hpos;go_enter Tryz.func8,Tryz.ntmps8;go_wp2_with (go_at_call 10; refine Hid.out ?_);refine boxesC3 ?_;intro W hE hsz B0 B1 B2;refine (l34_known W).mono ?_;rintro e w1 ⟨rfl,e1⟩;replace hE:=hE.trans e1;replace B0:=e1.block B0;replace B1:=e1.block B1;replace B2:=e1.block B2;have hsz1:=blk_lt B2;clear e1 hsz;obtain⟨a0,a1,a2,-⟩:=cells3 B0;obtain⟨d0,d1,-⟩:=cells2 B1;obtain⟨f0,f1,-⟩:=cells2 B2;go_wp2_with (go_at_call 11; refine Hid.out ?_);refine (l34_few (hI.ext hE) 8 5 rfl rfl (by omega) (by omega)).mono ?_;rintro e w2 ⟨rfl,e2⟩;rw [HS.out];replace hE:=hE.trans e2;replace B0:=e2.block B0;replace B1:=e2.block B1;replace B2:=e2.block B2;replace hsz1:=blk_lt B2;clear a0 a1 a2 d0 d1 f0 f1;obtain⟨a0,a1,a2,-⟩:=cells3 B0;obtain⟨d0,d1,-⟩:=cells2 B1;obtain⟨f0,f1,-⟩:=cells2 B2;clear e2;go_wp2_with (go_at_call 12; refine Hid.out ?_);refine (r2_short (hX0.ext hE) 8 rfl (by omega)).mono ?_;rintro e w3 ⟨rfl,e3⟩;rw [HS0.out];replace hE:=hE.trans e3;replace B0:=e3.block B0;replace B1:=e3.block B1;replace B2:=e3.block B2;replace hsz1:=blk_lt B2;clear a0 a1 a2 d0 d1 f0 f1;obtain⟨a0,a1,a2,-⟩:=cells3 B0;obtain⟨d0,d1,-⟩:=cells2 B1;obtain⟨f0,f1,-⟩:=cells2 B2;clear e3;go_wp2_with (go_at_call 12; refine Hid.out ?_);refine (r2_short (hX1.ext hE) 8 rfl (by omega)).mono ?_;rintro e w3 ⟨rfl,e3⟩;rw [HS1.out];replace hE:=hE.trans e3;replace B0:=e3.block B0;replace B1:=e3.block B1;replace B2:=e3.block B2
 replace hsz1:=blk_lt B2;clear a0 a1 a2 d0 d1 f0 f1;obtain⟨a0,a1,a2,-⟩:=cells3 B0;obtain⟨d0,d1,-⟩:=cells2 B1;obtain⟨f0,f1,-⟩:=cells2 B2;clear e3;go_upto_region 5 with (fail);refine regI [Mn.eq (.pointer (some ⟨w.heap.size+1,0,none⟩)),Mn.eq (.int .i64 iz),Mn.eq (.pointer (some ⟨w.heap.size+1,1,none⟩)),Mn.eq (.int .i64 jz),Mn.eq (.int .i64 zi),Mn.eq (.pointer (some ⟨w.heap.size+1,0,none⟩)),Mn.eq (.int .i64 iz),Mn.eq (.pointer (some ⟨w.heap.size+1,1,none⟩)),Mn.eq (.int .i64 jz),Mn.eq (.int .i64 zj),Mn.eq (.int .i64 zi),Mn.eq (.int .i64 zj)] [some 40,some 41,some 42,some 43,some 44,some 45,some 46,some 47,some 48,some 49,some 7,some 8] [] [true,true,true,true,true,true,true,true,true,true,true,true] 0 (by kernel_rfl) ?_ ?_
 ·show ∀ i,i < 12→_
  iterate 12 refine fs ?_ ?_
  ·exact fz
  all_goals intro hl
  all_goals clear hl
  all_goals refine stp rfl ?_
  all_goals intro ac wi eI hB hA K hK
  have o4:=oOf (hB 4 (by kernel_rfl)) rfl
  rotate_left
  obtain⟨_,s40,rfl⟩:=hA 0 (by kernel_rfl) 40 rfl;have cc0:=eI.cell d0
  rotate_left
  have o4:=oOf (hB 4 (by kernel_rfl)) rfl
  rotate_left
  obtain⟨_,s42,rfl⟩:=hA 2 (by kernel_rfl) 42 rfl;have cc0:=eI.cell d1
  rotate_left
  obtain⟨_,s41,rfl⟩:=hA 1 (by kernel_rfl) 41 rfl;obtain⟨_,s43,rfl⟩:=hA 3 (by kernel_rfl) 43 rfl;clear hB hA
  ·go_simp;rw [←hzi.out];exact hK.out _ _ (Ext.refl _) rfl
  have o4:=oOf (hB 4 (by kernel_rfl)) rfl
  rotate_left
  obtain⟨_,s45,rfl⟩:=hA 5 (by kernel_rfl) 45 rfl;have cc0:=eI.cell d0
  rotate_left
  have o4:=oOf (hB 4 (by kernel_rfl)) rfl
  rotate_left
  obtain⟨_,s47,rfl⟩:=hA 7 (by kernel_rfl) 47 rfl;have cc0:=eI.cell d1
  rotate_left
  obtain⟨_,s46,rfl⟩:=hA 6 (by kernel_rfl) 46 rfl;obtain⟨_,s48,rfl⟩:=hA 8 (by kernel_rfl) 48 rfl;clear hB hA
  ·go_simp;rw [←hzj.out];exact hK.out _ _ (Ext.refl _) rfl
  obtain⟨_,s44,rfl⟩:=hA 4 (by kernel_rfl) 44 rfl
  rotate_left
  obtain⟨_,s49,rfl⟩:=hA 9 (by kernel_rfl) 49 rfl
  rotate_left
  all_goals clear hB hA
  all_goals go_simp
  all_goals exact hK.out _ _ (Ext.refl _) rfl
 intro vals wz eZ hJ;have J7:vals 10=_:=hJ 10 (by decide) (by decide);have J8:vals 11=_:=hJ 11 (by decide) (by decide);clear hJ;simp only [pr,Nat.reduceAdd,J7,J8];clear J7 J8;refine stepL_done (by kernel_rfl) ?_ _;replace hE:=hE.trans eZ;replace B0:=eZ.block B0;replace B1:=eZ.block B1;replace B2:=eZ.block B2;replace hsz1:=blk_lt B2;clear a0 a1 a2 d0 d1 f0 f1;obtain⟨a0,a1,a2,-⟩:=cells3 B0;obtain⟨d0,d1,-⟩:=cells2 B1;obtain⟨f0,f1,-⟩:=cells2 B2;clear eZ;go_wp2_with (go_at_call 45; refine Hid.out ?_);refine (n_Merge_out (h1.ext hE) (h2.ext hE) (h3.ext hE) hm0 (by omega) hn0 (by omega) HPOS.out HX.out HY.out HP.out (by omega) iz jz hz).mono ?_;rintro e w4 ⟨rfl,e4⟩;unfold nilLin;replace hE:=hE.trans e4;replace B0:=e4.block B0;replace B1:=e4.block B1;replace B2:=e4.block B2;replace hsz1:=blk_lt B2;clear a0 a1 a2 d0 d1 f0 f1;obtain⟨a0,a1,a2,-⟩:=cells3 B0;obtain⟨d0,d1,-⟩:=cells2 B1;obtain⟨f0,f1,-⟩:=cells2 B2;clear e4;go_upto_region 7 with (fail);refine boxes1 ?_;intro w5 e5 hsz5 B9;replace hE:=hE.trans e5;replace B0:=e5.block B0;replace B1:=e5.block B1;replace B2:=e5.block B2;replace hsz1:=blk_lt B2;clear a0 a1 a2 d0 d1 f0 f1;obtain⟨a0,a1,a2,-⟩:=cells3 B0;obtain⟨d0,d1,-⟩:=cells2 B1;obtain⟨f0,f1,-⟩:=cells2 B2;clear e5 hsz5;obtain⟨g9,hg9⟩:∃ g9,g9=w4.heap.size:=⟨_,rfl⟩
 rw [←hg9] at B9 ⊢;clear hg9;go_wp2_with (go_at_call 14; refine Hid.out ?_);refine (l34_checked (hI.ext hE) HF2.out HF3.out).mono ?_;rintro e w6 ⟨rfl,e6⟩;replace B9:=e6.block B9;replace hE:=hE.trans e6;replace B0:=e6.block B0;replace B1:=e6.block B1;replace B2:=e6.block B2;replace hsz1:=blk_lt B2;clear a0 a1 a2 d0 d1 f0 f1;obtain⟨a0,a1,a2,-⟩:=cells3 B0;obtain⟨d0,d1,-⟩:=cells2 B1;obtain⟨f0,f1,-⟩:=cells2 B2;clear e6;rw [HC.out];clear hz
 by_cases k1:zi < 0
 ·have t1:decide (zi < 0)=true:=by simpa using k1
  go_upto_region 10 with (fail);refine regI [Mn.eq (.int .i64 2),Mn.eq (.bool false),Mn.eq (.bool false),Mn.eq undef,Mn.eq undef,Mn.eq undef,Mn.eq undef,Mn.eq undef,Mn.eq undef,Mn.eq undef,Mn.eq undef,Mn.eq undef,Mn.eq undef,Mn.eq undef,Mn.eq undef,Mn.eq (.bool false)] [some 79,some 80,some 81,some 82,some 83,some 84,some 85,some 86,some 87,some 88,some 89,some 90,some 91,some 92,some 93,some 94] [] [true,true,true,true,true,true,true,true,true,true,true,true,true,true,true,true] 0 (by kernel_rfl) ?_ ?_
  ·show ∀ i,i < 16→_
   iterate 16 refine fs ?_ ?_
   ·exact fz
   all_goals intro hl
   all_goals clear hl
   all_goals refine stp rfl ?_
   all_goals intro ac wi eI hB hA K hK
   have o11:=oOf (hB 11 (by kernel_rfl)) rfl
   rotate_left
   obtain⟨_,s79,rfl⟩:=hA 0 (by kernel_rfl) 79 rfl
   rotate_left
   obtain⟨_,s80,rfl⟩:=hA 1 (by kernel_rfl) 80 rfl
   rotate_left
   obtain⟨_,s81,rfl⟩:=hA 2 (by kernel_rfl) 81 rfl;clear hB hA;rw [if_neg (by simp [Region.wanted,yielded,s81,undef])];exact hK.out _ _ (Ext.refl _) rfl;obtain⟨_,s81,rfl⟩:=hA 2 (by kernel_rfl) 81 rfl;clear hB hA;rw [if_neg (by simp [Region.wanted,yielded,s81,undef])];exact hK.out _ _ (Ext.refl _) rfl;obtain⟨_,s81,rfl⟩:=hA 2 (by kernel_rfl) 81 rfl;clear hB hA;rw [if_neg (by simp [Region.wanted,yielded,s81,undef])];exact hK.out _ _ (Ext.refl _) rfl;obtain⟨_,s81,rfl⟩:=hA 2 (by kernel_rfl) 81 rfl;clear hB hA;rw [if_neg (by simp [Region.wanted,yielded,s81,undef])];exact hK.out _ _ (Ext.refl _) rfl;obtain⟨_,s81,rfl⟩:=hA 2 (by kernel_rfl) 81 rfl;clear hB hA;rw [if_neg (by simp [Region.wanted,yielded,s81,undef])];exact hK.out _ _ (Ext.refl _) rfl;obtain⟨_,s81,rfl⟩:=hA 2 (by kernel_rfl) 81 rfl;clear hB hA;rw [if_neg (by simp [Region.wanted,yielded,s81,undef])];exact hK.out _ _ (Ext.refl _) rfl;obtain⟨_,s81,rfl⟩:=hA 2 (by kernel_rfl) 81 rfl;clear hB hA;rw [if_neg (by simp [Region.wanted,yielded,s81,undef])];exact hK.out _ _ (Ext.refl _) rfl;obtain⟨_,s81,rfl⟩:=hA 2 (by kernel_rfl) 81 rfl;clear hB hA;rw [if_neg (by simp [Region.wanted,yielded,s81,undef])];exact hK.out _ _ (Ext.refl _) rfl;obtain⟨_,s81,rfl⟩:=hA 2 (by kernel_rfl) 81 rfl;clear hB hA;rw [if_neg (by simp [Region.wanted,yielded,s81,undef])];exact hK.out _ _ (Ext.refl _) rfl;obtain⟨_,s81,rfl⟩:=hA 2 (by kernel_rfl) 81 rfl;clear hB hA;rw [if_neg (by simp [Region.wanted,yielded,s81,undef])]
   exact hK.out _ _ (Ext.refl _) rfl;obtain⟨_,s81,rfl⟩:=hA 2 (by kernel_rfl) 81 rfl;clear hB hA;rw [if_neg (by simp [Region.wanted,yielded,s81,undef])];exact hK.out _ _ (Ext.refl _) rfl;obtain⟨_,s81,rfl⟩:=hA 2 (by kernel_rfl) 81 rfl;clear hB hA;rw [if_neg (by simp [Region.wanted,yielded,s81,undef])];exact hK.out _ _ (Ext.refl _) rfl;obtain⟨_,s81,rfl⟩:=hA 2 (by kernel_rfl) 81 rfl;obtain⟨_,s93,rfl⟩:=hA 14 (by kernel_rfl) 93 rfl
   rotate_left
   all_goals clear hB hA
   all_goals go_simp
   all_goals exact hK.out _ _ (Ext.refl _) rfl
  intro vals wz eZ hJ;have J94:vals 15=_:=hJ 15 (by decide) (by decide);clear hJ;simp only [pr,Nat.reduceAdd,J94];clear J94;refine stepL_done (by kernel_rfl) ?_ _;replace B9:=eZ.block B9;replace hE:=hE.trans eZ;replace B0:=eZ.block B0;replace B1:=eZ.block B1;replace B2:=eZ.block B2;replace hsz1:=blk_lt B2;clear a0 a1 a2 d0 d1 f0 f1;obtain⟨a0,a1,a2,-⟩:=cells3 B0;obtain⟨d0,d1,-⟩:=cells2 B1;obtain⟨f0,f1,-⟩:=cells2 B2;obtain⟨y0,y1,y2,-⟩:=cells3 B9;go_wp2_with (go_at_call 40; refine Hid.out ?_);refine l34_none_nil.mono ?_;rintro e w9 ⟨rfl,e9⟩;go_wp2;go_ret;exact⟨rfl,hE.trans e9⟩
 have t1:decide (zi < 0)=false:=by simpa using k1
 by_cases k2:(m:Int)≤zj
 ·have t2:decide ((m:Int)≤zj)=true:=by simpa using k2
  go_upto_region 10 with (fail);refine regI [Mn.eq (.int .i64 2),Mn.eq (.bool false),Mn.eq (.bool false),Mn.eq undef,Mn.eq undef,Mn.eq undef,Mn.eq undef,Mn.eq undef,Mn.eq undef,Mn.eq undef,Mn.eq undef,Mn.eq undef,Mn.eq undef,Mn.eq undef,Mn.eq undef,Mn.eq (.bool false)] [some 79,some 80,some 81,some 82,some 83,some 84,some 85,some 86,some 87,some 88,some 89,some 90,some 91,some 92,some 93,some 94] [] [true,true,true,true,true,true,true,true,true,true,true,true,true,true,true,true] 0 (by kernel_rfl) ?_ ?_
  ·show ∀ i,i < 16→_
   iterate 16 refine fs ?_ ?_
   ·exact fz
   all_goals intro hl
   all_goals clear hl
   all_goals refine stp rfl ?_
   all_goals intro ac wi eI hB hA K hK
   have o11:=oOf (hB 11 (by kernel_rfl)) rfl
   rotate_left
   obtain⟨_,s79,rfl⟩:=hA 0 (by kernel_rfl) 79 rfl
   rotate_left
   obtain⟨_,s80,rfl⟩:=hA 1 (by kernel_rfl) 80 rfl
   rotate_left
   obtain⟨_,s81,rfl⟩:=hA 2 (by kernel_rfl) 81 rfl;clear hB hA;rw [if_neg (by simp [Region.wanted,yielded,s81,undef])];exact hK.out _ _ (Ext.refl _) rfl;obtain⟨_,s81,rfl⟩:=hA 2 (by kernel_rfl) 81 rfl;clear hB hA;rw [if_neg (by simp [Region.wanted,yielded,s81,undef])];exact hK.out _ _ (Ext.refl _) rfl;obtain⟨_,s81,rfl⟩:=hA 2 (by kernel_rfl) 81 rfl;clear hB hA;rw [if_neg (by simp [Region.wanted,yielded,s81,undef])];exact hK.out _ _ (Ext.refl _) rfl;obtain⟨_,s81,rfl⟩:=hA 2 (by kernel_rfl) 81 rfl;clear hB hA;rw [if_neg (by simp [Region.wanted,yielded,s81,undef])];exact hK.out _ _ (Ext.refl _) rfl;obtain⟨_,s81,rfl⟩:=hA 2 (by kernel_rfl) 81 rfl;clear hB hA;rw [if_neg (by simp [Region.wanted,yielded,s81,undef])];exact hK.out _ _ (Ext.refl _) rfl;obtain⟨_,s81,rfl⟩:=hA 2 (by kernel_rfl) 81 rfl;clear hB hA;rw [if_neg (by simp [Region.wanted,yielded,s81,undef])];exact hK.out _ _ (Ext.refl _) rfl;obtain⟨_,s81,rfl⟩:=hA 2 (by kernel_rfl) 81 rfl;clear hB hA;rw [if_neg (by simp [Region.wanted,yielded,s81,undef])];exact hK.out _ _ (Ext.refl _) rfl;obtain⟨_,s81,rfl⟩:=hA 2 (by kernel_rfl) 81 rfl;clear hB hA;rw [if_neg (by simp [Region.wanted,yielded,s81,undef])];exact hK.out _ _ (Ext.refl _) rfl;obtain⟨_,s81,rfl⟩:=hA 2 (by kernel_rfl) 81 rfl;clear hB hA;rw [if_neg (by simp [Region.wanted,yielded,s81,undef])];exact hK.out _ _ (Ext.refl _) rfl;obtain⟨_,s81,rfl⟩:=hA 2 (by kernel_rfl) 81 rfl;clear hB hA;rw [if_neg (by simp [Region.wanted,yielded,s81,undef])]
   exact hK.out _ _ (Ext.refl _) rfl;obtain⟨_,s81,rfl⟩:=hA 2 (by kernel_rfl) 81 rfl;clear hB hA;rw [if_neg (by simp [Region.wanted,yielded,s81,undef])];exact hK.out _ _ (Ext.refl _) rfl;obtain⟨_,s81,rfl⟩:=hA 2 (by kernel_rfl) 81 rfl;clear hB hA;rw [if_neg (by simp [Region.wanted,yielded,s81,undef])];exact hK.out _ _ (Ext.refl _) rfl;obtain⟨_,s81,rfl⟩:=hA 2 (by kernel_rfl) 81 rfl;obtain⟨_,s93,rfl⟩:=hA 14 (by kernel_rfl) 93 rfl
   rotate_left
   all_goals clear hB hA
   all_goals go_simp
   all_goals exact hK.out _ _ (Ext.refl _) rfl
  intro vals wz eZ hJ;have J94:vals 15=_:=hJ 15 (by decide) (by decide);clear hJ;simp only [pr,Nat.reduceAdd,J94];clear J94;refine stepL_done (by kernel_rfl) ?_ _;replace B9:=eZ.block B9;replace hE:=hE.trans eZ;replace B0:=eZ.block B0;replace B1:=eZ.block B1;replace B2:=eZ.block B2;replace hsz1:=blk_lt B2;clear a0 a1 a2 d0 d1 f0 f1;obtain⟨a0,a1,a2,-⟩:=cells3 B0;obtain⟨d0,d1,-⟩:=cells2 B1;obtain⟨f0,f1,-⟩:=cells2 B2;obtain⟨y0,y1,y2,-⟩:=cells3 B9;go_wp2_with (go_at_call 40; refine Hid.out ?_);refine l34_none_nil.mono ?_;rintro e w9 ⟨rfl,e9⟩;go_wp2;go_ret;exact⟨rfl,hE.trans e9⟩
 have t2:decide ((m:Int)≤zj)=false:=by simpa using k2
 have t3:(zi == zj)=true:=by
  rw [beq_iff_eq]
  rcases HZ.out with h | h | h
  ·exact absurd h k1
  ·exact absurd h k2
  ·exact h
 go_upto_region 10 with (fail);refine regI [Mn.eq (.int .i64 2),Mn.eq (.bool false),Mn.eq (.bool false),Mn.eq undef,Mn.eq undef,Mn.eq undef,Mn.eq undef,Mn.eq undef,Mn.eq undef,Mn.eq undef,Mn.eq undef,Mn.eq undef,Mn.eq undef,Mn.eq undef,Mn.eq undef,Mn.eq (.bool false)] [some 79,some 80,some 81,some 82,some 83,some 84,some 85,some 86,some 87,some 88,some 89,some 90,some 91,some 92,some 93,some 94] [] [true,true,true,true,true,true,true,true,true,true,true,true,true,true,true,true] 0 (by kernel_rfl) ?_ ?_
 ·show ∀ i,i < 16→_
  iterate 16 refine fs ?_ ?_
  ·exact fz
  all_goals intro hl
  all_goals clear hl
  all_goals refine stp rfl ?_
  all_goals intro ac wi eI hB hA K hK
  have o11:=oOf (hB 11 (by kernel_rfl)) rfl
  rotate_left
  obtain⟨_,s79,rfl⟩:=hA 0 (by kernel_rfl) 79 rfl
  rotate_left
  obtain⟨_,s80,rfl⟩:=hA 1 (by kernel_rfl) 80 rfl
  rotate_left
  obtain⟨_,s81,rfl⟩:=hA 2 (by kernel_rfl) 81 rfl;clear hB hA;rw [if_neg (by simp [Region.wanted,yielded,s81,undef])];exact hK.out _ _ (Ext.refl _) rfl;obtain⟨_,s81,rfl⟩:=hA 2 (by kernel_rfl) 81 rfl;clear hB hA;rw [if_neg (by simp [Region.wanted,yielded,s81,undef])];exact hK.out _ _ (Ext.refl _) rfl;obtain⟨_,s81,rfl⟩:=hA 2 (by kernel_rfl) 81 rfl;clear hB hA;rw [if_neg (by simp [Region.wanted,yielded,s81,undef])];exact hK.out _ _ (Ext.refl _) rfl;obtain⟨_,s81,rfl⟩:=hA 2 (by kernel_rfl) 81 rfl;clear hB hA;rw [if_neg (by simp [Region.wanted,yielded,s81,undef])];exact hK.out _ _ (Ext.refl _) rfl;obtain⟨_,s81,rfl⟩:=hA 2 (by kernel_rfl) 81 rfl;clear hB hA;rw [if_neg (by simp [Region.wanted,yielded,s81,undef])];exact hK.out _ _ (Ext.refl _) rfl;obtain⟨_,s81,rfl⟩:=hA 2 (by kernel_rfl) 81 rfl;clear hB hA;rw [if_neg (by simp [Region.wanted,yielded,s81,undef])];exact hK.out _ _ (Ext.refl _) rfl;obtain⟨_,s81,rfl⟩:=hA 2 (by kernel_rfl) 81 rfl;clear hB hA;rw [if_neg (by simp [Region.wanted,yielded,s81,undef])];exact hK.out _ _ (Ext.refl _) rfl;obtain⟨_,s81,rfl⟩:=hA 2 (by kernel_rfl) 81 rfl;clear hB hA;rw [if_neg (by simp [Region.wanted,yielded,s81,undef])];exact hK.out _ _ (Ext.refl _) rfl;obtain⟨_,s81,rfl⟩:=hA 2 (by kernel_rfl) 81 rfl;clear hB hA;rw [if_neg (by simp [Region.wanted,yielded,s81,undef])];exact hK.out _ _ (Ext.refl _) rfl;obtain⟨_,s81,rfl⟩:=hA 2 (by kernel_rfl) 81 rfl;clear hB hA;rw [if_neg (by simp [Region.wanted,yielded,s81,undef])]
  exact hK.out _ _ (Ext.refl _) rfl;obtain⟨_,s81,rfl⟩:=hA 2 (by kernel_rfl) 81 rfl;clear hB hA;rw [if_neg (by simp [Region.wanted,yielded,s81,undef])];exact hK.out _ _ (Ext.refl _) rfl;obtain⟨_,s81,rfl⟩:=hA 2 (by kernel_rfl) 81 rfl;clear hB hA;rw [if_neg (by simp [Region.wanted,yielded,s81,undef])];exact hK.out _ _ (Ext.refl _) rfl;obtain⟨_,s81,rfl⟩:=hA 2 (by kernel_rfl) 81 rfl;obtain⟨_,s93,rfl⟩:=hA 14 (by kernel_rfl) 93 rfl
  rotate_left
  all_goals clear hB hA
  all_goals go_simp
  all_goals exact hK.out _ _ (Ext.refl _) rfl
 intro vals wz eZ hJ;have J94:vals 15=_:=hJ 15 (by decide) (by decide);clear hJ;simp only [pr,Nat.reduceAdd,J94];clear J94;refine stepL_done (by kernel_rfl) ?_ _;replace B9:=eZ.block B9;replace hE:=hE.trans eZ;replace B0:=eZ.block B0;replace B1:=eZ.block B1;replace B2:=eZ.block B2;replace hsz1:=blk_lt B2;clear a0 a1 a2 d0 d1 f0 f1;obtain⟨a0,a1,a2,-⟩:=cells3 B0;obtain⟨d0,d1,-⟩:=cells2 B1;obtain⟨f0,f1,-⟩:=cells2 B2;obtain⟨y0,y1,y2,-⟩:=cells3 B9;go_wp2_with (go_at_call 40; refine Hid.out ?_);refine l34_none_nil.mono ?_;rintro e w9 ⟨rfl,e9⟩;go_wp2;go_ret;exact⟨rfl,hE.trans e9⟩
theorem merges_state {N lo hi lo0 hi0 lo1 hi1:Nat} {w:World} {A1 A2 A3 A4 A5:Option Addr} {c1 c2 c3 c4 c5 m n n0 n1:Nat} {X:Nat→Nat→Rat} {y p:Nat→Rat} {R0 R1:Nat→Raw} {Z:Lin} {iz jz:Int}
  (hI:LinV N lo hi w (.agg #[.slice A1 m c1,.slice A2 m c2,.slice A3 m c3]) Z) (hX0:LsR N lo0 hi0 w (.slice A4 n0 c4) n0 R0) (hX1:LsR N lo1 hi1 w (.slice A5 n1 c5) n1 R1) (hs:few34 8 5 Z=true) (hs0:shB 8 n0 R0=true) (hs1:shB 8 n1 R1=true) (hc:codeOf Z=0)
  (h1:MtV N lo hi w (.slice A1 m c1) m n X) (h2:LsV N lo hi w (.slice A2 m c2) m y) (h3:LsV N lo hi w (.slice A3 m c3) m p) (hm0:0 < m) (hm:m≤8) (hn0:0 < n) (hn:n≤5) (hpos:∀ i,i < m→0 < p i)
  (hkx:HtM m n 17 X) (hky:HtL m 17 y) (hkp:HtL m 17 p)
  {a b:Nat} (hab:a < b) (hb:b < m) (hz:(iz=(a:Int)∧jz=(b:Int))∨(iz=(b:Int)∧jz=(a:Int))) (hr:allB n (fun c=>decide (X a c=X b c))=false) :
  Calls Tryz.prog 8 #[.agg #[.slice A1 m c1,.slice A2 m c2,.slice A3 m c3],.agg #[.int .i64 iz,.int .i64 jz],.agg #[.slice A4 n0 c4,.slice A5 n1 c5]] w (RetV w (.bool true)):=by
 obtain⟨f1,f2,f3⟩:=few34_sz hs;have HS:=Lib.hid hs;have HS0:=Lib.hid hs0;have HS1:=Lib.hid hs1;have HC:=Lib.hid hc;have HF2:=Lib.hid f2;have HF3:=Lib.hid f3;have HX:=Lib.hid hkx;have HY:=Lib.hid hky;have HP:=Lib.hid hkp;have HPOS:=Lib.hid hpos;obtain⟨zi,hzi⟩:=hid_eq (if jz < iz then jz else iz);obtain⟨zj,hzj⟩:=hid_eq (if iz < jz then jz else iz);have HRR:=Lib.hid hr;have HSX:Hid (∀ i,i < m→∀ c,c < n→Sz (X i c)):=fun i hi c hc=>(hkx i hi c hc).sz (by omega)
 have HSD:Hid (∀ c,c < n→Sz (X a c - X b c)):=fun c hc=>((hkx a (by omega) c hc).sub (hkx b hb c hc)).sz (by omega)
 have HZI:Hid (zi=(a:Int)∧zj=(b:Int)):=by
  rw [Hid,hzi.out,hzj.out]
  constructor <;> split <;> omega
 have HZ:=Lib.hid hz;have ham:a < m:=by omega
 clear hs hs0 hs1 hc f1 f2 f3 hkx hky hkp hpos hz hr;go_enter Tryz.func8,Tryz.ntmps8;go_wp2_with (go_at_call 10; refine Hid.out ?_);refine boxesC3 ?_;intro W hE hsz B0 B1 B2;refine (l34_known W).mono ?_;rintro e w1 ⟨rfl,e1⟩;replace hE:=hE.trans e1;replace B0:=e1.block B0;replace B1:=e1.block B1;replace B2:=e1.block B2;have hsz1:=blk_lt B2;clear e1 hsz;obtain⟨a0,a1,a2,-⟩:=cells3 B0;obtain⟨d0,d1,-⟩:=cells2 B1;obtain⟨f0,f1,-⟩:=cells2 B2;go_wp2_with (go_at_call 11; refine Hid.out ?_);refine (l34_few (hI.ext hE) 8 5 rfl rfl (by omega) (by omega)).mono ?_;rintro e w2 ⟨rfl,e2⟩;rw [HS.out];replace hE:=hE.trans e2;replace B0:=e2.block B0;replace B1:=e2.block B1;replace B2:=e2.block B2;replace hsz1:=blk_lt B2;clear a0 a1 a2 d0 d1 f0 f1;obtain⟨a0,a1,a2,-⟩:=cells3 B0;obtain⟨d0,d1,-⟩:=cells2 B1;obtain⟨f0,f1,-⟩:=cells2 B2;clear e2;go_wp2_with (go_at_call 12; refine Hid.out ?_);refine (r2_short (hX0.ext hE) 8 rfl (by omega)).mono ?_;rintro e w3 ⟨rfl,e3⟩;rw [HS0.out];replace hE:=hE.trans e3;replace B0:=e3.block B0;replace B1:=e3.block B1;replace B2:=e3.block B2;replace hsz1:=blk_lt B2;clear a0 a1 a2 d0 d1 f0 f1;obtain⟨a0,a1,a2,-⟩:=cells3 B0;obtain⟨d0,d1,-⟩:=cells2 B1;obtain⟨f0,f1,-⟩:=cells2 B2;clear e3;go_wp2_with (go_at_call 12; refine Hid.out ?_);refine (r2_short (hX1.ext hE) 8 rfl (by omega)).mono ?_;rintro e w3 ⟨rfl,e3⟩;rw [HS1.out];replace hE:=hE.trans e3;replace B0:=e3.block B0;replace B1:=e3.block B1
 replace B2:=e3.block B2;replace hsz1:=blk_lt B2;clear a0 a1 a2 d0 d1 f0 f1;obtain⟨a0,a1,a2,-⟩:=cells3 B0;obtain⟨d0,d1,-⟩:=cells2 B1;obtain⟨f0,f1,-⟩:=cells2 B2;clear e3;go_upto_region 5 with (fail);refine regI [Mn.eq (.pointer (some ⟨w.heap.size+1,0,none⟩)),Mn.eq (.int .i64 iz),Mn.eq (.pointer (some ⟨w.heap.size+1,1,none⟩)),Mn.eq (.int .i64 jz),Mn.eq (.int .i64 zi),Mn.eq (.pointer (some ⟨w.heap.size+1,0,none⟩)),Mn.eq (.int .i64 iz),Mn.eq (.pointer (some ⟨w.heap.size+1,1,none⟩)),Mn.eq (.int .i64 jz),Mn.eq (.int .i64 zj),Mn.eq (.int .i64 zi),Mn.eq (.int .i64 zj)] [some 40,some 41,some 42,some 43,some 44,some 45,some 46,some 47,some 48,some 49,some 7,some 8] [] [true,true,true,true,true,true,true,true,true,true,true,true] 0 (by kernel_rfl) ?_ ?_
 ·show ∀ i,i < 12→_
  iterate 12 refine fs ?_ ?_
  ·exact fz
  all_goals intro hl
  all_goals clear hl
  all_goals refine stp rfl ?_
  all_goals intro ac wi eI hB hA K hK
  have o4:=oOf (hB 4 (by kernel_rfl)) rfl
  rotate_left
  obtain⟨_,s40,rfl⟩:=hA 0 (by kernel_rfl) 40 rfl;have cc0:=eI.cell d0
  rotate_left
  have o4:=oOf (hB 4 (by kernel_rfl)) rfl
  rotate_left
  obtain⟨_,s42,rfl⟩:=hA 2 (by kernel_rfl) 42 rfl;have cc0:=eI.cell d1
  rotate_left
  obtain⟨_,s41,rfl⟩:=hA 1 (by kernel_rfl) 41 rfl;obtain⟨_,s43,rfl⟩:=hA 3 (by kernel_rfl) 43 rfl;clear hB hA
  ·go_simp;rw [←hzi.out];exact hK.out _ _ (Ext.refl _) rfl
  have o4:=oOf (hB 4 (by kernel_rfl)) rfl
  rotate_left
  obtain⟨_,s45,rfl⟩:=hA 5 (by kernel_rfl) 45 rfl;have cc0:=eI.cell d0
  rotate_left
  have o4:=oOf (hB 4 (by kernel_rfl)) rfl
  rotate_left
  obtain⟨_,s47,rfl⟩:=hA 7 (by kernel_rfl) 47 rfl;have cc0:=eI.cell d1
  rotate_left
  obtain⟨_,s46,rfl⟩:=hA 6 (by kernel_rfl) 46 rfl;obtain⟨_,s48,rfl⟩:=hA 8 (by kernel_rfl) 48 rfl;clear hB hA
  ·go_simp;rw [←hzj.out];exact hK.out _ _ (Ext.refl _) rfl
  obtain⟨_,s44,rfl⟩:=hA 4 (by kernel_rfl) 44 rfl
  rotate_left
  obtain⟨_,s49,rfl⟩:=hA 9 (by kernel_rfl) 49 rfl
  rotate_left
  all_goals clear hB hA
  all_goals go_simp
  all_goals exact hK.out _ _ (Ext.refl _) rfl
 intro vals wz eZ hJ;have J7:vals 10=_:=hJ 10 (by decide) (by decide);have J8:vals 11=_:=hJ 11 (by decide) (by decide);clear hJ;simp only [pr,Nat.reduceAdd,J7,J8];clear J7 J8;refine stepL_done (by kernel_rfl) ?_ _;replace hE:=hE.trans eZ;replace B0:=eZ.block B0;replace B1:=eZ.block B1;replace B2:=eZ.block B2;replace hsz1:=blk_lt B2;clear a0 a1 a2 d0 d1 f0 f1;obtain⟨a0,a1,a2,-⟩:=cells3 B0;obtain⟨d0,d1,-⟩:=cells2 B1;obtain⟨f0,f1,-⟩:=cells2 B2;clear eZ;obtain⟨rfl,rfl⟩:=HZI.out;clear hzi hzj HZI;go_wp2_with (go_at_call 45; refine Hid.out ?_);refine (n_Merge_state (h1.ext hE) (h2.ext hE) (h3.ext hE) hm0 (by omega) hn0 (by omega) HPOS.out HX.out HY.out HP.out (by omega) hab hb HZ.out HRR.out).mono ?_;rintro e w4 ⟨rfl,e4⟩;unfold nilLin;replace hE:=hE.trans e4;replace B0:=e4.block B0;replace B1:=e4.block B1;replace B2:=e4.block B2;replace hsz1:=blk_lt B2;clear a0 a1 a2 d0 d1 f0 f1;obtain⟨a0,a1,a2,-⟩:=cells3 B0;obtain⟨d0,d1,-⟩:=cells2 B1;obtain⟨f0,f1,-⟩:=cells2 B2;clear e4;go_upto_region 7 with (fail);refine boxes1 ?_;intro w5 e5 hsz5 B9;replace hE:=hE.trans e5;replace B0:=e5.block B0;replace B1:=e5.block B1;replace B2:=e5.block B2;replace hsz1:=blk_lt B2;clear a0 a1 a2 d0 d1 f0 f1;obtain⟨a0,a1,a2,-⟩:=cells3 B0;obtain⟨d0,d1,-⟩:=cells2 B1;obtain⟨f0,f1,-⟩:=cells2 B2;clear e5 hsz5;obtain⟨g9,hg9⟩:∃ g9,g9=w4.heap.size:=⟨_,rfl⟩
 rw [←hg9] at B9 ⊢;clear hg9;go_wp2_with (go_at_call 14; refine Hid.out ?_);refine (l34_checked (hI.ext hE) HF2.out HF3.out).mono ?_;rintro e w6 ⟨rfl,e6⟩;replace B9:=e6.block B9;replace hE:=hE.trans e6;replace B0:=e6.block B0;replace B1:=e6.block B1;replace B2:=e6.block B2;replace hsz1:=blk_lt B2;clear a0 a1 a2 d0 d1 f0 f1;obtain⟨a0,a1,a2,-⟩:=cells3 B0;obtain⟨d0,d1,-⟩:=cells2 B1;obtain⟨f0,f1,-⟩:=cells2 B2;clear e6;rw [HC.out];have t1:decide ((a:Int) < 0)=false:=decide_eq_false (by omega);have t2:decide ((m:Int)≤(b:Int))=false:=decide_eq_false (by omega);have t3:((a:Int) == (b:Int))=false:=beq_eq_false_iff_ne.2 (by omega);obtain⟨b1,off1,rfl,-,-,hx1⟩:=(h1.ext hE).addr hm0;obtain⟨Aa,ca,p0,-,-,hra⟩:=hx1 a (by omega);obtain⟨Ab,cb,q0,-,-,hrb⟩:=hx1 b (by omega);clear hx1;go_upto_region 10 with (fail);refine regI [Mn.eq (.int .i64 0),Mn.eq (.bool true),Mn.eq (.bool true),Mn.eq (.pointer (some ⟨w.heap.size,0,none⟩)),Mn.eq (.slice (some ⟨b1,off1,none⟩) m c1),Mn.eq (.int .i64 (a:Int)),Mn.eq (.pointer (some ⟨b1,off1+a,none⟩)),Mn.eq (.slice Aa n ca),Mn.eq (.pointer (some ⟨w.heap.size,0,none⟩)),Mn.eq (.slice (some ⟨b1,off1,none⟩) m c1),Mn.eq (.int .i64 (b:Int)),Mn.eq (.pointer (some ⟨b1,off1+b,none⟩)),Mn.eq (.slice Ab n cb),Mn.eq (.bool false),Mn.eq (.bool (!false)),Mn.eq (.bool (!false))] [some 79,some 80,some 81,some 82,some 83,some 84,some 85,some 86,some 87,some 88,some 89,some 90,some 91,some 92,some 93,some 94] [] [true,true,true,true,true,true,true,true,true,true,true,true,true,true,true,true] 0 (by kernel_rfl) ?_ ?_
 ·show ∀ i,i < 16→_
  iterate 16 refine fs ?_ ?_
  ·exact fz
  all_goals intro hl
  all_goals clear hl
  all_goals refine stp rfl ?_
  all_goals intro ac wi eI hB hA K hK
  have o11:=oOf (hB 11 (by kernel_rfl)) rfl
  rotate_left
  obtain⟨_,s79,rfl⟩:=hA 0 (by kernel_rfl) 79 rfl
  rotate_left
  obtain⟨_,s80,rfl⟩:=hA 1 (by kernel_rfl) 80 rfl
  rotate_left
  obtain⟨_,s81,rfl⟩:=hA 2 (by kernel_rfl) 81 rfl;have o3:=oOf (hB 3 (by kernel_rfl)) rfl;rw [if_pos (by simp [Region.wanted,yielded,s81])]
  rotate_left
  obtain⟨_,s81,rfl⟩:=hA 2 (by kernel_rfl) 81 rfl;obtain⟨_,s82,rfl⟩:=hA 3 (by kernel_rfl) 82 rfl;rw [if_pos (by simp [Region.wanted,yielded,s81])];have cc0:=eI.cell a0
  rotate_left
  obtain⟨_,s81,rfl⟩:=hA 2 (by kernel_rfl) 81 rfl;have o7:=oOf (hB 7 (by kernel_rfl)) rfl;rw [if_pos (by simp [Region.wanted,yielded,s81])]
  rotate_left
  obtain⟨_,s81,rfl⟩:=hA 2 (by kernel_rfl) 81 rfl;obtain⟨_,s83,rfl⟩:=hA 4 (by kernel_rfl) 83 rfl;obtain⟨_,s84,rfl⟩:=hA 5 (by kernel_rfl) 84 rfl;rw [if_pos (by simp [Region.wanted,yielded,s81])]
  rotate_left
  obtain⟨_,s81,rfl⟩:=hA 2 (by kernel_rfl) 81 rfl;obtain⟨_,s85,rfl⟩:=hA 6 (by kernel_rfl) 85 rfl;rw [if_pos (by simp [Region.wanted,yielded,s81])];have cc0:=eI.cell p0
  rotate_left
  obtain⟨_,s81,rfl⟩:=hA 2 (by kernel_rfl) 81 rfl;have o3:=oOf (hB 3 (by kernel_rfl)) rfl;rw [if_pos (by simp [Region.wanted,yielded,s81])]
  rotate_left
  obtain⟨_,s81,rfl⟩:=hA 2 (by kernel_rfl) 81 rfl;obtain⟨_,s87,rfl⟩:=hA 8 (by kernel_rfl) 87 rfl;rw [if_pos (by simp [Region.wanted,yielded,s81])];have cc0:=eI.cell a0
  rotate_left
  obtain⟨_,s81,rfl⟩:=hA 2 (by kernel_rfl) 81 rfl;have o8:=oOf (hB 8 (by kernel_rfl)) rfl;rw [if_pos (by simp [Region.wanted,yielded,s81])]
  rotate_left
  obtain⟨_,s81,rfl⟩:=hA 2 (by kernel_rfl) 81 rfl;obtain⟨_,s88,rfl⟩:=hA 9 (by kernel_rfl) 88 rfl;obtain⟨_,s89,rfl⟩:=hA 10 (by kernel_rfl) 89 rfl;rw [if_pos (by simp [Region.wanted,yielded,s81])]
  rotate_left
  obtain⟨_,s81,rfl⟩:=hA 2 (by kernel_rfl) 81 rfl;obtain⟨_,s90,rfl⟩:=hA 11 (by kernel_rfl) 90 rfl;rw [if_pos (by simp [Region.wanted,yielded,s81])];have cc0:=eI.cell q0
  rotate_left
  obtain⟨_,s81,rfl⟩:=hA 2 (by kernel_rfl) 81 rfl;obtain⟨_,s86,rfl⟩:=hA 7 (by kernel_rfl) 86 rfl;obtain⟨_,s91,rfl⟩:=hA 12 (by kernel_rfl) 91 rfl;clear hB hA;rw [if_pos (by simp [Region.wanted,yielded,s81])]
  ·go_simp;refine (r2_sameListD (hra.ext eI) (hrb.ext eI) (fun c hc=>⟨HSX.out a (by omega) c hc,HSX.out b (by omega) c hc,HSD.out c hc⟩)).mono ?_;rw [HRR.out];rintro e wj ⟨rfl,ej⟩;go_wp2_with fail;exact hK.out _ _ ej rfl
  obtain⟨_,s81,rfl⟩:=hA 2 (by kernel_rfl) 81 rfl;obtain⟨_,s92,rfl⟩:=hA 13 (by kernel_rfl) 92 rfl;rw [if_pos (by simp [Region.wanted,yielded,s81])]
  rotate_left
  obtain⟨_,s81,rfl⟩:=hA 2 (by kernel_rfl) 81 rfl;obtain⟨_,s93,rfl⟩:=hA 14 (by kernel_rfl) 93 rfl
  rotate_left
  all_goals clear hB hA
  all_goals go_simp
  all_goals exact hK.out _ _ (Ext.refl _) rfl
 intro vals wz eZ hJ;have J94:vals 15=_:=hJ 15 (by decide) (by decide);clear hJ;simp only [pr,Nat.reduceAdd,J94];clear J94;refine stepL_done (by kernel_rfl) ?_ _;replace B9:=eZ.block B9;clear p0 q0 hra hrb;replace hE:=hE.trans eZ;replace B0:=eZ.block B0;replace B1:=eZ.block B1;replace B2:=eZ.block B2;replace hsz1:=blk_lt B2;clear a0 a1 a2 d0 d1 f0 f1;obtain⟨a0,a1,a2,-⟩:=cells3 B0;obtain⟨d0,d1,-⟩:=cells2 B1;obtain⟨f0,f1,-⟩:=cells2 B2;clear eZ;clear t1 t2 t3;obtain⟨y0,y1,y2,-⟩:=cells3 B9;go_wp2_with (go_at_call 40; refine Hid.out ?_);refine l34_none_nil.mono ?_;rintro e w9 ⟨rfl,e9⟩;go_wp2;go_ret;exact⟨rfl,hE.trans e9⟩
theorem BoxR.lt {N:Nat} {w:World} {g:Nat} {q:Rat} (h:BoxR N w g q):g < w.heap.size:=by
 obtain⟨_,_,_,_,_,_,_,B,_⟩:=h;exact blk_lt B
section
variable {m n a b:Nat} {X:Nat→Nat→Rat} {y p:Nat→Rat}
theorem skip_le (hb:b < m) {j:Nat} (hj:j < m - 1):skip b j < m:=by
 have h:=skip_lt (m:=m - 1) (i:=b) hj;omega
theorem mg_htX (hkx:HtM m n 17 X) (hb:b < m):HtM (m - 1) n 110 (fun j=>X (skip b j)):=fun i hi j hj=>(hkx _ (skip_le hb hi) j hj).mono (by omega)
theorem mg_htP (hkp:HtL m 17 p) (hab:a < b) (hb:b < m):HtL (m - 1) 110 (mgP a b p):=fun i hi=>by
 unfold mgP
 split
 ·exact ((hkp a (by omega)).add (hkp b hb)).mono (by omega)
 ·exact (hkp _ (skip_le hb hi)).mono (by omega)
theorem mg_htL (hky:HtL m 17 y) (hkp:HtL m 17 p) (hab:a < b) (hb:b < m):HtL (m - 1) 110 (mgL a b y p):=fun i hi=>by
 unfold mgL
 split
 ·exact ((((hkp a (by omega)).mul (hky a (by omega))).add ((hkp b hb).mul (hky b hb))).div ((hkp a (by omega)).add (hkp b hb))).mono (by omega)
 ·exact (hky _ (skip_le hb hi)).mono (by omega)
theorem mg_nm (hab:a < b) (hb:b < m) (hA:∀ c,c < n→X a c=X b c) {i j:Nat} (hi:i < n) (hj:j < n):nmat X p m i j=nmat (fun j=>X (skip b j)) (mgP a b p) (m - 1) i j:=by
 obtain⟨k,rfl⟩:∃ k,m=k+1:=⟨m - 1,by omega⟩
 exact (merge_nm hab hb hA (fun _ _=>rfl) hi hj).symm
theorem mg_nb (hab:a < b) (hb:b < m) (hA:∀ c,c < n→X a c=X b c) (hpos:0 < p a+p b) {i:Nat} (hi:i < n):nrhs X y p m i=nrhs (fun j=>X (skip b j)) (mgL a b y p) (mgP a b p) (m - 1) i:=by
 obtain⟨k,rfl⟩:∃ k,m=k+1:=⟨m - 1,by omega⟩
 exact (merge_nb hab hb hA hpos (fun _ _=>rfl) (fun _ _=>rfl) hi).symm
theorem mg_obj (hab:a < b) (hb:b < m) (hA:∀ c,c < n→X a c=X b c) (hpos:0 < p a+p b) (x x':Nat→Rat) :
  obj m p (fun i=>av n X x i - y i) - obj (m - 1) (mgP a b p) (fun i=>av n (fun j=>X (skip b j)) x i - mgL a b y p i) =
  obj m p (fun i=>av n X x' i - y i) - obj (m - 1) (mgP a b p) (fun i=>av n (fun j=>X (skip b j)) x' i - mgL a b y p i):=by
 obtain⟨k,rfl⟩:∃ k,m=k+1:=⟨m - 1,by omega⟩
 have h1:=merge_obj hab hb hA hpos (P':=mgP a b p) (L':=mgL a b y p) (fun _ _=>rfl) (fun _ _=>rfl) x;have h2:=merge_obj hab hb hA hpos (P':=mgP a b p) (L':=mgL a b y p) (fun _ _=>rfl) (fun _ _=>rfl) x'
 show _ - obj k _ _=_ - obj k _ _
 rw [h1,h2]; grind
theorem obj_ht8 {k kx:Nat} (hm:m≤8) (hn:n≤5) (hk:k≤110) (hkx':kx≤17) (hX:HtM m n k X) (hy:HtL m k y) (hp:HtL m k p) {x:Nat→Rat} (hx:HtL n kx x) :
  Ht 20000 (obj m p (fun i=>av n X x i - y i))∧m*(k+((n*(k+kx+1)+1+k+1)+(n*(k+kx+1)+1+k+1))+1)+1≤29000000000:=by
 have h1:n*(k+kx+1)≤5*128:=Nat.mul_le_mul hn (by omega);obtain⟨K,hK⟩:∃ K,K=n*(k+kx+1)+1+k+1:=⟨_,rfl⟩
 have h2:m*(k+(K+K)+1)≤8*1700:=Nat.mul_le_mul hm (by omega);refine⟨Ht.mono (sum_ht (n:=m) (k:=k+(K+K)) (K:=m*(k+(K+K)+1)+1) (fun i hi=>(hp i hi).mul (Ht.mul ?_ ?_)) (Nat.le_refl _) (Nat.le_refl _)) (by omega),by rw [←hK]; omega⟩
 all_goals exact (Ht.sub (sum_ht (n:=n) (k:=k+kx) (K:=n*(k+kx+1)+1) (fun c hc=>(hX i hi c hc).mul (hx c hc)) (Nat.le_refl _) (Nat.le_refl _)) (hy i hi)).mono (by omega)
end
end Go.Proofs.YtccepmpebioeiaaGreat
