import Derived.Test.YthkkknjcoidioaaGreatWb39
set_option linter.all false
set_option maxHeartbeats 8000000
namespace Go.Proofs.YthkkknjcoidioaaGreat
open Go.RowKit
theorem cmp_pos (x y:Rat):decide (0 < (x.num*y.den - y.num*x.den).sign)=decide (y < x):=by
 have h:(0 < (x.num*y.den - y.num*x.den).sign)↔y < x:=by
  rw [Int.sign_pos_iff,Rat.lt_iff];omega
 by_cases h9:y < x
 ·rw [decide_eq_true h9,decide_eq_true (h.2 h9)]
 ·rw [decide_eq_false h9,decide_eq_false (fun e=>h9 (h.1 e))]
def wF (k:Nat→Bool) (t:Nat→Rat):Nat→Int
 | 0=>-1
 | i+1=>if k i=true∧(wF k t i < 0∨t (wF k t i).toNat < t i) then (i:Int) else wF k t i
theorem wF_spec (k:Nat→Bool) (t:Nat→Rat):∀ i,(wF k t i < 0→∀ j,j < i→k j=false)∧(0≤wF k t i→k (wF k t i).toNat=true∧∀ j,j < i→k j=true→t j≤t (wF k t i).toNat)
 | 0=>⟨fun _ j hj=>absurd hj (by omega),fun h=>by unfold wF at h; omega⟩
 | i+1=>by
  obtain⟨h1,h2⟩:=wF_spec k t i;unfold wF
  by_cases hc:k i=true∧(wF k t i < 0∨t (wF k t i).toNat < t i)
  ·rw [if_pos hc];refine⟨fun h=>by omega,fun _=>⟨by simpa using hc.1,fun j hj hk=>?_⟩⟩;rw [Int.toNat_natCast]
   by_cases e:j=i
   ·rw [e]; exact Rat.le_refl
   ·rcases hc.2 with h3 | h3
    ·rw [h1 h3 j (by omega)] at hk; cases hk
    ·rcases Int.lt_or_le (wF k t i) 0 with h4 | h4
     ·rw [h1 h4 j (by omega)] at hk; cases hk
     ·exact Rat.le_trans ((h2 h4).2 j (by omega) hk) (Rat.le_of_lt h3)
  ·rw [if_neg hc];refine⟨fun h j hj=>?_,fun h=>⟨(h2 h).1,fun j hj hk=>?_⟩⟩
   ·by_cases e:j=i
    ·rw [e];cases hk:k i with
     | false=>rfl
     | true=>exact absurd ⟨hk,.inl h⟩ hc
    ·exact h1 h j (by omega)
   ·by_cases e:j=i
    ·rw [e] at hk ⊢;exact Rat.not_lt.1 (fun h9=>hc ⟨hk,.inr h9⟩)
    ·exact (h2 h).2 j (by omega) hk
def wS (m n:Nat) (X:Nat→Nat→Rat) (y p:Nat→Rat):Int:=wF (kS m n X p) (zS m n X y p) m
def RetWst (N:Nat) (w:World) (m n:Nat) (X:Nat→Nat→Rat) (y p:Nat→Rat) (e:Ending) (w':World):Prop :=
 Ext w w'∧((wS m n X y p < 0∧e=.returned (.tuple #[.int .i64 0,nilRat,.int .i64 6]))∨(∃ b:Nat,wS m n X y p=(b:Int)∧b < m∧∃ v,e=.returned (.tuple #[.int .i64 (b:Int),v,.int .i64 0])∧RatV N w' v (zS m n X y p b)))
set_option maxRecDepth 100000 in
theorem sn_Worst {N lo hi lo2 hi2:Nat} {w:World} {v1 v2 v3:Value} {m n:Nat} {X:Nat→Nat→Rat} {y p:Nat→Rat} (h1:MtV N lo hi w v1 m n X) (h2:LsV N lo2 hi2 w v2 m y) (h3:LsV N lo2 hi2 w v3 m p) (d:Md m n X y p) (hr:Reg n (nmat X p m)) :
  Calls Tryz.prog 70 #[.agg #[v1,v2,v3]] w (RetWst N w m n X y p):=by
 obtain⟨Rf,hRf⟩:=hid_eq (RetWst N w m n X y p);rw [←hRf.out];have HZS:Hid (∀ i,i < m→Sz (zS m n X y p i)):=fun i hi=>(zS_ht d i hi).sz (by omega)
 have HD:=Lib.hid d;have HG:=Lib.hid hr;have hN:=h1.le;have hm0:=d.m0;have hm7:=d.m7;have hn0:=d.n0;have hn4:=d.n4;have hI1:=h1;have hI2:=h2;have hI3:=h3;obtain⟨A1,c1,rfl,hmc,hcm⟩:=h1.form;obtain⟨A2,c2,rfl,hmc2,hcm2⟩:=h2.form;obtain⟨A3,c3,rfl,hmc3,hcm3⟩:=h3.form;unfold maxLen at hcm hcm2 hcm3;clear h1 h2 h3 d hr;go_enter Tryz.func70,Tryz.ntmps70;go_upto_region 1 with (fail);refine boxes2 ?_;intro W hE hsz B0 B4;obtain⟨a0,a1,a2,-⟩:=cells3 B0;go_wp2_with (go_at_call 34; refine Hid.out ?_);refine (sn_Statistics (hI1.ext hE) (hI2.ext hE) (hI3.ext hE) HD.out HG.out).mono ?_;rintro e w1 ⟨AL,cL,AB,cB,rfl,hL,hB,e1⟩;replace hE:=hE.trans e1;replace B4:=e1.block B4;have hl4:=blk_lt B4;obtain⟨AL',cL',hv,hcL1,hcL2⟩:=hL.form;injection hv with hv1 _ hv3
 subst hv1 hv3;unfold maxLen at hcL2;obtain⟨Z,hZ⟩:=hid_eq (zS m n X y p);obtain⟨K0,hK0⟩:=hid_eq (kS m n X p);rw [←hZ.out] at hL HZS;rw [←hK0.out] at hB;obtain⟨WB,hWB⟩:=hid_eq (wF K0 Z);clear a0 a1 a2 e1 B0 hcL1;obtain⟨bL,offL,rfl,-,-,hxL⟩:=LsV.addr hL hm0;obtain⟨bB,offB,rfl,hxB⟩:=hB.addr hm0;have HXL:=Lib.hid hxL;have HXB:=Lib.hid hxB;clear hxL hxB;go_wp2
 go_loopw [23,8] (fun i vb wr=>∃ k:Nat,k≤m∧i=.int .i64 k∧Ext w1 wr∧∃ bz:Int,vb=.int .i64 bz∧Hid (bz=WB k)∧-1≤bz∧bz < (k:Int)+0) (fun i _ _=>m - (intOf i).toNat)
 case atStart=>exact⟨0,Nat.zero_le _,rfl,Ext.refl _,-1,rfl,by rw [Hid,hWB.out]; rfl,by omega,by omega⟩
 case round =>
  obtain⟨k,hk,rfl,eR,bz,rfl,HBZ,hbz1,hbz2⟩:=hrel
  by_cases hlt:k < m
  ·obtain⟨n1,A11,k11,c11,A12,k12,c12,p0,p1,p2,p3,hb1,g1,g2⟩:=((HXL.out k hlt).ext eR).open;have q0:=eR.cell (HXB.out k hlt);obtain⟨tk,htk⟩:=hid_eq (K0 k);rw [←htk.out] at q0;go_upto_region 8 with (fail);refine boxes1 ?_;intro w2 e2 hsz2 B10;replace eR:=eR.trans e2;replace q0:=e2.cell q0;have hR10:RatV N w2 (.agg #[.bool n1,.slice A11 k11 c11,.bool false,.slice A12 k12 c12]) (Z k):=RatV.mk hb1 (g1.ext e2) (g2.ext e2);obtain⟨g10,hg10⟩:∃ g10,g10=wr.heap.size:=⟨_,rfl⟩
   rw [←hg10] at B10 ⊢;clear p0 p1 p2 p3 g1 g2 hb1 hsz2 hg10 e2;obtain⟨r0,r1,r2,r3,-⟩:=cells4 B10;cases tk with
   | false =>
    have HBN:Hid (bz=WB (k+1)):=by
     rw [Hid,hWB.out]; show bz=wF K0 Z (k+1); unfold wF
     rw [←htk.out,if_neg (by simp),←hWB.out]; exact HBZ.out
    have HBD:Hid (-1≤bz∧bz < (k:Int)):=by rw [Hid]; omega
    refine regI [Mn.eq (.slice (some ⟨bB,offB,none⟩) m cB),Mn.eq (.int .i64 (k:Int)),Mn.eq (.pointer (some ⟨bB,offB+k,none⟩)),Mn.eq (.bool false),Mn.eq (.bool false),Mn.eq undef,Mn.eq undef,Mn.eq undef,Mn.eq undef,Mn.eq undef,Mn.eq undef,Mn.eq undef,Mn.eq undef,Mn.eq undef,Mn.eq undef,Mn.eq undef,Mn.eq (.bool false)] [some 28,some 29,some 30,some 31,some 32,some 33,some 34,some 35,some 36,some 37,some 38,some 39,some 40,some 41,some 42,some 43,some 44] [] [true,true,true,true,true,true,true,true,true,true,true,true,true,true,true,true,true] 0 (by kernel_rfl) ?_ ?_
    ·show ∀ i,i < 17→_
     iterate 17 refine fs ?_ ?_
     ·exact fz
     all_goals intro hl
     all_goals clear hl
     all_goals refine stp rfl ?_
     all_goals intro ac wi eI hB hA K hK
     have o6:=oOf (hB 6 (by kernel_rfl)) rfl
     rotate_left
     have o9:=oOf (hB 9 (by kernel_rfl)) rfl
     rotate_left
     obtain⟨_,s28,rfl⟩:=hA 0 (by kernel_rfl) 28 rfl;obtain⟨_,s29,rfl⟩:=hA 1 (by kernel_rfl) 29 rfl
     rotate_left
     obtain⟨_,s30,rfl⟩:=hA 2 (by kernel_rfl) 30 rfl;have cc0:=eI.cell q0
     rotate_left
     obtain⟨_,s31,rfl⟩:=hA 3 (by kernel_rfl) 31 rfl
     rotate_left
     obtain⟨_,s32,rfl⟩:=hA 4 (by kernel_rfl) 32 rfl;clear hB hA;rw [if_neg (by simp [Region.wanted,yielded,s32,undef])];exact hK.out _ _ (Ext.refl _) rfl;obtain⟨_,s32,rfl⟩:=hA 4 (by kernel_rfl) 32 rfl;clear hB hA;rw [if_neg (by simp [Region.wanted,yielded,s32,undef])];exact hK.out _ _ (Ext.refl _) rfl;obtain⟨_,s32,rfl⟩:=hA 4 (by kernel_rfl) 32 rfl;clear hB hA;rw [if_neg (by simp [Region.wanted,yielded,s32,undef])];exact hK.out _ _ (Ext.refl _) rfl;obtain⟨_,s35,rfl⟩:=hA 7 (by kernel_rfl) 35 rfl;clear hB hA;rw [if_neg (by simp [Region.wanted,yielded,s35,undef])];exact hK.out _ _ (Ext.refl _) rfl;obtain⟨_,s35,rfl⟩:=hA 7 (by kernel_rfl) 35 rfl;clear hB hA;rw [if_neg (by simp [Region.wanted,yielded,s35,undef])];exact hK.out _ _ (Ext.refl _) rfl;obtain⟨_,s35,rfl⟩:=hA 7 (by kernel_rfl) 35 rfl;clear hB hA;rw [if_neg (by simp [Region.wanted,yielded,s35,undef])];exact hK.out _ _ (Ext.refl _) rfl;obtain⟨_,s35,rfl⟩:=hA 7 (by kernel_rfl) 35 rfl;clear hB hA;rw [if_neg (by simp [Region.wanted,yielded,s35,undef])];exact hK.out _ _ (Ext.refl _) rfl;obtain⟨_,s35,rfl⟩:=hA 7 (by kernel_rfl) 35 rfl;clear hB hA;rw [if_neg (by simp [Region.wanted,yielded,s35,undef])];exact hK.out _ _ (Ext.refl _) rfl;obtain⟨_,s35,rfl⟩:=hA 7 (by kernel_rfl) 35 rfl;clear hB hA;rw [if_neg (by simp [Region.wanted,yielded,s35,undef])];exact hK.out _ _ (Ext.refl _) rfl;obtain⟨_,s35,rfl⟩:=hA 7 (by kernel_rfl) 35 rfl;clear hB hA;rw [if_neg (by simp [Region.wanted,yielded,s35,undef])]
     exact hK.out _ _ (Ext.refl _) rfl;obtain⟨_,s32,rfl⟩:=hA 4 (by kernel_rfl) 32 rfl;clear hB hA;rw [if_neg (by simp [Region.wanted,yielded,s32,undef])];exact hK.out _ _ (Ext.refl _) rfl;obtain⟨_,s32,rfl⟩:=hA 4 (by kernel_rfl) 32 rfl;obtain⟨_,s43,rfl⟩:=hA 15 (by kernel_rfl) 43 rfl
     rotate_left
     all_goals clear hB hA
     all_goals go_simp
     all_goals exact hK.out _ _ (Ext.refl _) rfl
    intro vals wz eZ hJ;have J44:vals 16=_:=hJ 16 (by decide) (by decide);clear hJ;simp only [pr,Nat.reduceAdd,J44];clear J44;refine stepL_done (by kernel_rfl) ?_ _;go_wp2;go_roundw
    case rel=>exact⟨k+1,by omega,by go_num,eR.trans eZ,_,by first | rfl | go_num,HBN,by have:=HBD.out; omega⟩
    case measure=>simp [intOf]; omega
   | true =>
    by_cases hneg:bz < 0
    ·have HBN:Hid (((k:Nat):Int)=WB (k+1)):=by
      rw [Hid,hWB.out]; show (k:Int)=wF K0 Z (k+1); unfold wF
      rw [←htk.out,if_pos ⟨rfl,.inl (by rw [←hWB.out,←HBZ.out]; exact hneg)⟩]
     have HBD:Hid (-1≤(k:Int)∧(k:Int) < (k:Int)+1):=by rw [Hid]; omega
     refine regI [Mn.eq (.slice (some ⟨bB,offB,none⟩) m cB),Mn.eq (.int .i64 (k:Int)),Mn.eq (.pointer (some ⟨bB,offB+k,none⟩)),Mn.eq (.bool true),Mn.eq (.bool true),Mn.eq (.int .i64 bz),Mn.eq (.bool true),Mn.eq (.bool true),Mn.eq undef,Mn.eq undef,Mn.eq undef,Mn.eq undef,Mn.eq undef,Mn.eq undef,Mn.eq undef,Mn.eq (.bool true),Mn.eq (.bool true)] [some 28,some 29,some 30,some 31,some 32,some 33,some 34,some 35,some 36,some 37,some 38,some 39,some 40,some 41,some 42,some 43,some 44] [] [true,true,true,true,true,true,true,true,true,true,true,true,true,true,true,true,true] 0 (by kernel_rfl) ?_ ?_
     ·show ∀ i,i < 17→_
      iterate 17 refine fs ?_ ?_
      ·exact fz
      all_goals intro hl
      all_goals clear hl
      all_goals refine stp rfl ?_
      all_goals intro ac wi eI hB hA K hK
      have o6:=oOf (hB 6 (by kernel_rfl)) rfl
      rotate_left
      have o9:=oOf (hB 9 (by kernel_rfl)) rfl
      rotate_left
      obtain⟨_,s28,rfl⟩:=hA 0 (by kernel_rfl) 28 rfl;obtain⟨_,s29,rfl⟩:=hA 1 (by kernel_rfl) 29 rfl
      rotate_left
      obtain⟨_,s30,rfl⟩:=hA 2 (by kernel_rfl) 30 rfl;have cc0:=eI.cell q0
      rotate_left
      obtain⟨_,s31,rfl⟩:=hA 3 (by kernel_rfl) 31 rfl
      rotate_left
      obtain⟨_,s32,rfl⟩:=hA 4 (by kernel_rfl) 32 rfl;have o8:=oOf (hB 8 (by kernel_rfl)) rfl;rw [if_pos (by simp [Region.wanted,yielded,s32])]
      rotate_left
      obtain⟨_,s32,rfl⟩:=hA 4 (by kernel_rfl) 32 rfl;obtain⟨_,s33,rfl⟩:=hA 5 (by kernel_rfl) 33 rfl;rw [if_pos (by simp [Region.wanted,yielded,s32])]
      rotate_left
      obtain⟨_,s32,rfl⟩:=hA 4 (by kernel_rfl) 32 rfl;obtain⟨_,s34,rfl⟩:=hA 6 (by kernel_rfl) 34 rfl;rw [if_pos (by simp [Region.wanted,yielded,s32])]
      rotate_left
      obtain⟨_,s35,rfl⟩:=hA 7 (by kernel_rfl) 35 rfl;clear hB hA;rw [if_neg (by simp [Region.wanted,yielded,s35,undef])];exact hK.out _ _ (Ext.refl _) rfl;obtain⟨_,s35,rfl⟩:=hA 7 (by kernel_rfl) 35 rfl;clear hB hA;rw [if_neg (by simp [Region.wanted,yielded,s35,undef])];exact hK.out _ _ (Ext.refl _) rfl;obtain⟨_,s35,rfl⟩:=hA 7 (by kernel_rfl) 35 rfl;clear hB hA;rw [if_neg (by simp [Region.wanted,yielded,s35,undef])];exact hK.out _ _ (Ext.refl _) rfl;obtain⟨_,s35,rfl⟩:=hA 7 (by kernel_rfl) 35 rfl;clear hB hA;rw [if_neg (by simp [Region.wanted,yielded,s35,undef])];exact hK.out _ _ (Ext.refl _) rfl;obtain⟨_,s35,rfl⟩:=hA 7 (by kernel_rfl) 35 rfl;clear hB hA;rw [if_neg (by simp [Region.wanted,yielded,s35,undef])];exact hK.out _ _ (Ext.refl _) rfl;obtain⟨_,s35,rfl⟩:=hA 7 (by kernel_rfl) 35 rfl;clear hB hA;rw [if_neg (by simp [Region.wanted,yielded,s35,undef])];exact hK.out _ _ (Ext.refl _) rfl;obtain⟨_,s35,rfl⟩:=hA 7 (by kernel_rfl) 35 rfl;clear hB hA;rw [if_neg (by simp [Region.wanted,yielded,s35,undef])];exact hK.out _ _ (Ext.refl _) rfl;obtain⟨_,s32,rfl⟩:=hA 4 (by kernel_rfl) 32 rfl;obtain⟨_,s35,rfl⟩:=hA 7 (by kernel_rfl) 35 rfl;obtain⟨_,s42,rfl⟩:=hA 14 (by kernel_rfl) 42 rfl;rw [if_pos (by simp [Region.wanted,yielded,s32])]
      rotate_left
      obtain⟨_,s32,rfl⟩:=hA 4 (by kernel_rfl) 32 rfl;obtain⟨_,s43,rfl⟩:=hA 15 (by kernel_rfl) 43 rfl
      rotate_left
      all_goals clear hB hA
      all_goals go_simp
      all_goals exact hK.out _ _ (Ext.refl _) rfl
     intro vals wz eZ hJ;have J44:vals 16=_:=hJ 16 (by decide) (by decide);clear hJ;simp only [pr,Nat.reduceAdd,J44];clear J44;refine stepL_done (by kernel_rfl) ?_ _;go_wp2;go_roundw
     case rel=>exact⟨k+1,by omega,by go_num,eR.trans eZ,_,by first | rfl | go_num,HBN,by have:=HBD.out; omega⟩
     case measure=>simp [intOf]; omega
    ·obtain⟨b,hbz⟩:∃ b:Nat,bz=(b:Int):=⟨bz.toNat,by omega⟩
     subst hbz;obtain⟨n3,A13,k13,c13,A14,k14,c14,s0,s1,s2,s3,hb3,g3,g4⟩:=((HXL.out b (by omega)).ext eR).open;have hRb:RatV N w2 (.agg #[.bool n3,.slice A13 k13 c13,.bool false,.slice A14 k14 c14]) (Z b):=RatV.mk hb3 g3 g4;have hbm:b < m:=by omega
     clear g3 g4 hb3;obtain⟨sg,hsg⟩:=hid_eq ((Z k).num*(Z b).den - (Z b).num*(Z k).den).sign;have HS1:=Lib.hid (HZS.out k hlt);have HS2:=Lib.hid (HZS.out b hbm)
     by_cases hlt2:Z b < Z k
     ·have tg:decide (0 < sg)=true:=by rw [hsg.out,cmp_pos]; exact decide_eq_true hlt2
      have tg2:0 < sg:=of_decide_eq_true tg
      have HBN:Hid (((k:Nat):Int)=WB (k+1)):=by
       rw [Hid,hWB.out]; show (k:Int)=wF K0 Z (k+1); unfold wF
       rw [←htk.out,if_pos ⟨rfl,.inr (by rw [←hWB.out,←HBZ.out]; simpa using hlt2)⟩]
      have HBD:Hid (-1≤(k:Int)∧(k:Int) < (k:Int)+1):=by rw [Hid]; omega
      clear hlt2;refine regI [Mn.eq (.slice (some ⟨bB,offB,none⟩) m cB),Mn.eq (.int .i64 (k:Int)),Mn.eq (.pointer (some ⟨bB,offB+k,none⟩)),Mn.eq (.bool true),Mn.eq (.bool true),Mn.eq (.int .i64 (b:Int)),Mn.eq (.bool false),Mn.eq (.bool false),Mn.rat N (Z k),Mn.eq (.slice (some ⟨bL,offL,none⟩) m cL),Mn.eq (.int .i64 (b:Int)),Mn.eq (.pointer (some ⟨bL,offL+b*4,none⟩)),Mn.rat N (Z b),Mn.eq (.int .i64 sg),Mn.eq (.bool true),Mn.eq (.bool true),Mn.eq (.bool true)] [some 28,some 29,some 30,some 31,some 32,some 33,some 34,some 35,some 36,some 37,some 38,some 39,some 40,some 41,some 42,some 43,some 44] [] [true,true,true,true,true,true,true,true,true,true,true,true,true,true,true,true,true] 0 (by kernel_rfl) ?_ ?_
      ·show ∀ i,i < 17→_
       iterate 17 refine fs ?_ ?_
       ·exact fz
       all_goals intro hl
       all_goals clear hl
       all_goals refine stp rfl ?_
       all_goals intro ac wi eI hB hA K hK
       have o6:=oOf (hB 6 (by kernel_rfl)) rfl
       rotate_left
       have o9:=oOf (hB 9 (by kernel_rfl)) rfl
       rotate_left
       obtain⟨_,s28,rfl⟩:=hA 0 (by kernel_rfl) 28 rfl;obtain⟨_,s29,rfl⟩:=hA 1 (by kernel_rfl) 29 rfl
       rotate_left
       obtain⟨_,s30,rfl⟩:=hA 2 (by kernel_rfl) 30 rfl;have cc0:=eI.cell q0
       rotate_left
       obtain⟨_,s31,rfl⟩:=hA 3 (by kernel_rfl) 31 rfl
       rotate_left
       obtain⟨_,s32,rfl⟩:=hA 4 (by kernel_rfl) 32 rfl;have o8:=oOf (hB 8 (by kernel_rfl)) rfl;rw [if_pos (by simp [Region.wanted,yielded,s32])]
       rotate_left
       obtain⟨_,s32,rfl⟩:=hA 4 (by kernel_rfl) 32 rfl;obtain⟨_,s33,rfl⟩:=hA 5 (by kernel_rfl) 33 rfl;rw [if_pos (by simp [Region.wanted,yielded,s32])]
       rotate_left
       obtain⟨_,s32,rfl⟩:=hA 4 (by kernel_rfl) 32 rfl;obtain⟨_,s34,rfl⟩:=hA 6 (by kernel_rfl) 34 rfl;rw [if_pos (by simp [Region.wanted,yielded,s32])]
       rotate_left
       obtain⟨_,s35,rfl⟩:=hA 7 (by kernel_rfl) 35 rfl;have o10:=oOf (hB 10 (by kernel_rfl)) rfl;clear hB hA;rw [if_pos (by simp [Region.wanted,yielded,s35])];have cc0:=eI.cell r0;have cc1:=eI.cell r1;have cc2:=eI.cell r2;have cc3:=eI.cell r3
       ·go_simp;exact hK.out _ _ (Ext.refl _) (hR10.ext eI)
       obtain⟨_,s35,rfl⟩:=hA 7 (by kernel_rfl) 35 rfl;have o5:=oOf (hB 5 (by kernel_rfl)) rfl;rw [if_pos (by simp [Region.wanted,yielded,s35])]
       rotate_left
       obtain⟨_,s35,rfl⟩:=hA 7 (by kernel_rfl) 35 rfl;have o8:=oOf (hB 8 (by kernel_rfl)) rfl;rw [if_pos (by simp [Region.wanted,yielded,s35])]
       rotate_left
       obtain⟨_,s35,rfl⟩:=hA 7 (by kernel_rfl) 35 rfl;obtain⟨_,s37,rfl⟩:=hA 9 (by kernel_rfl) 37 rfl;obtain⟨_,s38,rfl⟩:=hA 10 (by kernel_rfl) 38 rfl;rw [if_pos (by simp [Region.wanted,yielded,s35])]
       rotate_left
       obtain⟨_,s35,rfl⟩:=hA 7 (by kernel_rfl) 35 rfl;obtain⟨_,s39,rfl⟩:=hA 11 (by kernel_rfl) 39 rfl;clear hB hA;rw [if_pos (by simp [Region.wanted,yielded,s35])];have cc0:=eI.cell s0;have cc1:=eI.cell s1;have cc2:=eI.cell s2;have cc3:=eI.cell s3
       ·go_simp;exact hK.out _ _ (Ext.refl _) (hRb.ext eI)
       obtain⟨_,s35,rfl⟩:=hA 7 (by kernel_rfl) 35 rfl;obtain⟨x36,s36,j36⟩:=hA 8 (by kernel_rfl) 36 rfl;replace j36:Mn.p (Mn.rat N (Z k)) x36 wi:=j36;obtain⟨x40,s40,j40⟩:=hA 12 (by kernel_rfl) 40 rfl;replace j40:Mn.p (Mn.rat N (Z b)) x40 wi:=j40;clear hB hA;rw [if_pos (by simp [Region.wanted,yielded,s35])]
       ·go_simp;refine (f_compare j36 j40 HS1.out HS2.out).mono ?_;rw [←hsg.out];rintro e wj ⟨rfl,ej⟩;go_wp2_with fail;exact hK.out _ _ ej rfl
       obtain⟨_,s35,rfl⟩:=hA 7 (by kernel_rfl) 35 rfl;obtain⟨_,s41,rfl⟩:=hA 13 (by kernel_rfl) 41 rfl;rw [if_pos (by simp [Region.wanted,yielded,s35])]
       rotate_left
       obtain⟨_,s32,rfl⟩:=hA 4 (by kernel_rfl) 32 rfl;obtain⟨_,s35,rfl⟩:=hA 7 (by kernel_rfl) 35 rfl;obtain⟨_,s42,rfl⟩:=hA 14 (by kernel_rfl) 42 rfl;rw [if_pos (by simp [Region.wanted,yielded,s32])]
       rotate_left
       obtain⟨_,s32,rfl⟩:=hA 4 (by kernel_rfl) 32 rfl;obtain⟨_,s43,rfl⟩:=hA 15 (by kernel_rfl) 43 rfl
       rotate_left
       all_goals clear hB hA
       all_goals go_simp
       all_goals exact hK.out _ _ (Ext.refl _) rfl
      intro vals wz eZ hJ;have J44:vals 16=_:=hJ 16 (by decide) (by decide);clear hJ;simp only [pr,Nat.reduceAdd,J44];clear J44;refine stepL_done (by kernel_rfl) ?_ _;go_wp2;go_roundw
      case rel=>exact⟨k+1,by omega,by go_num,eR.trans eZ,_,by first | rfl | go_num,HBN,by have:=HBD.out; omega⟩
      case measure=>simp [intOf]; omega
     ·have tg:decide (0 < sg)=false:=by rw [hsg.out,cmp_pos]; exact decide_eq_false hlt2
      have tg2:¬ 0 < sg:=of_decide_eq_false tg
      have HBN:Hid ((b:Int)=WB (k+1)):=by
       rw [Hid,hWB.out]; show (b:Int)=wF K0 Z (k+1); unfold wF
       rw [←hWB.out,←HBZ.out,if_neg (fun h9=>by
        rcases h9.2 with h8 | h8
        ·omega
        ·exact hlt2 (by simpa using h8))]
      have HBD:Hid (-1≤(b:Int)∧(b:Int) < (k:Int)+1):=by rw [Hid]; omega
      clear hlt2;refine regI [Mn.eq (.slice (some ⟨bB,offB,none⟩) m cB),Mn.eq (.int .i64 (k:Int)),Mn.eq (.pointer (some ⟨bB,offB+k,none⟩)),Mn.eq (.bool true),Mn.eq (.bool true),Mn.eq (.int .i64 (b:Int)),Mn.eq (.bool false),Mn.eq (.bool false),Mn.rat N (Z k),Mn.eq (.slice (some ⟨bL,offL,none⟩) m cL),Mn.eq (.int .i64 (b:Int)),Mn.eq (.pointer (some ⟨bL,offL+b*4,none⟩)),Mn.rat N (Z b),Mn.eq (.int .i64 sg),Mn.eq (.bool false),Mn.eq (.bool false),Mn.eq (.bool false)] [some 28,some 29,some 30,some 31,some 32,some 33,some 34,some 35,some 36,some 37,some 38,some 39,some 40,some 41,some 42,some 43,some 44] [] [true,true,true,true,true,true,true,true,true,true,true,true,true,true,true,true,true] 0 (by kernel_rfl) ?_ ?_
      ·show ∀ i,i < 17→_
       iterate 17 refine fs ?_ ?_
       ·exact fz
       all_goals intro hl
       all_goals clear hl
       all_goals refine stp rfl ?_
       all_goals intro ac wi eI hB hA K hK
       have o6:=oOf (hB 6 (by kernel_rfl)) rfl
       rotate_left
       have o9:=oOf (hB 9 (by kernel_rfl)) rfl
       rotate_left
       obtain⟨_,s28,rfl⟩:=hA 0 (by kernel_rfl) 28 rfl;obtain⟨_,s29,rfl⟩:=hA 1 (by kernel_rfl) 29 rfl
       rotate_left
       obtain⟨_,s30,rfl⟩:=hA 2 (by kernel_rfl) 30 rfl;have cc0:=eI.cell q0
       rotate_left
       obtain⟨_,s31,rfl⟩:=hA 3 (by kernel_rfl) 31 rfl
       rotate_left
       obtain⟨_,s32,rfl⟩:=hA 4 (by kernel_rfl) 32 rfl;have o8:=oOf (hB 8 (by kernel_rfl)) rfl;rw [if_pos (by simp [Region.wanted,yielded,s32])]
       rotate_left
       obtain⟨_,s32,rfl⟩:=hA 4 (by kernel_rfl) 32 rfl;obtain⟨_,s33,rfl⟩:=hA 5 (by kernel_rfl) 33 rfl;rw [if_pos (by simp [Region.wanted,yielded,s32])]
       rotate_left
       obtain⟨_,s32,rfl⟩:=hA 4 (by kernel_rfl) 32 rfl;obtain⟨_,s34,rfl⟩:=hA 6 (by kernel_rfl) 34 rfl;rw [if_pos (by simp [Region.wanted,yielded,s32])]
       rotate_left
       obtain⟨_,s35,rfl⟩:=hA 7 (by kernel_rfl) 35 rfl;have o10:=oOf (hB 10 (by kernel_rfl)) rfl;clear hB hA;rw [if_pos (by simp [Region.wanted,yielded,s35])];have cc0:=eI.cell r0;have cc1:=eI.cell r1;have cc2:=eI.cell r2;have cc3:=eI.cell r3
       ·go_simp;exact hK.out _ _ (Ext.refl _) (hR10.ext eI)
       obtain⟨_,s35,rfl⟩:=hA 7 (by kernel_rfl) 35 rfl;have o5:=oOf (hB 5 (by kernel_rfl)) rfl;rw [if_pos (by simp [Region.wanted,yielded,s35])]
       rotate_left
       obtain⟨_,s35,rfl⟩:=hA 7 (by kernel_rfl) 35 rfl;have o8:=oOf (hB 8 (by kernel_rfl)) rfl;rw [if_pos (by simp [Region.wanted,yielded,s35])]
       rotate_left
       obtain⟨_,s35,rfl⟩:=hA 7 (by kernel_rfl) 35 rfl;obtain⟨_,s37,rfl⟩:=hA 9 (by kernel_rfl) 37 rfl;obtain⟨_,s38,rfl⟩:=hA 10 (by kernel_rfl) 38 rfl;rw [if_pos (by simp [Region.wanted,yielded,s35])]
       rotate_left
       obtain⟨_,s35,rfl⟩:=hA 7 (by kernel_rfl) 35 rfl;obtain⟨_,s39,rfl⟩:=hA 11 (by kernel_rfl) 39 rfl;clear hB hA;rw [if_pos (by simp [Region.wanted,yielded,s35])];have cc0:=eI.cell s0;have cc1:=eI.cell s1;have cc2:=eI.cell s2;have cc3:=eI.cell s3
       ·go_simp;exact hK.out _ _ (Ext.refl _) (hRb.ext eI)
       obtain⟨_,s35,rfl⟩:=hA 7 (by kernel_rfl) 35 rfl;obtain⟨x36,s36,j36⟩:=hA 8 (by kernel_rfl) 36 rfl;replace j36:Mn.p (Mn.rat N (Z k)) x36 wi:=j36;obtain⟨x40,s40,j40⟩:=hA 12 (by kernel_rfl) 40 rfl;replace j40:Mn.p (Mn.rat N (Z b)) x40 wi:=j40;clear hB hA;rw [if_pos (by simp [Region.wanted,yielded,s35])]
       ·go_simp;refine (f_compare j36 j40 HS1.out HS2.out).mono ?_;rw [←hsg.out];rintro e wj ⟨rfl,ej⟩;go_wp2_with fail;exact hK.out _ _ ej rfl
       obtain⟨_,s35,rfl⟩:=hA 7 (by kernel_rfl) 35 rfl;obtain⟨_,s41,rfl⟩:=hA 13 (by kernel_rfl) 41 rfl;rw [if_pos (by simp [Region.wanted,yielded,s35])]
       rotate_left
       obtain⟨_,s32,rfl⟩:=hA 4 (by kernel_rfl) 32 rfl;obtain⟨_,s35,rfl⟩:=hA 7 (by kernel_rfl) 35 rfl;obtain⟨_,s42,rfl⟩:=hA 14 (by kernel_rfl) 42 rfl;rw [if_pos (by simp [Region.wanted,yielded,s32])]
       rotate_left
       obtain⟨_,s32,rfl⟩:=hA 4 (by kernel_rfl) 32 rfl;obtain⟨_,s43,rfl⟩:=hA 15 (by kernel_rfl) 43 rfl
       rotate_left
       all_goals clear hB hA
       all_goals go_simp
       all_goals exact hK.out _ _ (Ext.refl _) rfl
      intro vals wz eZ hJ;have J44:vals 16=_:=hJ 16 (by decide) (by decide);clear hJ;simp only [pr,Nat.reduceAdd,J44];clear J44;refine stepL_done (by kernel_rfl) ?_ _;go_wp2;go_roundw
      case rel=>exact⟨k+1,by omega,by go_num,eR.trans eZ,_,by first | rfl | go_num,HBN,by have:=HBD.out; omega⟩
      case measure=>simp [intOf]; omega
  ·obtain rfl:m=k:=by omega
   have B4r:=eR.block B4;have hER:=hE.trans eR;have HWS:Hid (wS m n X y p=bz):=by rw [Hid,HBZ.out,hWB.out,hZ.out,hK0.out]; rfl
   by_cases hneg:bz < 0
   ·obtain⟨y0,y1,y2,y3,y4,y5,y6,y7⟩:=cells4 B4r;go_wp2;obtain⟨w6,E6,D6,U6⟩:=ex4 B4r (.bool false) (.slice none 0 0) (.bool false) (.slice none 0 0);rw [E6];have hE6:=U6.ext hER (by omega);obtain⟨x0,x1,x2,x3,-⟩:=cells4 D6;refine bodyPost_ret (v:=.tuple #[.int .i64 0,nilRat,.int .i64 6]) ?_ rfl ?_
    ·simp [results,x0,x1,x2,x3,go_sem,nilRat]
    ·rw [hRf.out];exact⟨hE6,.inl ⟨by rw [HWS.out]; exact hneg,rfl⟩⟩
   ·obtain⟨b,hbz⟩:∃ b:Nat,bz=(b:Int):=⟨bz.toNat,by omega⟩
    subst hbz;have hbm:b < m:=by omega
    obtain⟨n3,A13,k13,c13,A14,k14,c14,s0,s1,s2,s3,hb3,g3,g4⟩:=((HXL.out b hbm).ext eR).open;have hRb:RatV N wr (.agg #[.bool n3,.slice A13 k13 c13,.bool false,.slice A14 k14 c14]) (Z b):=RatV.mk hb3 g3 g4;clear g3 g4 hb3;go_upto_region 13 with (fail);refine regI [Mn.eq (.int .i64 (b:Int)),Mn.eq (.slice (some ⟨bL,offL,none⟩) m cL),Mn.eq (.int .i64 (b:Int)),Mn.eq (.pointer (some ⟨bL,offL+b*4,none⟩)),Mn.rat N (Z b),Mn.eq (.int .i64 (b:Int)),Mn.any,Mn.any] [some 50,some 51,some 52,some 53,some 54,some 2,none,some 4] [6,7] [true,true,true,true,true,true,false,false] 2 (by kernel_rfl) ?_ ?_
    ·show ∀ i,i < 8→_
     iterate 8 refine fs ?_ ?_
     ·exact fz
     all_goals intro hl
     all_goals first | exact absurd hl (by decide) | skip
     all_goals clear hl
     all_goals refine stp rfl ?_
     all_goals intro ac wi eI hB hA K hK
     have o8:=oOf (hB 8 (by kernel_rfl)) rfl
     rotate_left
     have o5:=oOf (hB 5 (by kernel_rfl)) rfl
     rotate_left
     have o8:=oOf (hB 8 (by kernel_rfl)) rfl
     rotate_left
     obtain⟨_,s51,rfl⟩:=hA 1 (by kernel_rfl) 51 rfl;obtain⟨_,s52,rfl⟩:=hA 2 (by kernel_rfl) 52 rfl
     rotate_left
     obtain⟨_,s53,rfl⟩:=hA 3 (by kernel_rfl) 53 rfl;clear hB hA;have cc0:=eI.cell s0;have cc1:=eI.cell s1;have cc2:=eI.cell s2;have cc3:=eI.cell s3
     ·go_simp;exact hK.out _ _ (Ext.refl _) (hRb.ext eI)
     obtain⟨_,s50,rfl⟩:=hA 0 (by kernel_rfl) 50 rfl
     rotate_left
     all_goals clear hB hA
     all_goals go_simp
     all_goals exact hK.out _ _ (Ext.refl _) rfl
    intro vals wz eZ hJ;have J54:Mn.p (Mn.rat N (Z b)) (vals 4) wz:=hJ 4 (by decide) (by decide);have J2:vals 5=_:=hJ 5 (by decide) (by decide);clear hJ;simp only [pr,Nat.reduceAdd,J2];clear J2
    generalize vals 4=z54 at J54 ⊢
    obtain⟨bz9,Az,kz,cz,Az',kz',cz',rfl,hbz9,gz1,gz2⟩:=RatV.parts J54;replace B4r:=eZ.block B4r;replace hER:=hER.trans eZ;obtain⟨y0,y1,y2,y3,y4,y5,y6,y7⟩:=cells4 B4r;refine stepL_late (i:=6) rfl (by kernel_rfl) (by kernel_rfl) (fun K hK=>?_);go_simp;refine hK.out _ _ ?_;clear hK K;try simp only [nr]
    refine stepL_late (i:=7) rfl (by kernel_rfl) (by kernel_rfl) (fun K hK=>?_);go_simp;refine hK.out _ _ ?_;clear hK K;try simp only [nr]
    refine stepL_done (by kernel_rfl) ?_ _;obtain⟨w6,E6,D6,U6⟩:=ex4 B4r (.bool bz9) (.slice Az kz cz) (.bool false) (.slice Az' kz' cz');rw [E6];have hE6:=U6.ext hER (by omega);obtain⟨x0,x1,x2,x3,-⟩:=cells4 D6;go_wp2;refine bodyPost_ret (v:=.tuple #[.int .i64 (b:Int),.agg #[.bool bz9,.slice Az kz cz,.bool false,.slice Az' kz' cz'],.int .i64 0]) ?_ rfl ?_
    ·simp [results,x0,x1,x2,x3,go_sem]
    ·rw [hRf.out];refine⟨hE6,.inr ⟨b,HWS.out,hbm,_,rfl,?_⟩⟩;rw [←hZ.out];exact RatV.mk hbz9 (gz1.upd U6 (by omega) (NoU.mk B4r (by decide))) (gz2.upd U6 (by omega) (NoU.mk B4r (by decide)))
end Go.Proofs.YthkkknjcoidioaaGreat
