import Derived.Test.YtccepmpebioeiaaGreatWcf01
set_option linter.all false
set_option maxHeartbeats 8000000
set_option maxRecDepth 100000
namespace Go.Proofs.YtccepmpebioeiaaGreat
open Go.RowKit
theorem adds_bad {N lo hi lo' hi':Nat} {w:World} {v:Value} {A4 A5 A6 A7 A8:Option Addr} {c4 n5 c5 n6 c6 n7 c7 n8 c8 k:Nat} {Z:Lin} {R:Nat→Raw} {RV RW:Raw} {iz:Int} (h:LinV N lo hi w v Z) (x0:LsR N lo' hi' w (.slice A4 k c4) k R)
  (gv1:Gs N w (.slice A5 n5 c5) RV.l1) (gv2:Gs N w (.slice A6 n6 c6) RV.l2) (gw1:Gs N w (.slice A7 n7 c7) RW.l1) (gw2:Gs N w (.slice A8 n8 c8) RW.l2) (hl1:RawL RV) (hl2:RawL RW)
  (hs:few34 8 5 Z=true) (hs0:shB 8 k R=true) (hd:dgn RV+dgn RW≤12) (hc:codeOf Z≠0) :
  Calls Tryz.prog 7 #[v,.agg #[.slice A4 k c4,.bool RV.b1,.slice A5 n5 c5,.bool RV.b2,.slice A6 n6 c6,.bool RW.b1,.slice A7 n7 c7,.bool RW.b2,.slice A8 n8 c8],.int .i64 iz] w (RetV w (.bool true)):=by
 have hI:=h;obtain⟨A1,c1,A2,c2,A3,c3,rfl,-⟩:=h.parts;have hX:=x0;have hVV:RawV N w (.agg #[.bool RV.b1,.slice A5 n5 c5,.bool RV.b2,.slice A6 n6 c6]) RV:=⟨_,_,rfl,gv1,gv2⟩
 have hWW:RawV N w (.agg #[.bool RW.b1,.slice A7 n7 c7,.bool RW.b2,.slice A8 n8 c8]) RW:=⟨_,_,rfl,gw1,gw2⟩
 have HL:Hid (RawL RV∧RawL RW):=⟨hl1,hl2⟩
 obtain⟨dv,hdv⟩:=hid_eq ((RV.l1.length+RV.l2.length:Nat):Int);obtain⟨dw,hdw⟩:=hid_eq ((RW.l1.length+RW.l2.length:Nat):Int);have hdv2:0≤dv∧dv≤70368744177400:=by rw [hdv.out]; have:=hl1.1; have:=hl1.2; omega
 have hdw2:0≤dw∧dw≤70368744177400:=by rw [hdw.out]; have:=hl2.1; have:=hl2.2; omega
 have hwr:IntKind.i64.wrap (dv+dw)=dv+dw:=IntWalk.i64_in _ (by omega);obtain⟨f1,f2,f3⟩:=few34_sz hs;have HS:=Lib.hid hs;have HS0:=Lib.hid hs0;have HC:=Lib.hid hc;have HF2:=Lib.hid f2;have HF3:=Lib.hid f3;have ht:decide (12 < dv+dw)=false:=by rw [decide_eq_false_iff_not,hdv.out,hdw.out]; unfold dgn at hd; omega
 obtain⟨r,hr⟩:=hid_eq (codeOf Z);have hr0:(r == 0)=false:=by rw [hr.out]; simpa using hc
 have hr1:(r != 0)=true:=by simpa using hr0
 have hr2:(r == r)=true:=by simp
 clear h hs hs0 hd hc f1 f2 f3 gv1 gv2 gw1 gw2 hl1 hl2;go_enter Tryz.func7,Tryz.ntmps7;go_wp2_with (go_at_call 10; refine Hid.out ?_);refine boxesC2 ?_;intro W hE hsz B0 B1;refine (l34_known W).mono ?_;rintro e w1 ⟨rfl,e1⟩;replace hE:=hE.trans e1;replace B0:=e1.block B0;replace B1:=e1.block B1;have hsz1:=blk_lt B1;clear e1 hsz;obtain⟨a0,a1,a2,-⟩:=cells3 B0;obtain⟨b0,b1,b2,b3,b4,b5,b6,b7,b8⟩:=cells9 B1;go_upto_region 3 with (fail);refine regI [Mn.eq (.agg #[.slice A1 Z.m c1,.slice A2 Z.nl c2,.slice A3 Z.np c3]),Mn.eq (.bool true),Mn.eq (.bool (!true)),Mn.eq (.bool (!true)),Mn.eq (.pointer (some ⟨w.heap.size+1,0,none⟩)),Mn.eq (.slice A4 k c4),Mn.eq (.bool true),Mn.eq (.bool (!true)),Mn.eq (.bool (!(true && true))),Mn.eq (.bool (!(true && true))),Mn.eq (.pointer (some ⟨w.heap.size+1,1,none⟩)),Mn.eq (.agg #[.bool RV.b1,.slice A5 n5 c5,.bool RV.b2,.slice A6 n6 c6]),Mn.eq (.int .i64 dv),Mn.eq (.pointer (some ⟨w.heap.size+1,5,none⟩)),Mn.eq (.agg #[.bool RW.b1,.slice A7 n7 c7,.bool RW.b2,.slice A8 n8 c8]),Mn.eq (.int .i64 dw),Mn.eq (.int .i64 (dv+dw)),Mn.eq (.bool false),Mn.eq (.bool false)] [some 18,some 19,some 20,some 21,some 22,some 23,some 24,some 25,some 26,some 27,some 28,some 29,some 30,some 31,some 32,some 33,some 34,some 35,some 36] [] [true,true,true,true,true,true,true,true,true,true,true,true,true,true,true,true,true,true,true] 0 (by kernel_rfl) ?_ ?_
 ·show ∀ i,i < 19→_
  iterate 19 refine fs ?_ ?_
  ·exact fz
  all_goals intro hl
  all_goals clear hl
  all_goals refine stp rfl ?_
  all_goals intro ac wi eI hB hA K hK
  have o3:=oOf (hB 3 (by kernel_rfl)) rfl;have cc0:=eI.cell a0;have cc1:=eI.cell a1;have cc2:=eI.cell a2
  rotate_left
  obtain⟨_,s18,rfl⟩:=hA 0 (by kernel_rfl) 18 rfl;clear hB hA
  ·go_simp;refine (l34_few (hI.ext (hE.trans eI)) 8 5 rfl rfl (by omega) (by omega)).mono ?_;rw [HS.out];rintro e wj ⟨rfl,ej⟩;go_wp2_with fail;exact hK.out _ _ ej rfl
  obtain⟨_,s19,rfl⟩:=hA 1 (by kernel_rfl) 19 rfl
  rotate_left
  obtain⟨_,s20,rfl⟩:=hA 2 (by kernel_rfl) 20 rfl
  rotate_left
  obtain⟨_,s21,rfl⟩:=hA 3 (by kernel_rfl) 21 rfl;have o4:=oOf (hB 4 (by kernel_rfl)) rfl;rw [if_pos (by simp [Region.wanted,yielded,s21])]
  rotate_left
  obtain⟨_,s21,rfl⟩:=hA 3 (by kernel_rfl) 21 rfl;obtain⟨_,s22,rfl⟩:=hA 4 (by kernel_rfl) 22 rfl;rw [if_pos (by simp [Region.wanted,yielded,s21])];have cc0:=eI.cell b0
  rotate_left
  obtain⟨_,s21,rfl⟩:=hA 3 (by kernel_rfl) 21 rfl;obtain⟨_,s23,rfl⟩:=hA 5 (by kernel_rfl) 23 rfl;clear hB hA;rw [if_pos (by simp [Region.wanted,yielded,s21])]
  ·go_simp;refine (r2_short (hX.ext (hE.trans eI)) 8 rfl (by omega)).mono ?_;rw [HS0.out];rintro e wj ⟨rfl,ej⟩;go_wp2_with fail;exact hK.out _ _ ej rfl
  obtain⟨_,s21,rfl⟩:=hA 3 (by kernel_rfl) 21 rfl;obtain⟨_,s24,rfl⟩:=hA 6 (by kernel_rfl) 24 rfl;rw [if_pos (by simp [Region.wanted,yielded,s21])]
  rotate_left
  obtain⟨_,s21,rfl⟩:=hA 3 (by kernel_rfl) 21 rfl;obtain⟨_,s25,rfl⟩:=hA 7 (by kernel_rfl) 25 rfl
  rotate_left
  obtain⟨_,s26,rfl⟩:=hA 8 (by kernel_rfl) 26 rfl
  rotate_left
  obtain⟨_,s27,rfl⟩:=hA 9 (by kernel_rfl) 27 rfl;have o4:=oOf (hB 4 (by kernel_rfl)) rfl;rw [if_pos (by simp [Region.wanted,yielded,s27])]
  rotate_left
  obtain⟨_,s27,rfl⟩:=hA 9 (by kernel_rfl) 27 rfl;obtain⟨_,s28,rfl⟩:=hA 10 (by kernel_rfl) 28 rfl;rw [if_pos (by simp [Region.wanted,yielded,s27])];have cc0:=eI.cell b1;have cc1:=eI.cell b2;have cc2:=eI.cell b3;have cc3:=eI.cell b4
  rotate_left
  obtain⟨_,s27,rfl⟩:=hA 9 (by kernel_rfl) 27 rfl;obtain⟨_,s29,rfl⟩:=hA 11 (by kernel_rfl) 29 rfl;clear hB hA;rw [if_pos (by simp [Region.wanted,yielded,s27])]
  ·go_simp;refine (r2_digitsN (hVV.ext (hE.trans eI)) HL.out.1).mono ?_;rw [←hdv.out];rintro e wj ⟨rfl,ej⟩;go_wp2_with fail;exact hK.out _ _ ej rfl
  obtain⟨_,s27,rfl⟩:=hA 9 (by kernel_rfl) 27 rfl;have o4:=oOf (hB 4 (by kernel_rfl)) rfl;rw [if_pos (by simp [Region.wanted,yielded,s27])]
  rotate_left
  obtain⟨_,s27,rfl⟩:=hA 9 (by kernel_rfl) 27 rfl;obtain⟨_,s31,rfl⟩:=hA 13 (by kernel_rfl) 31 rfl;rw [if_pos (by simp [Region.wanted,yielded,s27])];have cc0:=eI.cell b5;have cc1:=eI.cell b6;have cc2:=eI.cell b7;have cc3:=eI.cell b8
  rotate_left
  obtain⟨_,s27,rfl⟩:=hA 9 (by kernel_rfl) 27 rfl;obtain⟨_,s32,rfl⟩:=hA 14 (by kernel_rfl) 32 rfl;clear hB hA;rw [if_pos (by simp [Region.wanted,yielded,s27])]
  ·go_simp;refine (r2_digitsN (hWW.ext (hE.trans eI)) HL.out.2).mono ?_;rw [←hdw.out];rintro e wj ⟨rfl,ej⟩;go_wp2_with fail;exact hK.out _ _ ej rfl
  obtain⟨_,s27,rfl⟩:=hA 9 (by kernel_rfl) 27 rfl;obtain⟨_,s30,rfl⟩:=hA 12 (by kernel_rfl) 30 rfl;obtain⟨_,s33,rfl⟩:=hA 15 (by kernel_rfl) 33 rfl;rw [if_pos (by simp [Region.wanted,yielded,s27])]
  rotate_left
  obtain⟨_,s27,rfl⟩:=hA 9 (by kernel_rfl) 27 rfl;obtain⟨_,s34,rfl⟩:=hA 16 (by kernel_rfl) 34 rfl;rw [if_pos (by simp [Region.wanted,yielded,s27])]
  rotate_left
  obtain⟨_,s27,rfl⟩:=hA 9 (by kernel_rfl) 27 rfl;obtain⟨_,s35,rfl⟩:=hA 17 (by kernel_rfl) 35 rfl
  rotate_left
  all_goals clear hB hA
  all_goals go_simp
  all_goals exact hK.out _ _ (Ext.refl _) rfl
 intro vals wz eZ hJ;have J36:vals 18=_:=hJ 18 (by decide) (by decide);clear hJ;simp only [pr,Nat.reduceAdd,J36];clear J36;refine stepL_done (by kernel_rfl) ?_ _;replace hE:=hE.trans eZ;replace B0:=eZ.block B0;replace B1:=eZ.block B1;replace hsz1:=blk_lt B1;clear a0 a1 a2 b0 b1 b2 b3 b4 b5 b6 b7 b8;obtain⟨a0,a1,a2,-⟩:=cells3 B0;obtain⟨b0,b1,b2,b3,b4,b5,b6,b7,b8⟩:=cells9 B1;clear eZ;go_wp2_with (go_at_call 38; refine Hid.out ?_);refine (n_Add_bad (hI.ext hE) HF2.out HF3.out HC.out (hX.ext hE) (hVV.ext hE) (hWW.ext hE)).mono ?_;rw [←hr.out];rintro e w4 ⟨rfl,e4⟩;unfold nilLin;replace hE:=hE.trans e4;replace B0:=e4.block B0;replace B1:=e4.block B1;replace hsz1:=blk_lt B1;clear a0 a1 a2 b0 b1 b2 b3 b4 b5 b6 b7 b8;obtain⟨a0,a1,a2,-⟩:=cells3 B0;obtain⟨b0,b1,b2,b3,b4,b5,b6,b7,b8⟩:=cells9 B1;clear e4;go_upto_region 6 with (fail);refine boxes1 ?_;intro w5 e5 hsz5 B7;replace hE:=hE.trans e5;replace B0:=e5.block B0;replace B1:=e5.block B1;replace hsz1:=blk_lt B1;clear a0 a1 a2 b0 b1 b2 b3 b4 b5 b6 b7 b8;obtain⟨a0,a1,a2,-⟩:=cells3 B0;obtain⟨b0,b1,b2,b3,b4,b5,b6,b7,b8⟩:=cells9 B1;clear e5 hsz5;obtain⟨g7,hg7⟩:∃ g7,g7=w4.heap.size:=⟨_,rfl⟩
 rw [←hg7] at B7 ⊢;clear hg7;go_wp2_with (go_at_call 39; refine Hid.out ?_);refine (n_Without_bad (hI.ext hE) HF2.out HF3.out HC.out iz).mono ?_;rw [←hr.out];rintro e w6 ⟨rfl,e6⟩;unfold nilLin;replace hE:=hE.trans e6;replace B0:=e6.block B0;replace B1:=e6.block B1;replace hsz1:=blk_lt B1;clear a0 a1 a2 b0 b1 b2 b3 b4 b5 b6 b7 b8;obtain⟨a0,a1,a2,-⟩:=cells3 B0;obtain⟨b0,b1,b2,b3,b4,b5,b6,b7,b8⟩:=cells9 B1;replace B7:=e6.block B7;clear e6;go_upto_region 7 with (fail);refine boxes1 ?_;intro w7 e7 hsz7 B9;replace hE:=hE.trans e7;replace B0:=e7.block B0;replace B1:=e7.block B1;replace hsz1:=blk_lt B1;clear a0 a1 a2 b0 b1 b2 b3 b4 b5 b6 b7 b8;obtain⟨a0,a1,a2,-⟩:=cells3 B0;obtain⟨b0,b1,b2,b3,b4,b5,b6,b7,b8⟩:=cells9 B1;replace B7:=e7.block B7;clear e7 hsz7;obtain⟨g9,hg9⟩:∃ g9,g9=w6.heap.size:=⟨_,rfl⟩
 rw [←hg9] at B9 ⊢;clear hg9;go_wp2_with (go_at_call 14; refine Hid.out ?_);refine (l34_checked (hI.ext hE) HF2.out HF3.out).mono ?_;rw [←hr.out];rintro e w8 ⟨rfl,e8⟩;replace hE:=hE.trans e8;replace B0:=e8.block B0;replace B1:=e8.block B1;replace hsz1:=blk_lt B1;clear a0 a1 a2 b0 b1 b2 b3 b4 b5 b6 b7 b8;obtain⟨a0,a1,a2,-⟩:=cells3 B0;obtain⟨b0,b1,b2,b3,b4,b5,b6,b7,b8⟩:=cells9 B1;replace B7:=e8.block B7;replace B9:=e8.block B9;clear e8;obtain⟨y0,y1,y2,-⟩:=cells3 B7;go_wp2_with (go_at_call 40; refine Hid.out ?_);refine l34_none_nil.mono ?_;rintro e w9 ⟨rfl,e9⟩;replace hE:=hE.trans e9;clear y0 y1 y2;obtain⟨y0,y1,y2,-⟩:=cells3 (e9.block B9);go_wp2_with (go_at_call 40; refine Hid.out ?_);refine l34_none_nil.mono ?_;rintro e w10 ⟨rfl,e10⟩;go_wp2;go_ret;exact⟨rfl,hE.trans e10⟩
theorem mul_le8 {m a b:Nat} (hm:m≤8) (ha:a≤b):m*a≤8*b:=Nat.mul_le_mul hm ha
theorem sign_le34 {q:Rat} (h:q≤0):q.num.sign≤0:=by
 have h1:¬ 0 < q.num.sign:=fun h1=>absurd (rat_pos (Int.sign_pos_iff.1 h1)) (Rat.not_lt.2 h)
 omega
theorem sign_zero {x y:Rat}:(x - y).num.sign=0↔x=y:=by
 constructor
 ·intro h;have h1:=Int.sign_eq_zero_iff_zero.1 h;have h2:=Rat.num_eq_zero.1 h1
  grind
 ·rintro rfl;rw [Rat.sub_self]; rfl
theorem WAny.ext {N:Nat} {iz:Int} {m n:Nat} {X:Nat→Nat→Rat} {y p:Nat→Rat} {w w':World} {z:Int} {k:Nat} {A1:Option Addr} {c1:Nat} {A2:Option Addr} {c2:Nat} {A3:Option Addr} {c3:Nat} (h:WAny N iz m n X y p w z k A1 c1 A2 c2 A3 c3) (e:Ext w w'):WAny N iz m n X y p w' z k A1 c1 A2 c2 A3 c3:=by
 rcases h with h | ⟨h1,h2,h3,i,h4,h5,h6,h7,h8⟩
 ·exact .inl h
 ·exact .inr ⟨h1,h2,h3,i,h4,h5,MtV.all (h6.ext e),LsV.all (h7.ext e),LsV.all (h8.ext e)⟩
theorem AAny.ext {N m n:Nat} {X:Nat→Nat→Rat} {y p x:Nat→Rat} {V Q:Rat} {ac:Int} {w w':World} {k:Nat} {A1:Option Addr} {c1:Nat} {A2:Option Addr} {c2:Nat} {A3:Option Addr} {c3:Nat} (h:AAny N m n X y p x V Q ac w k A1 c1 A2 c2 A3 c3) (e:Ext w w'):AAny N m n X y p x V Q ac w' k A1 c1 A2 c2 A3 c3:=by
 rcases h with h | ⟨h1,h2,h6,h7,h8⟩
 ·exact .inl h
 ·exact .inr ⟨h1,h2,MtV.all (h6.ext e),LsV.all (h7.ext e),LsV.all (h8.ext e)⟩
theorem adds_main {N lo hi lo' hi':Nat} {w:World} {A1 A2 A3 A4 A5 A6 A7 A8:Option Addr} {c1 c2 c3 c4 n5 c5 n6 c6 n7 c7 n8 c8 k m n:Nat} {X:Nat→Nat→Rat} {y p:Nat→Rat} {Z:Lin} {R:Nat→Raw} {RV RW:Raw} {iz:Int}
  (hI:LinV N lo hi w (.agg #[.slice A1 m c1,.slice A2 m c2,.slice A3 m c3]) Z) (x0:LsR N lo' hi' w (.slice A4 k c4) k R)
  (gv1:Gs N w (.slice A5 n5 c5) RV.l1) (gv2:Gs N w (.slice A6 n6 c6) RV.l2) (gw1:Gs N w (.slice A7 n7 c7) RW.l1) (gw2:Gs N w (.slice A8 n8 c8) RW.l2) (hl1:RawL RV) (hl2:RawL RW)
  (hs:few34 8 5 Z=true) (hs0:shB 8 k R=true) (hd:dgn RV+dgn RW≤12) (hc:codeOf Z=0)
  (h1:MtV N lo hi w (.slice A1 m c1) m n X) (h2:LsV N lo hi w (.slice A2 m c2) m y) (h3:LsV N lo hi w (.slice A3 m c3) m p) (hm0:0 < m) (hm:m≤8) (hn0:0 < n) (hn:n≤5) (hpos:∀ i,i < m→0 < p i)
  (hkx:HtM m n 17 X) (hky:HtL m 17 y) (hkp:HtL m 17 p) :
  Calls Tryz.prog 7 #[.agg #[.slice A1 m c1,.slice A2 m c2,.slice A3 m c3],.agg #[.slice A4 k c4,.bool RV.b1,.slice A5 n5 c5,.bool RV.b2,.slice A6 n6 c6,.bool RW.b1,.slice A7 n7 c7,.bool RW.b2,.slice A8 n8 c8],.int .i64 iz] w (RetV w (.bool true)):=by
 have hX:=x0;have hVV:RawV N w (.agg #[.bool RV.b1,.slice A5 n5 c5,.bool RV.b2,.slice A6 n6 c6]) RV:=⟨_,_,rfl,gv1,gv2⟩
 have hWW:RawV N w (.agg #[.bool RW.b1,.slice A7 n7 c7,.bool RW.b2,.slice A8 n8 c8]) RW:=⟨_,_,rfl,gw1,gw2⟩
 have HL:Hid (RawL RV∧RawL RW):=⟨hl1,hl2⟩
 obtain⟨dv,hdv⟩:=hid_eq ((RV.l1.length+RV.l2.length:Nat):Int);obtain⟨dw,hdw⟩:=hid_eq ((RW.l1.length+RW.l2.length:Nat):Int);have hdv2:0≤dv∧dv≤70368744177400:=by rw [hdv.out]; have:=hl1.1; have:=hl1.2; omega
 have hdw2:0≤dw∧dw≤70368744177400:=by rw [hdw.out]; have:=hl2.1; have:=hl2.2; omega
 have hwr:IntKind.i64.wrap (dv+dw)=dv+dw:=IntWalk.i64_in _ (by omega);obtain⟨f1,f2,f3⟩:=few34_sz hs;have HS:=Lib.hid hs;have HS0:=Lib.hid hs0;have HC:=Lib.hid hc;have HF2:=Lib.hid f2;have HF3:=Lib.hid f3;have HX:=Lib.hid hkx;have HY:=Lib.hid hky;have HP:=Lib.hid hkp;have HPOS:=Lib.hid hpos;have HD:=Lib.hid hd;have HBR:Hid (∀ i,i < k→briefB (R i)=true):=(shB_all hs0).2;have hN:=h1.le;have ht:decide (12 < dv+dw)=false:=by rw [decide_eq_false_iff_not,hdv.out,hdw.out]; unfold dgn at hd; omega
 obtain⟨ac,hac⟩:=hid_eq (addCode n k R RV RW);obtain⟨ok1,hok1⟩:=hid_eq (allB k (fun i=>okR (R i)));obtain⟨ok2,hok2⟩:=hid_eq (okR RV);obtain⟨ok3,hok3⟩:=hid_eq (okR RW);have HVW:Hid (RawSz RV∧RawSz RW):=by rw [Hid]; unfold RawSz; unfold dgn at hd; omega
 clear hs hs0 hd hc f1 f2 f3 gv1 gv2 gw1 gw2 hl1 hl2 hkx hky hkp hpos;go_enter Tryz.func7,Tryz.ntmps7;go_wp2_with (go_at_call 10; refine Hid.out ?_);refine boxesC2 ?_;intro W hE hsz B0 B1;refine (l34_known W).mono ?_;rintro e w1 ⟨rfl,e1⟩;replace hE:=hE.trans e1;replace B0:=e1.block B0;replace B1:=e1.block B1;have hsz1:=blk_lt B1;clear e1 hsz;obtain⟨a0,a1,a2,-⟩:=cells3 B0;obtain⟨b0,b1,b2,b3,b4,b5,b6,b7,b8⟩:=cells9 B1;go_upto_region 3 with (fail);refine regI [Mn.eq (.agg #[.slice A1 m c1,.slice A2 m c2,.slice A3 m c3]),Mn.eq (.bool true),Mn.eq (.bool (!true)),Mn.eq (.bool (!true)),Mn.eq (.pointer (some ⟨w.heap.size+1,0,none⟩)),Mn.eq (.slice A4 k c4),Mn.eq (.bool true),Mn.eq (.bool (!true)),Mn.eq (.bool (!(true && true))),Mn.eq (.bool (!(true && true))),Mn.eq (.pointer (some ⟨w.heap.size+1,1,none⟩)),Mn.eq (.agg #[.bool RV.b1,.slice A5 n5 c5,.bool RV.b2,.slice A6 n6 c6]),Mn.eq (.int .i64 dv),Mn.eq (.pointer (some ⟨w.heap.size+1,5,none⟩)),Mn.eq (.agg #[.bool RW.b1,.slice A7 n7 c7,.bool RW.b2,.slice A8 n8 c8]),Mn.eq (.int .i64 dw),Mn.eq (.int .i64 (dv+dw)),Mn.eq (.bool false),Mn.eq (.bool false)] [some 18,some 19,some 20,some 21,some 22,some 23,some 24,some 25,some 26,some 27,some 28,some 29,some 30,some 31,some 32,some 33,some 34,some 35,some 36] [] [true,true,true,true,true,true,true,true,true,true,true,true,true,true,true,true,true,true,true] 0 (by kernel_rfl) ?_ ?_
 ·show ∀ i,i < 19→_
  iterate 19 refine fs ?_ ?_
  ·exact fz
  all_goals intro hl
  all_goals clear hl
  all_goals refine stp rfl ?_
  all_goals intro ac wi eI hB hA K hK
  have o3:=oOf (hB 3 (by kernel_rfl)) rfl;have cc0:=eI.cell a0;have cc1:=eI.cell a1;have cc2:=eI.cell a2
  rotate_left
  obtain⟨_,s18,rfl⟩:=hA 0 (by kernel_rfl) 18 rfl;clear hB hA
  ·go_simp;refine (l34_few (hI.ext (hE.trans eI)) 8 5 rfl rfl (by omega) (by omega)).mono ?_;rw [HS.out];rintro e wj ⟨rfl,ej⟩;go_wp2_with fail;exact hK.out _ _ ej rfl
  obtain⟨_,s19,rfl⟩:=hA 1 (by kernel_rfl) 19 rfl
  rotate_left
  obtain⟨_,s20,rfl⟩:=hA 2 (by kernel_rfl) 20 rfl
  rotate_left
  obtain⟨_,s21,rfl⟩:=hA 3 (by kernel_rfl) 21 rfl;have o4:=oOf (hB 4 (by kernel_rfl)) rfl;rw [if_pos (by simp [Region.wanted,yielded,s21])]
  rotate_left
  obtain⟨_,s21,rfl⟩:=hA 3 (by kernel_rfl) 21 rfl;obtain⟨_,s22,rfl⟩:=hA 4 (by kernel_rfl) 22 rfl;rw [if_pos (by simp [Region.wanted,yielded,s21])];have cc0:=eI.cell b0
  rotate_left
  obtain⟨_,s21,rfl⟩:=hA 3 (by kernel_rfl) 21 rfl;obtain⟨_,s23,rfl⟩:=hA 5 (by kernel_rfl) 23 rfl;clear hB hA;rw [if_pos (by simp [Region.wanted,yielded,s21])]
  ·go_simp;refine (r2_short (hX.ext (hE.trans eI)) 8 rfl (by omega)).mono ?_;rw [HS0.out];rintro e wj ⟨rfl,ej⟩;go_wp2_with fail;exact hK.out _ _ ej rfl
  obtain⟨_,s21,rfl⟩:=hA 3 (by kernel_rfl) 21 rfl;obtain⟨_,s24,rfl⟩:=hA 6 (by kernel_rfl) 24 rfl;rw [if_pos (by simp [Region.wanted,yielded,s21])]
  rotate_left
  obtain⟨_,s21,rfl⟩:=hA 3 (by kernel_rfl) 21 rfl;obtain⟨_,s25,rfl⟩:=hA 7 (by kernel_rfl) 25 rfl
  rotate_left
  obtain⟨_,s26,rfl⟩:=hA 8 (by kernel_rfl) 26 rfl
  rotate_left
  obtain⟨_,s27,rfl⟩:=hA 9 (by kernel_rfl) 27 rfl;have o4:=oOf (hB 4 (by kernel_rfl)) rfl;rw [if_pos (by simp [Region.wanted,yielded,s27])]
  rotate_left
  obtain⟨_,s27,rfl⟩:=hA 9 (by kernel_rfl) 27 rfl;obtain⟨_,s28,rfl⟩:=hA 10 (by kernel_rfl) 28 rfl;rw [if_pos (by simp [Region.wanted,yielded,s27])];have cc0:=eI.cell b1;have cc1:=eI.cell b2;have cc2:=eI.cell b3;have cc3:=eI.cell b4
  rotate_left
  obtain⟨_,s27,rfl⟩:=hA 9 (by kernel_rfl) 27 rfl;obtain⟨_,s29,rfl⟩:=hA 11 (by kernel_rfl) 29 rfl;clear hB hA;rw [if_pos (by simp [Region.wanted,yielded,s27])]
  ·go_simp;refine (r2_digitsN (hVV.ext (hE.trans eI)) HL.out.1).mono ?_;rw [←hdv.out];rintro e wj ⟨rfl,ej⟩;go_wp2_with fail;exact hK.out _ _ ej rfl
  obtain⟨_,s27,rfl⟩:=hA 9 (by kernel_rfl) 27 rfl;have o4:=oOf (hB 4 (by kernel_rfl)) rfl;rw [if_pos (by simp [Region.wanted,yielded,s27])]
  rotate_left
  obtain⟨_,s27,rfl⟩:=hA 9 (by kernel_rfl) 27 rfl;obtain⟨_,s31,rfl⟩:=hA 13 (by kernel_rfl) 31 rfl;rw [if_pos (by simp [Region.wanted,yielded,s27])];have cc0:=eI.cell b5;have cc1:=eI.cell b6;have cc2:=eI.cell b7;have cc3:=eI.cell b8
  rotate_left
  obtain⟨_,s27,rfl⟩:=hA 9 (by kernel_rfl) 27 rfl;obtain⟨_,s32,rfl⟩:=hA 14 (by kernel_rfl) 32 rfl;clear hB hA;rw [if_pos (by simp [Region.wanted,yielded,s27])]
  ·go_simp;refine (r2_digitsN (hWW.ext (hE.trans eI)) HL.out.2).mono ?_;rw [←hdw.out];rintro e wj ⟨rfl,ej⟩;go_wp2_with fail;exact hK.out _ _ ej rfl
  obtain⟨_,s27,rfl⟩:=hA 9 (by kernel_rfl) 27 rfl;obtain⟨_,s30,rfl⟩:=hA 12 (by kernel_rfl) 30 rfl;obtain⟨_,s33,rfl⟩:=hA 15 (by kernel_rfl) 33 rfl;rw [if_pos (by simp [Region.wanted,yielded,s27])]
  rotate_left
  obtain⟨_,s27,rfl⟩:=hA 9 (by kernel_rfl) 27 rfl;obtain⟨_,s34,rfl⟩:=hA 16 (by kernel_rfl) 34 rfl;rw [if_pos (by simp [Region.wanted,yielded,s27])]
  rotate_left
  obtain⟨_,s27,rfl⟩:=hA 9 (by kernel_rfl) 27 rfl;obtain⟨_,s35,rfl⟩:=hA 17 (by kernel_rfl) 35 rfl
  rotate_left
  all_goals clear hB hA
  all_goals go_simp
  all_goals exact hK.out _ _ (Ext.refl _) rfl
 intro vals wz eZ hJ;have J36:vals 18=_:=hJ 18 (by decide) (by decide);clear hJ;simp only [pr,Nat.reduceAdd,J36];clear J36;refine stepL_done (by kernel_rfl) ?_ _;replace hE:=hE.trans eZ;replace B0:=eZ.block B0;replace B1:=eZ.block B1;replace hsz1:=blk_lt B1;clear a0 a1 a2 b0 b1 b2 b3 b4 b5 b6 b7 b8;obtain⟨a0,a1,a2,-⟩:=cells3 B0;obtain⟨b0,b1,b2,b3,b4,b5,b6,b7,b8⟩:=cells9 B1;clear eZ;clear ht hdv2 hdw2 hwr;go_wp2_with (go_at_call 38; refine Hid.out ?_);refine (n_AddAny (h1.ext hE) (h2.ext hE) (h3.ext hE) hm0 (by omega) hn0 (by omega) HPOS.out (hX.ext hE) (hVV.ext hE) (hWW.ext hE) HX.out HY.out HP.out HBR.out HD.out).mono ?_;rw [←hac.out];rintro e w4 ⟨k7,M1,q1,M2,q2,M3,q3,rfl,e4,HA⟩;replace hE:=hE.trans e4;replace B0:=e4.block B0;replace B1:=e4.block B1;replace hsz1:=blk_lt B1;clear a0 a1 a2 b0 b1 b2 b3 b4 b5 b6 b7 b8;obtain⟨a0,a1,a2,-⟩:=cells3 B0;obtain⟨b0,b1,b2,b3,b4,b5,b6,b7,b8⟩:=cells9 B1;clear e4;go_upto_region 6 with (fail);refine boxes1 ?_;intro w5 e5 hsz5 B7;have HA5:=Lib.hid (HA.out.ext e5);clear HA;replace hE:=hE.trans e5;replace B0:=e5.block B0;replace B1:=e5.block B1;replace hsz1:=blk_lt B1;clear a0 a1 a2 b0 b1 b2 b3 b4 b5 b6 b7 b8;obtain⟨a0,a1,a2,-⟩:=cells3 B0;obtain⟨b0,b1,b2,b3,b4,b5,b6,b7,b8⟩:=cells9 B1;clear e5 hsz5;have hF:=Ext.refl w5;obtain⟨g7,hg7⟩:∃ g7,g7=w4.heap.size:=⟨_,rfl⟩
 rw [←hg7] at B7 ⊢;clear hg7;go_wp2_with (go_at_call 39; refine Hid.out ?_);refine (n_WithoutAny (h1.ext hE) (h2.ext hE) (h3.ext hE) hm0 (by omega) hn0 (by omega) HPOS.out HX.out HY.out HP.out (by omega) iz).mono ?_;rintro e w6 ⟨z9,k9,W1,r1,W2,r2,W3,r3,rfl,e6,HW⟩;replace hE:=hE.trans e6;replace B0:=e6.block B0;replace B1:=e6.block B1;replace hsz1:=blk_lt B1;clear a0 a1 a2 b0 b1 b2 b3 b4 b5 b6 b7 b8;obtain⟨a0,a1,a2,-⟩:=cells3 B0;obtain⟨b0,b1,b2,b3,b4,b5,b6,b7,b8⟩:=cells9 B1;replace B7:=e6.block B7;replace hF:=hF.trans e6;clear e6;go_upto_region 7 with (fail);refine boxes1 ?_;intro w7 e7 hsz7 B9;have HW7:=Lib.hid (HW.out.ext e7);clear HW;replace hE:=hE.trans e7;replace B0:=e7.block B0;replace B1:=e7.block B1;replace hsz1:=blk_lt B1;clear a0 a1 a2 b0 b1 b2 b3 b4 b5 b6 b7 b8;obtain⟨a0,a1,a2,-⟩:=cells3 B0;obtain⟨b0,b1,b2,b3,b4,b5,b6,b7,b8⟩:=cells9 B1;replace B7:=e7.block B7;replace hF:=hF.trans e7;clear e7 hsz7;have hG:=Ext.refl w7;obtain⟨g9,hg9⟩:∃ g9,g9=w6.heap.size:=⟨_,rfl⟩
 rw [←hg9] at B9 ⊢;clear hg9;go_wp2_with (go_at_call 14; refine Hid.out ?_);refine (l34_checked (hI.ext hE) HF2.out HF3.out).mono ?_;rw [HC.out];rintro e w8 ⟨rfl,e8⟩;replace hE:=hE.trans e8;replace B0:=e8.block B0;replace B1:=e8.block B1;replace hsz1:=blk_lt B1;clear a0 a1 a2 b0 b1 b2 b3 b4 b5 b6 b7 b8;obtain⟨a0,a1,a2,-⟩:=cells3 B0;obtain⟨b0,b1,b2,b3,b4,b5,b6,b7,b8⟩:=cells9 B1;replace B7:=e8.block B7;replace B9:=e8.block B9;replace hF:=hF.trans e8;replace hG:=hG.trans e8;clear e8
 go_upto_block 0 with (fail)
 go_cut [] (fun wc=>Ext w8 wc)
 case first =>
  rcases HW7.out with (⟨hr,rfl,rfl,rfl,rfl,rfl,rfl,rfl,rfl⟩ | ⟨hm1,rfl,rfl,rfl,rfl,rfl,rfl,rfl,rfl,rfl⟩) | ⟨hm1,rfl,rfl,i,rfl,him,i1,i2,i3⟩
  ·clear HW7;obtain⟨y0,y1,y2,-⟩:=cells3 B9
   by_cases hz:iz < 0
   ·have t1:decide (iz < 0)=true:=by simpa using hz
    clear hr hz;go_wp2_with (go_at_call 40; refine Hid.out ?_);refine l34_none_nil.mono ?_;rintro e wx ⟨rfl,ex⟩;go_wp2_with fail
    go_meet
    exact ex
   ·have t1:decide (iz < 0)=false:=by simpa using hz
    have t2:decide ((m:Int)≤iz)=true:=by rw [decide_eq_true_eq]; omega
    clear hr hz;go_wp2_with (go_at_call 40; refine Hid.out ?_);refine l34_none_nil.mono ?_;rintro e wx ⟨rfl,ex⟩;go_wp2_with fail
    go_meet
    exact ex
  ·clear HW7;obtain⟨y0,y1,y2,-⟩:=cells3 B9;have t2:decide ((m:Int)≤0)=false:=by rw [decide_eq_false_iff_not]; omega
   have t3:((m:Int) == 1)=true:=by rw [hm1]; rfl
   clear hm1;go_wp2_with (go_at_call 40; refine Hid.out ?_);refine l34_none_nil.mono ?_;rintro e wx ⟨rfl,ex⟩;go_wp2_with fail
   go_meet
   exact ex
  ·clear HW7;obtain⟨y0,y1,y2,-⟩:=cells3 B9;have t1:decide ((i:Int) < 0)=false:=by rw [decide_eq_false_iff_not]; omega
   have t2:decide ((m:Int)≤(i:Int))=false:=by rw [decide_eq_false_iff_not]; omega
   have t3:((m:Int) == 1)=false:=beq_eq_false_iff_ne.2 (by omega);go_upto_region 10 with (fail);refine regI [Mn.eq (.int .i64 0),Mn.eq (.bool false),Mn.eq (.bool false),Mn.eq (.agg #[.slice W1 (m - 1) r1,.slice W2 (m - 1) r2,.slice W3 (m - 1) r3]),Mn.eq (.agg #[.slice A1 m c1,.slice A2 m c2,.slice A3 m c3]),Mn.eq (.int .i64 (i:Int)),Mn.lin N (m - 1) n (fun j=>X (skip i j)) (fun j=>y (skip i j)) (fun j=>p (skip i j)),Mn.eq (.bool true),Mn.eq (.bool false),Mn.eq (.bool false)] [some 74,some 75,some 76,some 77,some 78,some 79,some 80,some 81,some 82,some 83] [] [true,true,true,true,true,true,true,true,true,true] 0 (by kernel_rfl) ?_ ?_
   ·show ∀ i,i < 10→_
    iterate 10 refine fs ?_ ?_
    ·exact fz
    all_goals intro hl
    all_goals clear hl
    all_goals refine stp rfl ?_
    all_goals intro ac wi eI hB hA K hK
    have o10:=oOf (hB 10 (by kernel_rfl)) rfl
    rotate_left
    obtain⟨_,s74,rfl⟩:=hA 0 (by kernel_rfl) 74 rfl
    rotate_left
    obtain⟨_,s75,rfl⟩:=hA 1 (by kernel_rfl) 75 rfl
    rotate_left
    obtain⟨_,s76,rfl⟩:=hA 2 (by kernel_rfl) 76 rfl;have o9:=oOf (hB 9 (by kernel_rfl)) rfl;rw [if_pos (by simp [Region.wanted,yielded,s76])];have cc0:=eI.cell y0;have cc1:=eI.cell y1;have cc2:=eI.cell y2
    rotate_left
    obtain⟨_,s76,rfl⟩:=hA 2 (by kernel_rfl) 76 rfl;have o3:=oOf (hB 3 (by kernel_rfl)) rfl;rw [if_pos (by simp [Region.wanted,yielded,s76])];have cc0:=eI.cell a0;have cc1:=eI.cell a1;have cc2:=eI.cell a2
    rotate_left
    obtain⟨_,s76,rfl⟩:=hA 2 (by kernel_rfl) 76 rfl;have o2:=oOf (hB 2 (by kernel_rfl)) rfl;rw [if_pos (by simp [Region.wanted,yielded,s76])]
    rotate_left
    obtain⟨_,s76,rfl⟩:=hA 2 (by kernel_rfl) 76 rfl;obtain⟨_,s78,rfl⟩:=hA 4 (by kernel_rfl) 78 rfl;obtain⟨_,s79,rfl⟩:=hA 5 (by kernel_rfl) 79 rfl;clear hB hA;rw [if_pos (by simp [Region.wanted,yielded,s76])]
    ·go_simp;refine (l34_without (h1.ext (hE.trans eI)) (h2.ext (hE.trans eI)) (h3.ext (hE.trans eI)) hm1 (by omega) hn0 (by omega) rfl him).mono ?_;rintro e wj ⟨O1,o1,O2,o2,O3,o3,rfl,j1,j2,j3,ej⟩;go_wp2_with fail;exact hK.out _ _ ej ⟨_,_,_,rfl,j1,j2,j3⟩
    obtain⟨_,s76,rfl⟩:=hA 2 (by kernel_rfl) 76 rfl;obtain⟨_,s77,rfl⟩:=hA 3 (by kernel_rfl) 77 rfl;obtain⟨x80,s80,j80⟩:=hA 6 (by kernel_rfl) 80 rfl;replace j80:Mn.p (Mn.lin N (m - 1) n (fun j=>X (skip i j)) (fun j=>y (skip i j)) (fun j=>p (skip i j))) x80 wi:=j80;clear hB hA;rw [if_pos (by simp [Region.wanted,yielded,s76])]
    ·obtain⟨o1,o2,o3,rfl,j1,j2,j3⟩:=j80;go_simp;refine (l34_same (MtV.all (i1.ext (hG.trans eI))) (LsV.all (i2.ext (hG.trans eI))) (LsV.all (i3.ext (hG.trans eI))) j1 j2 j3 (fun _ _ _ _=>rfl) (fun _ _=>rfl) (fun _ _=>rfl) (fun a ha b hb=>(HX.out _ (skip_le him ha) b hb).sz (by omega)) (fun a ha=>(HY.out _ (skip_le him ha)).sz (by omega)) (fun a ha=>(HP.out _ (skip_le him ha)).sz (by omega))).mono ?_;rintro e wj ⟨rfl,ej⟩;go_wp2_with fail;exact hK.out _ _ ej rfl
    obtain⟨_,s76,rfl⟩:=hA 2 (by kernel_rfl) 76 rfl;obtain⟨_,s81,rfl⟩:=hA 7 (by kernel_rfl) 81 rfl;rw [if_pos (by simp [Region.wanted,yielded,s76])]
    rotate_left
    obtain⟨_,s76,rfl⟩:=hA 2 (by kernel_rfl) 76 rfl;obtain⟨_,s82,rfl⟩:=hA 8 (by kernel_rfl) 82 rfl
    rotate_left
    all_goals clear hB hA
    all_goals go_simp
    all_goals exact hK.out _ _ (Ext.refl _) rfl
   intro vals wz eZ hJ;have J83:vals 9=_:=hJ 9 (by decide) (by decide);clear hJ;simp only [pr,Nat.reduceAdd,J83];clear J83;refine stepL_done (by kernel_rfl) ?_ _;go_wp2_with fail
   go_meet
   exact eZ
 case rest =>
  have eC:Ext w8 wc:=hcut;clear hcut;replace B7:=eC.block B7;replace hF:=hF.trans eC;replace hE:=hE.trans eC;replace B0:=eC.block B0;replace B1:=eC.block B1;replace hsz1:=blk_lt B1;clear a0 a1 a2 b0 b1 b2 b3 b4 b5 b6 b7 b8;obtain⟨a0,a1,a2,-⟩:=cells3 B0;obtain⟨b0,b1,b2,b3,b4,b5,b6,b7,b8⟩:=cells9 B1;clear eC HW7 B9 hG;go_wp2_with (go_at_call 17; refine Hid.out ?_);refine (r2_validList (hX.ext hE) (fun i hi=>(brief_raw (HBR.out i hi)).1)).mono ?_;rw [←hok1.out];rintro e w10 ⟨rfl,e10⟩;replace B7:=e10.block B7;replace hF:=hF.trans e10;replace hE:=hE.trans e10;replace B0:=e10.block B0;replace B1:=e10.block B1;replace hsz1:=blk_lt B1;clear a0 a1 a2 b0 b1 b2 b3 b4 b5 b6 b7 b8;obtain⟨a0,a1,a2,-⟩:=cells3 B0;obtain⟨b0,b1,b2,b3,b4,b5,b6,b7,b8⟩:=cells9 B1;clear e10;have HAD:Hid (ac=if (ok1 && (ok2 && ok3))=false then 1 else if k≠n then 4 else if ratOf RW≤0 then 2 else 0):=by rw [Hid,hac.out,hok1.out,hok2.out,hok3.out]; rfl
  clear hac;cases hb:ok1 with
  | false =>
   have HAC:Hid (ac=1):=by rw [Hid,HAD.out,hb]; rfl
   clear HAD hok1 hok2 hok3;subst hb;obtain rfl:ac=1:=HAC.out
   rcases HA5.out with ⟨-,rfl,rfl,rfl,rfl,rfl,rfl,rfl⟩ | ⟨h0,-⟩
   case inr=>exact absurd h0 (by decide)
   clear HA5;obtain⟨y0,y1,y2,-⟩:=cells3 B7;go_wp2_with (go_at_call 40; refine Hid.out ?_);refine l34_none_nil.mono ?_;rintro e wx ⟨rfl,ex⟩;go_wp2;go_ret;exact⟨rfl,hE.trans ex⟩
  | true =>
  rw [hb] at HAD;have HB1:Hid (allB k (fun i=>okR (R i))=true):=by rw [Hid,←hok1.out,hb]
  clear hok1;subst hb;go_wp2_with (go_at_call 43; refine Hid.out ?_);refine (r2_valid (hVV.ext hE) HVW.out.1.1 HVW.out.1.2).mono ?_;rw [←hok2.out];rintro e w11 ⟨rfl,e11⟩;replace B7:=e11.block B7;replace hF:=hF.trans e11;replace hE:=hE.trans e11;replace B0:=e11.block B0;replace B1:=e11.block B1;replace hsz1:=blk_lt B1;clear a0 a1 a2 b0 b1 b2 b3 b4 b5 b6 b7 b8;obtain⟨a0,a1,a2,-⟩:=cells3 B0;obtain⟨b0,b1,b2,b3,b4,b5,b6,b7,b8⟩:=cells9 B1;clear e11;cases hb:ok2 with
  | false =>
   have HAC:Hid (ac=1):=by rw [Hid,HAD.out,hb]; rfl
   clear HAD hok2 hok3;subst hb;obtain rfl:ac=1:=HAC.out
   rcases HA5.out with ⟨-,rfl,rfl,rfl,rfl,rfl,rfl,rfl⟩ | ⟨h0,-⟩
   case inr=>exact absurd h0 (by decide)
   clear HA5;obtain⟨y0,y1,y2,-⟩:=cells3 B7;go_wp2_with (go_at_call 40; refine Hid.out ?_);refine l34_none_nil.mono ?_;rintro e wx ⟨rfl,ex⟩;go_wp2;go_ret;exact⟨rfl,hE.trans ex⟩
  | true =>
  rw [hb] at HAD;have HB2:Hid (okR RV=true):=by rw [Hid,←hok2.out,hb]
  clear hok2;subst hb;go_wp2_with (go_at_call 43; refine Hid.out ?_);refine (r2_valid (hWW.ext hE) HVW.out.2.1 HVW.out.2.2).mono ?_;rw [←hok3.out];rintro e w12 ⟨rfl,e12⟩;replace B7:=e12.block B7;replace hF:=hF.trans e12;replace hE:=hE.trans e12;replace B0:=e12.block B0;replace B1:=e12.block B1;replace hsz1:=blk_lt B1;clear a0 a1 a2 b0 b1 b2 b3 b4 b5 b6 b7 b8;obtain⟨a0,a1,a2,-⟩:=cells3 B0;obtain⟨b0,b1,b2,b3,b4,b5,b6,b7,b8⟩:=cells9 B1;clear e12;cases hb:ok3 with
  | false =>
   have HAC:Hid (ac=1):=by rw [Hid,HAD.out,hb]; rfl
   clear HAD hok3;subst hb;obtain rfl:ac=1:=HAC.out
   rcases HA5.out with ⟨-,rfl,rfl,rfl,rfl,rfl,rfl,rfl⟩ | ⟨h0,-⟩
   case inr=>exact absurd h0 (by decide)
   clear HA5;obtain⟨y0,y1,y2,-⟩:=cells3 B7;go_wp2_with (go_at_call 40; refine Hid.out ?_);refine l34_none_nil.mono ?_;rintro e wx ⟨rfl,ex⟩;go_wp2;go_ret;exact⟨rfl,hE.trans ex⟩
  | true =>
  rw [hb] at HAD;have HB3:Hid (okR RW=true):=by rw [Hid,←hok3.out,hb]
  clear hok3;subst hb;obtain⟨bA,offA,rfl,-,-,hxr⟩:=(h1.ext hE).addr hm0;obtain⟨AL,cL,p0,hLc,hcL,-⟩:=hxr 0 hm0;rw [Nat.add_zero] at p0;clear hxr;have hkl:k≤1000:=by have:=(shB_all HS0.out).1; omega
  obtain⟨tk,htk⟩:=hid_eq (decide (k≠n))
  have t1:((k:Int) != (n:Int))=tk:=by
   rw [htk.out]
   by_cases h9:k=n
   ·rw [h9]; simp
   ·have h8:((k:Int) != (n:Int))=true:=by rw [bne_iff_ne]; omega
    rw [h8]; simp [h9]
  go_upto_region 20 with (fail);refine regI [Mn.eq (.pointer (some ⟨w.heap.size+1,0,none⟩)),Mn.eq (.slice A4 k c4),Mn.eq (.int .i64 (k:Int)),Mn.eq (.pointer (some ⟨w.heap.size,0,none⟩)),Mn.eq (.slice (some ⟨bA,offA,none⟩) m c1),Mn.eq (.pointer (some ⟨bA,offA,none⟩)),Mn.eq (.slice AL n cL),Mn.eq (.int .i64 (n:Int)),Mn.eq (.bool tk),Mn.eq (.bool tk)] [some 137,some 138,some 139,some 140,some 141,some 142,some 143,some 144,some 145,some 136] [] [true,true,true,true,true,true,true,true,true,true] 0 (by kernel_rfl) ?_ ?_
  ·show ∀ i,i < 10→_
   iterate 10 refine fs ?_ ?_
   ·exact fz
   all_goals intro hl
   all_goals clear hl
   all_goals refine stp rfl ?_
   all_goals intro ac wi eI hB hA K hK
   have o4:=oOf (hB 4 (by kernel_rfl)) rfl
   rotate_left
   obtain⟨_,s137,rfl⟩:=hA 0 (by kernel_rfl) 137 rfl;have cc0:=eI.cell b0
   rotate_left
   obtain⟨_,s138,rfl⟩:=hA 1 (by kernel_rfl) 138 rfl
   rotate_left
   have o3:=oOf (hB 3 (by kernel_rfl)) rfl
   rotate_left
   obtain⟨_,s140,rfl⟩:=hA 3 (by kernel_rfl) 140 rfl;have cc0:=eI.cell a0
   rotate_left
   obtain⟨_,s141,rfl⟩:=hA 4 (by kernel_rfl) 141 rfl
   rotate_left
   obtain⟨_,s142,rfl⟩:=hA 5 (by kernel_rfl) 142 rfl;have cc0:=eI.cell p0
   rotate_left
   obtain⟨_,s143,rfl⟩:=hA 6 (by kernel_rfl) 143 rfl
   rotate_left
   obtain⟨_,s139,rfl⟩:=hA 2 (by kernel_rfl) 139 rfl;obtain⟨_,s144,rfl⟩:=hA 7 (by kernel_rfl) 144 rfl
   rotate_left
   obtain⟨_,s145,rfl⟩:=hA 8 (by kernel_rfl) 145 rfl
   rotate_left
   all_goals clear hB hA
   all_goals go_simp
   all_goals exact hK.out _ _ (Ext.refl _) rfl
  intro vals wz eZ hJ;have J136:vals 9=_:=hJ 9 (by decide) (by decide);clear hJ;simp only [pr,Nat.reduceAdd,J136];clear J136;refine stepL_done (by kernel_rfl) ?_ _;replace B7:=eZ.block B7;replace hF:=hF.trans eZ;replace hE:=hE.trans eZ;replace B0:=eZ.block B0;replace B1:=eZ.block B1;replace hsz1:=blk_lt B1;clear a0 a1 a2 b0 b1 b2 b3 b4 b5 b6 b7 b8;obtain⟨a0,a1,a2,-⟩:=cells3 B0;obtain⟨b0,b1,b2,b3,b4,b5,b6,b7,b8⟩:=cells9 B1;clear eZ p0 t1;obtain⟨w13,hw13⟩:∃ w13,w13=wz:=⟨_,rfl⟩
  subst hw13;cases hb:tk with
  | true =>
   have HAC:Hid (ac=4):=by rw [Hid,HAD.out]; have:k≠n:=of_decide_eq_true (htk.out.symm.trans hb); simp [this]
   clear HAD htk;subst hb;obtain rfl:ac=4:=HAC.out
   rcases HA5.out with ⟨-,rfl,rfl,rfl,rfl,rfl,rfl,rfl⟩ | ⟨h0,-⟩
   case inr=>exact absurd h0 (by decide)
   clear HA5;obtain⟨y0,y1,y2,-⟩:=cells3 B7;go_wp2_with (go_at_call 40; refine Hid.out ?_);refine l34_none_nil.mono ?_;rintro e wx ⟨rfl,ex⟩;go_wp2;go_ret;exact⟨rfl,hE.trans ex⟩
  | false =>
  have hkn:k=n:=by
   have h9:decide (k≠n)=false:=htk.out.symm.trans hb;simpa using h9
  clear htk;subst hb;subst hkn
  have hWR:RatV N w (.agg #[.bool RW.b1,.slice A7 n7 c7,.bool RW.b2,.slice A8 n8 c8]) (ratOf RW):=by
   show RawV N w _ (raw (ratOf RW)); rw [←raw_ratOf HB3.out]; exact hWW
  have hVR:RatV N w (.agg #[.bool RV.b1,.slice A5 n5 c5,.bool RV.b2,.slice A6 n6 c6]) (ratOf RV):=by
   show RawV N w _ (raw (ratOf RV)); rw [←raw_ratOf HB2.out]; exact hVV
  have hXV:LsV N lo' hi' w (.slice A4 k c4) k (fun i=>ratOf (R i)):=LsR.congr hX (fun i hi=>raw_ratOf (allB_true.1 HB1.out i hi));have HQH:Hid (Ht 360 (ratOf RW)):=dgn_ht12 HB3.out (by have:=HD.out; omega);have HVH:Hid (Ht 360 (ratOf RV)):=dgn_ht12 HB2.out (by have:=HD.out; omega);have HXH:Hid (HtL k 360 (fun i=>ratOf (R i))):=fun i hi=>(brief_ht (by rw [←raw_ratOf (allB_true.1 HB1.out i hi)]; exact HBR.out i hi)).mono (by omega)
  obtain⟨Q,hQd⟩:=hid_eq (ratOf RW);obtain⟨V,hVd⟩:=hid_eq (ratOf RV);obtain⟨x,hxd⟩:=hid_eq (fun i=>ratOf (R i));rw [←hQd.out] at hWR HQH HAD HA5;rw [←hVd.out] at hVR HVH HA5;rw [←hxd.out] at hXV HXH HA5;clear hQd hVd hxd HB1 HB2 HB3 HVW hVV hWW hX HBR HD HL hdv hdw;go_wp2_with (go_at_call 44; refine Hid.out ?_);refine (r2_sign (hWR.ext hE) (HQH.out.sz (by omega))).mono ?_;obtain⟨sg,hsg⟩:=hid_eq Q.num.sign;rw [←hsg.out];rintro e w14 ⟨rfl,e14⟩;replace B7:=e14.block B7;replace hF:=hF.trans e14;replace hE:=hE.trans e14;replace B0:=e14.block B0;replace B1:=e14.block B1;replace hsz1:=blk_lt B1;clear a0 a1 a2 b0 b1 b2 b3 b4 b5 b6 b7 b8;obtain⟨a0,a1,a2,-⟩:=cells3 B0;obtain⟨b0,b1,b2,b3,b4,b5,b6,b7,b8⟩:=cells9 B1;clear e14
  by_cases hle:Q≤0
  ·have HAC:Hid (ac=2):=by rw [Hid,HAD.out]; simp [hle]
   have t2:decide (sg≤0)=true:=by rw [decide_eq_true_eq,hsg.out]; exact sign_le34 hle
   clear HAD hle hsg;obtain rfl:ac=2:=HAC.out
   rcases HA5.out with ⟨-,rfl,rfl,rfl,rfl,rfl,rfl,rfl⟩ | ⟨h0,-⟩
   case inr=>exact absurd h0 (by decide)
   clear HA5;obtain⟨y0,y1,y2,-⟩:=cells3 B7;go_wp2_with (go_at_call 40; refine Hid.out ?_);refine l34_none_nil.mono ?_;rintro e wx ⟨rfl,ex⟩;go_wp2;go_ret;exact⟨rfl,hE.trans ex⟩
  have hQ:0 < Q:=Rat.not_le.1 hle
  have t2:decide (sg≤0)=false:=by
   rw [decide_eq_false_iff_not,hsg.out];have h9:=Int.sign_pos_iff.2 (num_pos hQ);omega
  have HAC:Hid (ac=0):=by rw [Hid,HAD.out]; simp [hle]
  clear HAD hsg hle;obtain rfl:ac=0:=HAC.out
  rcases HA5.out with ⟨h0,-⟩ | ⟨-,rfl,g1,g2,g3⟩
  ·exact absurd rfl h0
  clear HA5 HAC;obtain⟨y0,y1,y2,-⟩:=cells3 B7;have HQ0:=Lib.hid hQ;have HX2:Hid (HtM (m+1) k 360 (updM X m x)):=more_htX (fun i hi j hj=>(HX.out i hi j hj).mono (by omega)) HXH.out;have HY2:Hid (HtL (m+1) 360 (upd y m V)):=more_htL (fun i hi=>(HY.out i hi).mono (by omega)) HVH.out;have HP2:Hid (HtL (m+1) 360 (upd p m Q)):=more_htL (fun i hi=>(HP.out i hi).mono (by omega)) HQH.out;have HPOS2:Hid (∀ i,i < m+1→0 < upd p m Q i):=more_pos HPOS.out hQ;have HX3:Hid (∀ i,i < m→updM X m x (skip m i)=X i):=fun i hi=>by rw [skip_last hi,updM_lt hi]
  have HY3:Hid (∀ i,i < m→upd y m V (skip m i)=y i):=fun i hi=>by rw [skip_last hi,upd_lt hi]
  have HP3:Hid (∀ i,i < m→upd p m Q (skip m i)=p i):=fun i hi=>by rw [skip_last hi,upd_lt hi]
  have HX4:Hid (updM X m x m=x):=by rw [Hid]; simp [updM]
  have HY4:Hid (upd y m V m=V):=by rw [Hid]; simp [upd]
  have HP4:Hid (upd p m Q m=Q):=by rw [Hid]; simp [upd]
  have HRM:Hid (Reg k (nmat X p m)→Reg k (nmat (updM X m x) (upd p m Q) (m+1))):=reg_more HPOS.out hQ;have HOM:Hid (∀ z,obj m p (fun i=>av k X z i - y i)≤obj (m+1) (upd p m Q) (fun i=>av k (updM X m x) z i - upd y m V i)):=fun z=>obj_more_le hQ
  obtain⟨X2,hX2⟩:=hid_eq (updM X m x);obtain⟨Y2,hY2⟩:=hid_eq (upd y m V);obtain⟨P2,hP2⟩:=hid_eq (upd p m Q);rw [←hX2.out] at g1 HX2 HX3 HX4 HRM HOM;rw [←hY2.out] at g2 HY2 HY3 HY4 HOM;rw [←hP2.out] at g3 HP2 HPOS2 HP3 HP4 HRM HOM;clear hX2 hY2 hP2 hQ;have hm1:m+1 - 1=m:=by omega
  go_wp2_with (go_at_call 39; refine Hid.out ?_);refine (n_Without (MtV.all (g1.ext hF)) (LsV.all (g2.ext hF)) (LsV.all (g3.ext hF)) (by omega) (by omega) hn0 (by omega) HPOS2.out HX2.out HY2.out HP2.out (by omega) (i:=m) rfl (by omega)).mono ?_;rw [hm1];clear hm1;rintro e w15 ⟨v,rfl,hcu,e15⟩;obtain⟨U1,u1,U2,u2,U3,u3,rfl,k1,k2,k3⟩:=hcu.form;clear hcu y0 y1 y2;replace B7:=e15.block B7;replace hF:=hF.trans e15;replace hE:=hE.trans e15;replace B0:=e15.block B0;replace B1:=e15.block B1;replace hsz1:=blk_lt B1;clear a0 a1 a2 b0 b1 b2 b3 b4 b5 b6 b7 b8;obtain⟨a0,a1,a2,-⟩:=cells3 B0;obtain⟨b0,b1,b2,b3,b4,b5,b6,b7,b8⟩:=cells9 B1;clear e15;obtain⟨y0,y1,y2,-⟩:=cells3 B7;go_upto_region 25 with (fail);refine boxes1 ?_;intro w16 e16 hsz16 B12;replace k1:=MtV.all (k1.ext e16);replace k2:=LsV.all (k2.ext e16);replace k3:=LsV.all (k3.ext e16);replace B7:=e16.block B7;replace hF:=hF.trans e16;replace hE:=hE.trans e16;replace B0:=e16.block B0;replace B1:=e16.block B1;replace hsz1:=blk_lt B1;clear a0 a1 a2 b0 b1 b2 b3 b4 b5 b6 b7 b8;obtain⟨a0,a1,a2,-⟩:=cells3 B0;obtain⟨b0,b1,b2,b3,b4,b5,b6,b7,b8⟩:=cells9 B1;clear e16 hsz16 y0 y1 y2;obtain⟨g12,hg12⟩:∃ g12,g12=w15.heap.size:=⟨_,rfl⟩
  rw [←hg12] at B12 ⊢;clear hg12;obtain⟨bM,offM,rfl,-,-,hxM⟩:=(MtV.all (g1.ext hF)).addr (by omega);obtain⟨bL,offL,rfl,-,-,hxL⟩:=(LsV.all (g2.ext hF)).addr (by omega);obtain⟨bP,offP,rfl,-,-,hxP⟩:=(LsV.all (g3.ext hF)).addr (by omega);obtain⟨AR,cR,rr,hcR1,hcR2,hRow⟩:=hxM m (by omega);rw [HX4.out] at hRow;obtain⟨np,Ap,kp,cp,A'p,k'p,c'p,p0,p1,p2,p3,hbp,yp,zp⟩:=(hxL m (by omega)).open;have hRp:RatV N w16 (.agg #[.bool np,.slice Ap kp cp,.bool false,.slice A'p k'p c'p]) (Y2 m):=RatV.mk hbp yp zp;clear hbp yp zp;obtain⟨no,Ao,ko,co,A'o,k'o,c'o,o0,o1,o2,o3,hbo,yo,zo⟩:=(hxP m (by omega)).open;have hRo:RatV N w16 (.agg #[.bool no,.slice Ao ko co,.bool false,.slice A'o k'o c'o]) (P2 m):=RatV.mk hbo yo zo;clear hbo yo zo;rw [HY4.out] at hRp;rw [HP4.out] at hRo;clear hxM hxL hxP HX4 HY4 HP4;obtain⟨y0,y1,y2,-⟩:=cells3 B7;obtain⟨v0,v1,v2,-⟩:=cells3 B12;have hw1:IntKind.i64.wrap ((m:Int)+1)=(m:Int)+1:=IntWalk.i64_in _ (by omega);have t1:(((m+1:Nat):Int) != (m:Int)+1)=false:=by simp
  have hmm:m < m+1:=by omega
  obtain⟨M9,hM9⟩:=hid_eq (m+1);rw [←hM9.out] at y0 y1 y2 t1 hmm;go_upto_region 25 with (fail);refine regI [Mn.eq (.int .i64 0),Mn.eq (.bool false),Mn.eq (.bool false),Mn.eq (.pointer (some ⟨g7,0,none⟩)),Mn.eq (.slice (some ⟨bM,offM,none⟩) M9 q1),Mn.eq (.int .i64 (M9:Int)),Mn.eq (.pointer (some ⟨w.heap.size,0,none⟩)),Mn.eq (.slice (some ⟨bA,offA,none⟩) m c1),Mn.eq (.int .i64 (m:Int)),Mn.eq (.int .i64 ((m:Int)+1)),Mn.eq (.bool false),Mn.eq (.bool false),Mn.eq (.bool false),Mn.eq (.int .i64 0),Mn.eq (.bool false),Mn.eq (.bool false),Mn.eq (.bool false),Mn.eq (.agg #[.slice U1 m u1,.slice U2 m u2,.slice U3 m u3]),Mn.eq (.agg #[.slice (some ⟨bA,offA,none⟩) m c1,.slice A2 m c2,.slice A3 m c3]),Mn.eq (.bool true),Mn.eq (.bool false),Mn.eq (.bool false),Mn.eq (.bool false),Mn.eq (.pointer (some ⟨g7,0,none⟩)),Mn.eq (.slice (some ⟨bM,offM,none⟩) M9 q1),Mn.eq (.pointer (some ⟨w.heap.size,0,none⟩)),Mn.eq (.slice (some ⟨bA,offA,none⟩) m c1),Mn.eq (.int .i64 (m:Int)),Mn.eq (.pointer (some ⟨bM,offM+m,none⟩)),Mn.eq (.slice AR k cR),Mn.eq (.pointer (some ⟨w.heap.size+1,0,none⟩)),Mn.eq (.slice A4 k c4),Mn.eq (.bool true),Mn.eq (.bool false),Mn.eq (.bool false),Mn.eq (.bool false),Mn.eq (.pointer (some ⟨g7,1,none⟩)),Mn.eq (.slice (some ⟨bL,offL,none⟩) M9 q2),Mn.eq (.pointer (some ⟨w.heap.size,0,none⟩)),Mn.eq (.slice (some ⟨bA,offA,none⟩) m c1),Mn.eq (.int .i64 (m:Int)),Mn.eq (.pointer (some ⟨bL,offL+m*4,none⟩)),Mn.rat N (V),Mn.eq (.pointer (some ⟨w.heap.size+1,1,none⟩)),Mn.eq (.agg #[.bool RV.b1,.slice A5 n5 c5,.bool RV.b2,.slice A6 n6 c6]),Mn.eq (.bool true),Mn.eq (.bool false),Mn.eq (.bool false),Mn.eq (.bool false),Mn.eq (.pointer (some ⟨g7,2,none⟩)),Mn.eq (.slice (some ⟨bP,offP,none⟩) M9 q3),Mn.eq (.pointer (some ⟨w.heap.size,0,none⟩)),Mn.eq (.slice (some ⟨bA,offA,none⟩) m c1),Mn.eq (.int .i64 (m:Int)),Mn.eq (.pointer (some ⟨bP,offP+m*4,none⟩)),Mn.rat N (Q),Mn.eq (.pointer (some ⟨w.heap.size+1,5,none⟩)),Mn.eq (.agg #[.bool RW.b1,.slice A7 n7 c7,.bool RW.b2,.slice A8 n8 c8]),Mn.eq (.bool true),Mn.eq (.bool false),Mn.eq (.bool false)] [some 171,some 172,some 173,some 174,some 175,some 176,some 177,some 178,some 179,some 180,some 181,some 182,some 183,some 184,some 185,some 186,some 187,some 188,some 189,some 190,some 191,some 192,some 193,some 194,some 195,some 196,some 197,some 198,some 199,some 200,some 201,some 202,some 203,some 204,some 205,some 206,some 207,some 208,some 209,some 210,some 211,some 212,some 213,some 214,some 215,some 216,some 217,some 218,some 219,some 220,some 221,some 222,some 223,some 224,some 225,some 226,some 227,some 228,some 229,some 230,some 231] [] [true,true,true,true,true,true,true,true,true,true,true,true,true,true,true,true,true,true,true,true,true,true,true,true,true,true,true,true,true,true,true,true,true,true,true,true,true,true,true,true,true,true,true,true,true,true,true,true,true,true,true,true,true,true,true,true,true,true,true,true,true] 0 (by kernel_rfl) ?_ ?_
  ·show ∀ i,i < 61→_
   iterate 61 refine fs ?_ ?_
   ·exact fz
   all_goals intro hl
   all_goals clear hl
   all_goals refine stp rfl ?_
   all_goals intro ac wi eI hB hA K hK
   have o8:=oOf (hB 8 (by kernel_rfl)) rfl
   rotate_left
   obtain⟨_,s171,rfl⟩:=hA 0 (by kernel_rfl) 171 rfl
   rotate_left
   obtain⟨_,s172,rfl⟩:=hA 1 (by kernel_rfl) 172 rfl
   rotate_left
   obtain⟨_,s173,rfl⟩:=hA 2 (by kernel_rfl) 173 rfl;have o7:=oOf (hB 7 (by kernel_rfl)) rfl;rw [if_pos (by simp [Region.wanted,yielded,s173])]
   rotate_left
   obtain⟨_,s173,rfl⟩:=hA 2 (by kernel_rfl) 173 rfl;obtain⟨_,s174,rfl⟩:=hA 3 (by kernel_rfl) 174 rfl;rw [if_pos (by simp [Region.wanted,yielded,s173])];have cc0:=eI.cell y0
   rotate_left
   obtain⟨_,s173,rfl⟩:=hA 2 (by kernel_rfl) 173 rfl;obtain⟨_,s175,rfl⟩:=hA 4 (by kernel_rfl) 175 rfl;rw [if_pos (by simp [Region.wanted,yielded,s173])]
   rotate_left
   obtain⟨_,s173,rfl⟩:=hA 2 (by kernel_rfl) 173 rfl;have o3:=oOf (hB 3 (by kernel_rfl)) rfl;rw [if_pos (by simp [Region.wanted,yielded,s173])]
   rotate_left
   obtain⟨_,s173,rfl⟩:=hA 2 (by kernel_rfl) 173 rfl;obtain⟨_,s177,rfl⟩:=hA 6 (by kernel_rfl) 177 rfl;rw [if_pos (by simp [Region.wanted,yielded,s173])];have cc0:=eI.cell a0;have cc1:=eI.cell a1;have cc2:=eI.cell a2
   rotate_left
   obtain⟨_,s173,rfl⟩:=hA 2 (by kernel_rfl) 173 rfl;obtain⟨_,s178,rfl⟩:=hA 7 (by kernel_rfl) 178 rfl;rw [if_pos (by simp [Region.wanted,yielded,s173])]
   rotate_left
   obtain⟨_,s173,rfl⟩:=hA 2 (by kernel_rfl) 173 rfl;obtain⟨_,s179,rfl⟩:=hA 8 (by kernel_rfl) 179 rfl;rw [if_pos (by simp [Region.wanted,yielded,s173])]
   rotate_left
   obtain⟨_,s173,rfl⟩:=hA 2 (by kernel_rfl) 173 rfl;obtain⟨_,s176,rfl⟩:=hA 5 (by kernel_rfl) 176 rfl;obtain⟨_,s180,rfl⟩:=hA 9 (by kernel_rfl) 180 rfl;rw [if_pos (by simp [Region.wanted,yielded,s173])]
   rotate_left
   obtain⟨_,s173,rfl⟩:=hA 2 (by kernel_rfl) 173 rfl;obtain⟨_,s181,rfl⟩:=hA 10 (by kernel_rfl) 181 rfl
   rotate_left
   obtain⟨_,s182,rfl⟩:=hA 11 (by kernel_rfl) 182 rfl
   rotate_left
   obtain⟨_,s183,rfl⟩:=hA 12 (by kernel_rfl) 183 rfl;have o13:=oOf (hB 13 (by kernel_rfl)) rfl;rw [if_pos (by simp [Region.wanted,yielded,s183])]
   rotate_left
   obtain⟨_,s183,rfl⟩:=hA 12 (by kernel_rfl) 183 rfl;obtain⟨_,s184,rfl⟩:=hA 13 (by kernel_rfl) 184 rfl;rw [if_pos (by simp [Region.wanted,yielded,s183])]
   rotate_left
   obtain⟨_,s183,rfl⟩:=hA 12 (by kernel_rfl) 183 rfl;obtain⟨_,s185,rfl⟩:=hA 14 (by kernel_rfl) 185 rfl
   rotate_left
   obtain⟨_,s186,rfl⟩:=hA 15 (by kernel_rfl) 186 rfl
   rotate_left
   obtain⟨_,s187,rfl⟩:=hA 16 (by kernel_rfl) 187 rfl;have o12:=oOf (hB 12 (by kernel_rfl)) rfl;rw [if_pos (by simp [Region.wanted,yielded,s187])];have cc0:=eI.cell v0;have cc1:=eI.cell v1;have cc2:=eI.cell v2
   rotate_left
   obtain⟨_,s187,rfl⟩:=hA 16 (by kernel_rfl) 187 rfl;have o3:=oOf (hB 3 (by kernel_rfl)) rfl;rw [if_pos (by simp [Region.wanted,yielded,s187])];have cc0:=eI.cell a0;have cc1:=eI.cell a1;have cc2:=eI.cell a2
   rotate_left
   obtain⟨_,s187,rfl⟩:=hA 16 (by kernel_rfl) 187 rfl;obtain⟨_,s188,rfl⟩:=hA 17 (by kernel_rfl) 188 rfl;obtain⟨_,s189,rfl⟩:=hA 18 (by kernel_rfl) 189 rfl;clear hB hA;rw [if_pos (by simp [Region.wanted,yielded,s187])]
   ·go_simp;refine (l34_same (MtV.all (k1.ext eI)) (LsV.all (k2.ext eI)) (LsV.all (k3.ext eI)) (h1.ext (hE.trans eI)) (h2.ext (hE.trans eI)) (h3.ext (hE.trans eI)) (fun i hi j _=>by rw [HX3.out i hi]) (fun i hi=>HY3.out i hi) (fun i hi=>HP3.out i hi) (fun i hi j hj=>(show Ht 360 (X2 (skip m i) j) by rw [HX3.out i hi]; exact (HX.out i hi j hj).mono (by omega)).sz (by omega)) (fun i hi=>(show Ht 360 (Y2 (skip m i)) by rw [HY3.out i hi]; exact (HY.out i hi).mono (by omega)).sz (by omega)) (fun i hi=>(show Ht 360 (P2 (skip m i)) by rw [HP3.out i hi]; exact (HP.out i hi).mono (by omega)).sz (by omega))).mono ?_;rintro e wj ⟨rfl,ej⟩;go_wp2_with fail;exact hK.out _ _ ej rfl
   obtain⟨_,s187,rfl⟩:=hA 16 (by kernel_rfl) 187 rfl;obtain⟨_,s190,rfl⟩:=hA 19 (by kernel_rfl) 190 rfl;rw [if_pos (by simp [Region.wanted,yielded,s187])]
   rotate_left
   obtain⟨_,s187,rfl⟩:=hA 16 (by kernel_rfl) 187 rfl;obtain⟨_,s191,rfl⟩:=hA 20 (by kernel_rfl) 191 rfl
   rotate_left
   obtain⟨_,s192,rfl⟩:=hA 21 (by kernel_rfl) 192 rfl
   rotate_left
   obtain⟨_,s193,rfl⟩:=hA 22 (by kernel_rfl) 193 rfl;have o7:=oOf (hB 7 (by kernel_rfl)) rfl;rw [if_pos (by simp [Region.wanted,yielded,s193])]
   rotate_left
   obtain⟨_,s193,rfl⟩:=hA 22 (by kernel_rfl) 193 rfl;obtain⟨_,s194,rfl⟩:=hA 23 (by kernel_rfl) 194 rfl;rw [if_pos (by simp [Region.wanted,yielded,s193])];have cc0:=eI.cell y0
   rotate_left
   obtain⟨_,s193,rfl⟩:=hA 22 (by kernel_rfl) 193 rfl;have o3:=oOf (hB 3 (by kernel_rfl)) rfl;rw [if_pos (by simp [Region.wanted,yielded,s193])]
   rotate_left
   obtain⟨_,s193,rfl⟩:=hA 22 (by kernel_rfl) 193 rfl;obtain⟨_,s196,rfl⟩:=hA 25 (by kernel_rfl) 196 rfl;rw [if_pos (by simp [Region.wanted,yielded,s193])];have cc0:=eI.cell a0;have cc1:=eI.cell a1;have cc2:=eI.cell a2
   rotate_left
   obtain⟨_,s193,rfl⟩:=hA 22 (by kernel_rfl) 193 rfl;obtain⟨_,s197,rfl⟩:=hA 26 (by kernel_rfl) 197 rfl;rw [if_pos (by simp [Region.wanted,yielded,s193])]
   rotate_left
   obtain⟨_,s193,rfl⟩:=hA 22 (by kernel_rfl) 193 rfl;obtain⟨_,s195,rfl⟩:=hA 24 (by kernel_rfl) 195 rfl;obtain⟨_,s198,rfl⟩:=hA 27 (by kernel_rfl) 198 rfl;rw [if_pos (by simp [Region.wanted,yielded,s193])]
   rotate_left
   obtain⟨_,s193,rfl⟩:=hA 22 (by kernel_rfl) 193 rfl;obtain⟨_,s199,rfl⟩:=hA 28 (by kernel_rfl) 199 rfl;rw [if_pos (by simp [Region.wanted,yielded,s193])];have cc0:=eI.cell rr
   rotate_left
   obtain⟨_,s193,rfl⟩:=hA 22 (by kernel_rfl) 193 rfl;have o4:=oOf (hB 4 (by kernel_rfl)) rfl;rw [if_pos (by simp [Region.wanted,yielded,s193])]
   rotate_left
   obtain⟨_,s193,rfl⟩:=hA 22 (by kernel_rfl) 193 rfl;obtain⟨_,s201,rfl⟩:=hA 30 (by kernel_rfl) 201 rfl;rw [if_pos (by simp [Region.wanted,yielded,s193])];have cc0:=eI.cell b0
   rotate_left
   obtain⟨_,s193,rfl⟩:=hA 22 (by kernel_rfl) 193 rfl;obtain⟨_,s200,rfl⟩:=hA 29 (by kernel_rfl) 200 rfl;obtain⟨_,s202,rfl⟩:=hA 31 (by kernel_rfl) 202 rfl;clear hB hA;rw [if_pos (by simp [Region.wanted,yielded,s193])]
   ·go_simp;refine (r2_sameList (LsV.all (hRow.ext eI)) (hXV.ext (hE.trans eI)) (fun i hi=>(HXH.out i hi).sz (by omega)) (fun _ _=>rfl)).mono ?_;rintro e wj ⟨rfl,ej⟩;go_wp2_with fail;exact hK.out _ _ ej rfl
   obtain⟨_,s193,rfl⟩:=hA 22 (by kernel_rfl) 193 rfl;obtain⟨_,s203,rfl⟩:=hA 32 (by kernel_rfl) 203 rfl;rw [if_pos (by simp [Region.wanted,yielded,s193])]
   rotate_left
   obtain⟨_,s193,rfl⟩:=hA 22 (by kernel_rfl) 193 rfl;obtain⟨_,s204,rfl⟩:=hA 33 (by kernel_rfl) 204 rfl
   rotate_left
   obtain⟨_,s205,rfl⟩:=hA 34 (by kernel_rfl) 205 rfl
   rotate_left
   obtain⟨_,s206,rfl⟩:=hA 35 (by kernel_rfl) 206 rfl;have o7:=oOf (hB 7 (by kernel_rfl)) rfl;rw [if_pos (by simp [Region.wanted,yielded,s206])]
   rotate_left
   obtain⟨_,s206,rfl⟩:=hA 35 (by kernel_rfl) 206 rfl;obtain⟨_,s207,rfl⟩:=hA 36 (by kernel_rfl) 207 rfl;rw [if_pos (by simp [Region.wanted,yielded,s206])];have cc0:=eI.cell y1
   rotate_left
   obtain⟨_,s206,rfl⟩:=hA 35 (by kernel_rfl) 206 rfl;have o3:=oOf (hB 3 (by kernel_rfl)) rfl;rw [if_pos (by simp [Region.wanted,yielded,s206])]
   rotate_left
   obtain⟨_,s206,rfl⟩:=hA 35 (by kernel_rfl) 206 rfl;obtain⟨_,s209,rfl⟩:=hA 38 (by kernel_rfl) 209 rfl;rw [if_pos (by simp [Region.wanted,yielded,s206])];have cc0:=eI.cell a0;have cc1:=eI.cell a1;have cc2:=eI.cell a2
   rotate_left
   obtain⟨_,s206,rfl⟩:=hA 35 (by kernel_rfl) 206 rfl;obtain⟨_,s210,rfl⟩:=hA 39 (by kernel_rfl) 210 rfl;rw [if_pos (by simp [Region.wanted,yielded,s206])]
   rotate_left
   obtain⟨_,s206,rfl⟩:=hA 35 (by kernel_rfl) 206 rfl;obtain⟨_,s208,rfl⟩:=hA 37 (by kernel_rfl) 208 rfl;obtain⟨_,s211,rfl⟩:=hA 40 (by kernel_rfl) 211 rfl;rw [if_pos (by simp [Region.wanted,yielded,s206])]
   rotate_left
   obtain⟨_,s206,rfl⟩:=hA 35 (by kernel_rfl) 206 rfl;obtain⟨_,s212,rfl⟩:=hA 41 (by kernel_rfl) 212 rfl;clear hB hA;rw [if_pos (by simp [Region.wanted,yielded,s206])];have cc0:=eI.cell p0;have cc1:=eI.cell p1;have cc2:=eI.cell p2;have cc3:=eI.cell p3
   ·go_simp;exact hK.out _ _ (Ext.refl _) (hRp.ext eI)
   obtain⟨_,s206,rfl⟩:=hA 35 (by kernel_rfl) 206 rfl;have o4:=oOf (hB 4 (by kernel_rfl)) rfl;rw [if_pos (by simp [Region.wanted,yielded,s206])]
   rotate_left
   obtain⟨_,s206,rfl⟩:=hA 35 (by kernel_rfl) 206 rfl;obtain⟨_,s214,rfl⟩:=hA 43 (by kernel_rfl) 214 rfl;rw [if_pos (by simp [Region.wanted,yielded,s206])];have cc0:=eI.cell b1;have cc1:=eI.cell b2;have cc2:=eI.cell b3;have cc3:=eI.cell b4
   rotate_left
   obtain⟨_,s206,rfl⟩:=hA 35 (by kernel_rfl) 206 rfl;obtain⟨x213,s213,j213⟩:=hA 42 (by kernel_rfl) 213 rfl;replace j213:Mn.p (Mn.rat N (V)) x213 wi:=j213;obtain⟨_,s215,rfl⟩:=hA 44 (by kernel_rfl) 215 rfl;clear hB hA;rw [if_pos (by simp [Region.wanted,yielded,s206])]
   ·go_simp;refine (r2_same j213 (hVR.ext (hE.trans eI)) (HVH.out.sz (by omega)) rfl).mono ?_;rintro e wj ⟨rfl,ej⟩;go_wp2_with fail;exact hK.out _ _ ej rfl
   obtain⟨_,s206,rfl⟩:=hA 35 (by kernel_rfl) 206 rfl;obtain⟨_,s216,rfl⟩:=hA 45 (by kernel_rfl) 216 rfl;rw [if_pos (by simp [Region.wanted,yielded,s206])]
   rotate_left
   obtain⟨_,s206,rfl⟩:=hA 35 (by kernel_rfl) 206 rfl;obtain⟨_,s217,rfl⟩:=hA 46 (by kernel_rfl) 217 rfl
   rotate_left
   obtain⟨_,s218,rfl⟩:=hA 47 (by kernel_rfl) 218 rfl
   rotate_left
   obtain⟨_,s219,rfl⟩:=hA 48 (by kernel_rfl) 219 rfl;have o7:=oOf (hB 7 (by kernel_rfl)) rfl;rw [if_pos (by simp [Region.wanted,yielded,s219])]
   rotate_left
   obtain⟨_,s219,rfl⟩:=hA 48 (by kernel_rfl) 219 rfl;obtain⟨_,s220,rfl⟩:=hA 49 (by kernel_rfl) 220 rfl;rw [if_pos (by simp [Region.wanted,yielded,s219])];have cc0:=eI.cell y2
   rotate_left
   obtain⟨_,s219,rfl⟩:=hA 48 (by kernel_rfl) 219 rfl;have o3:=oOf (hB 3 (by kernel_rfl)) rfl;rw [if_pos (by simp [Region.wanted,yielded,s219])]
   rotate_left
   obtain⟨_,s219,rfl⟩:=hA 48 (by kernel_rfl) 219 rfl;obtain⟨_,s222,rfl⟩:=hA 51 (by kernel_rfl) 222 rfl;rw [if_pos (by simp [Region.wanted,yielded,s219])];have cc0:=eI.cell a0;have cc1:=eI.cell a1;have cc2:=eI.cell a2
   rotate_left
   obtain⟨_,s219,rfl⟩:=hA 48 (by kernel_rfl) 219 rfl;obtain⟨_,s223,rfl⟩:=hA 52 (by kernel_rfl) 223 rfl;rw [if_pos (by simp [Region.wanted,yielded,s219])]
   rotate_left
   obtain⟨_,s219,rfl⟩:=hA 48 (by kernel_rfl) 219 rfl;obtain⟨_,s221,rfl⟩:=hA 50 (by kernel_rfl) 221 rfl;obtain⟨_,s224,rfl⟩:=hA 53 (by kernel_rfl) 224 rfl;rw [if_pos (by simp [Region.wanted,yielded,s219])]
   rotate_left
   obtain⟨_,s219,rfl⟩:=hA 48 (by kernel_rfl) 219 rfl;obtain⟨_,s225,rfl⟩:=hA 54 (by kernel_rfl) 225 rfl;clear hB hA;rw [if_pos (by simp [Region.wanted,yielded,s219])];have cc0:=eI.cell o0;have cc1:=eI.cell o1;have cc2:=eI.cell o2;have cc3:=eI.cell o3
   ·go_simp;exact hK.out _ _ (Ext.refl _) (hRo.ext eI)
   obtain⟨_,s219,rfl⟩:=hA 48 (by kernel_rfl) 219 rfl;have o4:=oOf (hB 4 (by kernel_rfl)) rfl;rw [if_pos (by simp [Region.wanted,yielded,s219])]
   rotate_left
   obtain⟨_,s219,rfl⟩:=hA 48 (by kernel_rfl) 219 rfl;obtain⟨_,s227,rfl⟩:=hA 56 (by kernel_rfl) 227 rfl;rw [if_pos (by simp [Region.wanted,yielded,s219])];have cc0:=eI.cell b5;have cc1:=eI.cell b6;have cc2:=eI.cell b7;have cc3:=eI.cell b8
   rotate_left
   obtain⟨_,s219,rfl⟩:=hA 48 (by kernel_rfl) 219 rfl;obtain⟨x226,s226,j226⟩:=hA 55 (by kernel_rfl) 226 rfl;replace j226:Mn.p (Mn.rat N (Q)) x226 wi:=j226;obtain⟨_,s228,rfl⟩:=hA 57 (by kernel_rfl) 228 rfl;clear hB hA;rw [if_pos (by simp [Region.wanted,yielded,s219])]
   ·go_simp;refine (r2_same j226 (hWR.ext (hE.trans eI)) (HQH.out.sz (by omega)) rfl).mono ?_;rintro e wj ⟨rfl,ej⟩;go_wp2_with fail;exact hK.out _ _ ej rfl
   obtain⟨_,s219,rfl⟩:=hA 48 (by kernel_rfl) 219 rfl;obtain⟨_,s229,rfl⟩:=hA 58 (by kernel_rfl) 229 rfl;rw [if_pos (by simp [Region.wanted,yielded,s219])]
   rotate_left
   obtain⟨_,s219,rfl⟩:=hA 48 (by kernel_rfl) 219 rfl;obtain⟨_,s230,rfl⟩:=hA 59 (by kernel_rfl) 230 rfl
   rotate_left
   all_goals clear hB hA
   all_goals go_simp
   all_goals exact hK.out _ _ (Ext.refl _) rfl
  intro vals wz eZ hJ;have J231:vals 60=_:=hJ 60 (by decide) (by decide);clear hJ;simp only [pr,Nat.reduceAdd,J231];clear J231;refine stepL_done (by kernel_rfl) ?_ _;have hM9:=hM9.out;subst hM9;replace B7:=eZ.block B7;replace hF:=hF.trans eZ;replace hE:=hE.trans eZ;replace B0:=eZ.block B0;replace B1:=eZ.block B1;replace hsz1:=blk_lt B1;clear a0 a1 a2 b0 b1 b2 b3 b4 b5 b6 b7 b8;obtain⟨a0,a1,a2,-⟩:=cells3 B0;obtain⟨b0,b1,b2,b3,b4,b5,b6,b7,b8⟩:=cells9 B1;clear eZ y0 y1 y2 v0 v1 v2 B12 k1 k2 k3 hRow rr p0 p1 p2 p3 o0 o1 o2 o3 hRp hRo HX3 HY3 HP3 hw1 t1 hVR hWR hXV;obtain⟨w17,hw17⟩:∃ w17,w17=wz:=⟨_,rfl⟩
  subst hw17;obtain⟨y0,y1,y2,-⟩:=cells3 B7;have h55:(5:Nat) ^ 5=3125:=by decide
  have HKM:Hid (HtM k k 469 (nmat X p m)):=(nmat_ht HX.out HP.out (Nat.le_refl _) (Nat.le_refl _)).mono (by omega);have HKR:Hid (HtL k 469 (nrhs X y p m)):=(nrhs_ht HX.out HY.out HP.out (Nat.le_refl _) (Nat.le_refl _)).mono (by omega);have HKM2:Hid (HtM k k 9730 (nmat X2 P2 (m+1))):=(nmat_ht HX2.out HP2.out (Nat.le_refl _) (Nat.le_refl _)).mono (by omega);have HKR2:Hid (HtL k 9730 (nrhs X2 Y2 P2 (m+1))):=(nrhs_ht HX2.out HY2.out HP2.out (Nat.le_refl _) (Nat.le_refl _)).mono (by omega);obtain⟨SOL,hSOL⟩:=hid_eq (nsv k (nmat X p m) (nrhs X y p m));obtain⟨SOL2,hSOL2⟩:=hid_eq (nsv k (nmat X2 P2 (m+1)) (nrhs X2 Y2 P2 (m+1)))
  have HSH:Hid (HtL k 7400000 SOL):=by
   rw [Hid,hSOL.out];exact (nsv_ht HKM.out HKR.out hn).mono (by rw [h55]; omega)
  have HSH2:Hid (HtL k 152031261 SOL2):=by
   rw [Hid,hSOL2.out];exact (nsv_ht HKM2.out HKR2.out hn).mono (by rw [h55]; omega)
  obtain⟨rk,hrk⟩:=hid_eq (rref k (nmat X p m) k).2.length;obtain⟨rk2,hrk2⟩:=hid_eq (rref k (nmat X2 P2 (m+1)) k).2.length;have HK7:Hid (m*(3*17+1)+3*17+2≤29000000000):=by rw [Hid]; omega
  have HK6:Hid (5*(5 ^ 5*(m*(3*17+1)+1))≤29000000000):=by rw [Hid,h55]; omega
  have HK9:Hid ((m+1)*(3*360+1)+3*360+2≤29000000000):=by rw [Hid]; omega
  have HK8:Hid (5*(5 ^ 5*((m+1)*(3*360+1)+1))≤29000000000):=by rw [Hid,h55]; omega
  go_wp2_with (go_at_call 13; refine Hid.out ?_);refine (n_solve (P:=5) (h1.ext hE) (h2.ext hE) (h3.ext hE) hm0 (by omega) hn0 (by omega) HPOS.out HX.out HY.out HP.out HK7.out hn HK6.out).mono ?_;rintro e w18 ⟨e18,hh⟩;rw [←hrk.out,←hSOL.out] at hh;replace B7:=e18.block B7;replace hF:=hF.trans e18;replace hE:=hE.trans e18;replace B0:=e18.block B0;replace B1:=e18.block B1;replace hsz1:=blk_lt B1;clear a0 a1 a2 b0 b1 b2 b3 b4 b5 b6 b7 b8;obtain⟨a0,a1,a2,-⟩:=cells3 B0;obtain⟨b0,b1,b2,b3,b4,b5,b6,b7,b8⟩:=cells9 B1;clear y0 y1 y2;obtain⟨y0,y1,y2,-⟩:=cells3 B7
  by_cases hfull:rk < k
  ·rcases hh with ⟨-,rfl⟩ | ⟨h0,-⟩
   case inr=>exact absurd hfull h0
   clear hfull e18;go_wp2_with (go_at_call 13; refine Hid.out ?_);refine (n_solve (P:=5) (MtV.all (g1.ext hF)) (LsV.all (g2.ext hF)) (LsV.all (g3.ext hF)) (by omega) (by omega) hn0 (by omega) HPOS2.out HX2.out HY2.out HP2.out HK9.out hn HK8.out).mono ?_;rintro e w19 ⟨e19,hh⟩
   rcases hh with ⟨-,rfl⟩ | ⟨-,A5',c5',rfl,-⟩
   ·go_wp2;go_ret;exact⟨rfl,hE.trans e19⟩
   ·go_wp2;go_ret;exact⟨rfl,hE.trans e19⟩
  rcases hh with ⟨h0,-⟩ | ⟨-,AS,cS,rfl,hS⟩
  ·exact absurd h0 hfull
  have HREG:Hid (Reg k (nmat X p m)):=full_reg (by rw [←hrk.out]; exact hfull);have hfull2:rk2=k:=by rw [hrk2.out]; exact (rank_iff _ _).2 (HRM.out HREG.out)
  clear hfull hrk;go_wp2_with (go_at_call 13; refine Hid.out ?_);refine (n_solve (P:=5) (MtV.all (g1.ext hF)) (LsV.all (g2.ext hF)) (LsV.all (g3.ext hF)) (by omega) (by omega) hn0 (by omega) HPOS2.out HX2.out HY2.out HP2.out HK9.out hn HK8.out).mono ?_;rintro e w19 ⟨e19,hh⟩;rw [←hrk2.out,←hSOL2.out] at hh
  rcases hh with ⟨h0,-⟩ | ⟨-,AT,cT,rfl,hT⟩
  ·exact absurd h0 (by omega)
  have hS':=LsV.all ((LsV.all hS).ext e19);have hT':=LsV.all hT;clear hS hT hrk2 hfull2 e18 HK7 HK6 HK9 HK8 HRM HKM HKR HKM2 HKR2;replace B7:=e19.block B7;replace hF:=hF.trans e19;replace hE:=hE.trans e19;replace B0:=e19.block B0;replace B1:=e19.block B1;replace hsz1:=blk_lt B1;clear a0 a1 a2 b0 b1 b2 b3 b4 b5 b6 b7 b8;obtain⟨a0,a1,a2,-⟩:=cells3 B0;obtain⟨b0,b1,b2,b3,b4,b5,b6,b7,b8⟩:=cells9 B1;clear y0 y1 y2 e19;obtain⟨y0,y1,y2,-⟩:=cells3 B7;obtain⟨kv,hkv0⟩:∃ kv,kv=k*(17+7400000+1)+1+17+1:=⟨_,rfl⟩
  obtain⟨kw,hkw0⟩:∃ kw,kw=k*(360+152031261+1)+1+360+1:=⟨_,rfl⟩
  have HKV:=Lib.hid hkv0;have HKW:=Lib.hid hkw0;have hkv2:kv≤37000109:=by omega
  have hkw2:kw≤760158472:=by omega
  have HVV:Hid (HtL m kv (fun i=>av k X SOL i - y i)):=fun i hi=>by
   refine Ht.mono (Ht.sub (sum_ht (n:=k) (k:=17+7400000) (K:=k*(17+7400000+1)+1) (fun c hc=>(HX.out i hi c hc).mul (HSH.out c hc)) (Nat.le_refl _) (Nat.le_refl _)) (HY.out i hi)) (by omega)
  have HWW:Hid (HtL (m+1) kw (fun i=>av k X2 SOL2 i - Y2 i)):=fun i hi=>by
   refine Ht.mono (Ht.sub (sum_ht (n:=k) (k:=360+152031261) (K:=k*(360+152031261+1)+1) (fun c hc=>(HX2.out i hi c hc).mul (HSH2.out c hc)) (Nat.le_refl _) (Nat.le_refl _)) (HY2.out i hi)) (by omega)
  obtain⟨T,hT⟩:=hid_eq (obj m p (fun i=>av k X SOL i - y i));obtain⟨T2,hT2⟩:=hid_eq (obj (m+1) P2 (fun i=>av k X2 SOL2 i - Y2 i));have h8:m*(17+(kv+kv)+1)≤8*(17+(37000109+37000109)+1):=mul_le8 hm (by omega);have h9:(m+1)*(360+(kw+kw)+1)≤9*(360+(760158472+760158472)+1):=Nat.mul_le_mul (by omega) (by omega);have HK8:Hid (m*(17+(kv+kv)+1)+1≤29000000000):=by rw [Hid]; omega
  have HK9:Hid ((m+1)*(360+(kw+kw)+1)+1≤29000000000):=by rw [Hid]; omega
  have HTH:Hid (Ht 600000000 T):=by
   rw [Hid,hT.out];refine Ht.mono (sum_ht (n:=m) (k:=17+(kv+kv)) (K:=m*(17+(kv+kv)+1)+1) (fun i hi=>(HP.out i hi).mul ((HVV.out i hi).mul (HVV.out i hi))) (Nat.le_refl _) (Nat.le_refl _)) ?_;omega
  have HTH2:Hid (Ht 13700000000 T2):=by
   rw [Hid,hT2.out];refine Ht.mono (sum_ht (n:=m+1) (k:=360+(kw+kw)) (K:=(m+1)*(360+(kw+kw)+1)+1) (fun i hi=>(HP2.out i hi).mul ((HWW.out i hi).mul (HWW.out i hi))) (Nat.le_refl _) (Nat.le_refl _)) ?_;omega
  clear h8 h9 hkv0 hkw0 HVV HWW h55;have HSD:Hid (Sz (T - T2)):=(HTH.out.sub HTH2.out).sz (by omega);obtain⟨sg,hsg⟩:=hid_eq (T - T2).num.sign
  have hsg0:sg≤0:=by
   rw [hsg.out];refine sign_le34 ?_
   have h9:T≤T2:=by
    rw [hT.out,hT2.out,hSOL.out];exact Rat.le_trans (nsv_least HPOS.out HREG.out SOL2) (HOM.out SOL2)
   grind
  have t1:decide (sg≤0)=true:=by simpa using hsg0
  obtain⟨bA',offA',hA',-,-,hxr⟩:=(h1.ext hE).addr hm0;obtain⟨rfl,rfl⟩:bA'=bA∧offA'=offA:=by simp only [Option.some.injEq,Addr.mk.injEq] at hA'; exact⟨hA'.1.symm,hA'.2.1.symm⟩
  obtain⟨AL',cL',p0,-,-,-⟩:=hxr 0 hm0;rw [Nat.add_zero] at p0;clear hxr hA';go_upto_region 31 with (fail);refine regI [Mn.eq (.slice AS k cS),Mn.eq (.int .i64 (k:Int)),Mn.eq (.pointer (some ⟨w.heap.size,0,none⟩)),Mn.eq (.slice (some ⟨bA',offA',none⟩) m c1),Mn.eq (.pointer (some ⟨bA',offA',none⟩)),Mn.eq (.slice AL' k cL'),Mn.eq (.int .i64 (k:Int)),Mn.eq (.bool true),Mn.eq (.bool true),Mn.eq (.slice AT k cT),Mn.eq (.int .i64 (k:Int)),Mn.eq (.slice AS k cS),Mn.eq (.int .i64 (k:Int)),Mn.eq (.bool true),Mn.eq (.bool true),Mn.eq (.bool true),Mn.eq (.agg #[.slice (some ⟨bA',offA',none⟩) m c1,.slice A2 m c2,.slice A3 m c3]),Mn.eq (.slice AS k cS),Mn.rat N T,Mn.eq (.agg #[.slice (some ⟨bM,offM,none⟩) (m+1) q1,.slice (some ⟨bL,offL,none⟩) (m+1) q2,.slice (some ⟨bP,offP,none⟩) (m+1) q3]),Mn.eq (.slice AT k cT),Mn.rat N T2,Mn.eq (.int .i64 sg),Mn.eq (.bool true),Mn.eq (.bool true),Mn.eq (.bool true)] [some 258,some 259,some 260,some 261,some 262,some 263,some 264,some 265,some 266,some 267,some 268,some 269,some 270,some 271,some 272,some 273,some 274,some 275,some 276,some 277,some 278,some 279,some 280,some 281,some 282,some 6] [] [true,true,true,true,true,true,true,true,true,true,true,true,true,true,true,true,true,true,true,true,true,true,true,true,true,true] 0 (by kernel_rfl) ?_ ?_
  ·show ∀ i,i < 26→_
   iterate 26 refine fs ?_ ?_
   ·exact fz
   all_goals intro hl
   all_goals clear hl
   all_goals refine stp rfl ?_
   all_goals intro ac wi eI hB hA K hK
   have o14:=oOf (hB 14 (by kernel_rfl)) rfl
   rotate_left
   obtain⟨_,s258,rfl⟩:=hA 0 (by kernel_rfl) 258 rfl
   rotate_left
   have o3:=oOf (hB 3 (by kernel_rfl)) rfl
   rotate_left
   obtain⟨_,s260,rfl⟩:=hA 2 (by kernel_rfl) 260 rfl;have cc0:=eI.cell a0;have cc1:=eI.cell a1;have cc2:=eI.cell a2
   rotate_left
   obtain⟨_,s261,rfl⟩:=hA 3 (by kernel_rfl) 261 rfl
   rotate_left
   obtain⟨_,s262,rfl⟩:=hA 4 (by kernel_rfl) 262 rfl;have cc0:=eI.cell p0
   rotate_left
   obtain⟨_,s263,rfl⟩:=hA 5 (by kernel_rfl) 263 rfl
   rotate_left
   obtain⟨_,s259,rfl⟩:=hA 1 (by kernel_rfl) 259 rfl;obtain⟨_,s264,rfl⟩:=hA 6 (by kernel_rfl) 264 rfl
   rotate_left
   obtain⟨_,s265,rfl⟩:=hA 7 (by kernel_rfl) 265 rfl
   rotate_left
   obtain⟨_,s266,rfl⟩:=hA 8 (by kernel_rfl) 266 rfl;have o15:=oOf (hB 15 (by kernel_rfl)) rfl;rw [if_pos (by simp [Region.wanted,yielded,s266])]
   rotate_left
   obtain⟨_,s266,rfl⟩:=hA 8 (by kernel_rfl) 266 rfl;obtain⟨_,s267,rfl⟩:=hA 9 (by kernel_rfl) 267 rfl;rw [if_pos (by simp [Region.wanted,yielded,s266])]
   rotate_left
   obtain⟨_,s266,rfl⟩:=hA 8 (by kernel_rfl) 266 rfl;have o14:=oOf (hB 14 (by kernel_rfl)) rfl;rw [if_pos (by simp [Region.wanted,yielded,s266])]
   rotate_left
   obtain⟨_,s266,rfl⟩:=hA 8 (by kernel_rfl) 266 rfl;obtain⟨_,s269,rfl⟩:=hA 11 (by kernel_rfl) 269 rfl;rw [if_pos (by simp [Region.wanted,yielded,s266])]
   rotate_left
   obtain⟨_,s266,rfl⟩:=hA 8 (by kernel_rfl) 266 rfl;obtain⟨_,s268,rfl⟩:=hA 10 (by kernel_rfl) 268 rfl;obtain⟨_,s270,rfl⟩:=hA 12 (by kernel_rfl) 270 rfl;rw [if_pos (by simp [Region.wanted,yielded,s266])]
   rotate_left
   obtain⟨_,s266,rfl⟩:=hA 8 (by kernel_rfl) 266 rfl;obtain⟨_,s271,rfl⟩:=hA 13 (by kernel_rfl) 271 rfl
   rotate_left
   obtain⟨_,s272,rfl⟩:=hA 14 (by kernel_rfl) 272 rfl
   rotate_left
   obtain⟨_,s273,rfl⟩:=hA 15 (by kernel_rfl) 273 rfl;have o3:=oOf (hB 3 (by kernel_rfl)) rfl;rw [if_pos (by simp [Region.wanted,yielded,s273])];have cc0:=eI.cell a0;have cc1:=eI.cell a1;have cc2:=eI.cell a2
   rotate_left
   obtain⟨_,s273,rfl⟩:=hA 15 (by kernel_rfl) 273 rfl;have o14:=oOf (hB 14 (by kernel_rfl)) rfl;rw [if_pos (by simp [Region.wanted,yielded,s273])]
   rotate_left
   obtain⟨_,s273,rfl⟩:=hA 15 (by kernel_rfl) 273 rfl;obtain⟨_,s274,rfl⟩:=hA 16 (by kernel_rfl) 274 rfl;obtain⟨_,s275,rfl⟩:=hA 17 (by kernel_rfl) 275 rfl;clear hB hA;rw [if_pos (by simp [Region.wanted,yielded,s273])]
   ·go_simp;refine (l34_objective (h1.ext (hE.trans eI)) (h2.ext (hE.trans eI)) (h3.ext (hE.trans eI)) (hS'.ext eI) hm0 (by omega) hn0 (by omega) HX.out HY.out HP.out HSH.out HKV.out HK8.out).mono ?_;rw [←hT.out];rintro e wj ⟨vj,rfl,hj,ej⟩;go_wp2_with fail;exact hK.out _ _ ej hj
   obtain⟨_,s273,rfl⟩:=hA 15 (by kernel_rfl) 273 rfl;have o7:=oOf (hB 7 (by kernel_rfl)) rfl;rw [if_pos (by simp [Region.wanted,yielded,s273])];have cc0:=eI.cell y0;have cc1:=eI.cell y1;have cc2:=eI.cell y2
   rotate_left
   obtain⟨_,s273,rfl⟩:=hA 15 (by kernel_rfl) 273 rfl;have o15:=oOf (hB 15 (by kernel_rfl)) rfl;rw [if_pos (by simp [Region.wanted,yielded,s273])]
   rotate_left
   obtain⟨_,s273,rfl⟩:=hA 15 (by kernel_rfl) 273 rfl;obtain⟨_,s277,rfl⟩:=hA 19 (by kernel_rfl) 277 rfl;obtain⟨_,s278,rfl⟩:=hA 20 (by kernel_rfl) 278 rfl;clear hB hA;rw [if_pos (by simp [Region.wanted,yielded,s273])]
   ·go_simp;refine (l34_objective (MtV.all (g1.ext (hF.trans eI))) (LsV.all (g2.ext (hF.trans eI))) (LsV.all (g3.ext (hF.trans eI))) (hT'.ext eI) (by omega) (by omega) hn0 (by omega) HX2.out HY2.out HP2.out HSH2.out HKW.out HK9.out).mono ?_;rw [←hT2.out];rintro e wj ⟨vj,rfl,hj,ej⟩;go_wp2_with fail;exact hK.out _ _ ej hj
   obtain⟨_,s273,rfl⟩:=hA 15 (by kernel_rfl) 273 rfl;obtain⟨x276,s276,j276⟩:=hA 18 (by kernel_rfl) 276 rfl;replace j276:Mn.p (Mn.rat N T) x276 wi:=j276;obtain⟨x279,s279,j279⟩:=hA 21 (by kernel_rfl) 279 rfl;replace j279:Mn.p (Mn.rat N T2) x279 wi:=j279;clear hB hA;rw [if_pos (by simp [Region.wanted,yielded,s273])]
   ·go_simp;refine (r2_compare j276 j279 (HTH.out.sz (by omega)) (HTH2.out.sz (by omega)) HSD.out).mono ?_;rw [←hsg.out];rintro e wj ⟨rfl,ej⟩;go_wp2_with fail;exact hK.out _ _ ej rfl
   obtain⟨_,s273,rfl⟩:=hA 15 (by kernel_rfl) 273 rfl;obtain⟨_,s280,rfl⟩:=hA 22 (by kernel_rfl) 280 rfl;rw [if_pos (by simp [Region.wanted,yielded,s273])]
   rotate_left
   obtain⟨_,s273,rfl⟩:=hA 15 (by kernel_rfl) 273 rfl;obtain⟨_,s281,rfl⟩:=hA 23 (by kernel_rfl) 281 rfl
   rotate_left
   obtain⟨_,s282,rfl⟩:=hA 24 (by kernel_rfl) 282 rfl
   rotate_left
   all_goals clear hB hA
   all_goals go_simp
   all_goals exact hK.out _ _ (Ext.refl _) rfl
  intro vals wz eZ hJ;have J6:vals 25=_:=hJ 25 (by decide) (by decide);clear hJ;simp only [pr,Nat.reduceAdd,J6];clear J6;refine stepL_done (by kernel_rfl) ?_ _;go_wp2;go_ret;exact⟨rfl,hE.trans eZ⟩
end Go.Proofs.YtccepmpebioeiaaGreat
