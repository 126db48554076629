import Derived.Test.YtphpkhoeplcedaaGreatWb19
set_option linter.all false
set_option maxHeartbeats 8000000
set_option maxRecDepth 100000
namespace Go.Proofs.YtphpkhoeplcedaaGreat
open Go.RowKit
variable {w w':World} {N n lo hi k g i b K:Nat} {G:Grd} {q x:Rat} {z:Int}
theorem q5l {t:TypeId} (h:w.heap[g]?=some (.cells #[.int .i64 0,.int .i64 6,.int .i64 0,.int .i64 0,.int .i64 6,.int .i64 0] t (0,0))):IzV N 0 0 w (.slice (some ⟨g,0,none⟩) 6 6) 6 G49.z:=by
 refine⟨rfl,some ⟨g,0,none⟩,6,rfl,q_r,by unfold maxLen; omega,fun _=>⟨g,0,rfl,fun i hi=>?_⟩⟩;rw [qh h];have hi':i=0\/i=1\/i=2\/i=3\/i=4\/i=5:=by omega
 rcases hi' with rfl | rfl | rfl | rfl | rfl | rfl <;> rfl
theorem q4a {t:TypeId} (h:w.heap[g]?=some (.cells #[.int .i64 0,.int .i64 6,.int .i64 0,.int .i64 0,.int .i64 6,.int .i64 0] t (0,0))):yg N 0 0 w (.agg #[.int .i64 0,.int .i64 0,.int .i64 2,.int .i64 3,.int .i64 2,.slice (some ⟨g,0,none⟩) 6 6]) G49:=⟨_,rfl,q5l h⟩
theorem q3M {y:Rat} {x0 x1 x2 x3 y0 y1 y2 y3:Value} (h:qm N w (.agg #[x0,x1,x2,x3]) x) (h':qm N w (.agg #[y0,y1,y2,y3]) y):PlV N w (.agg #[x0,x1,x2,x3,y0,y1,y2,y3]) (raw x) (raw y):=⟨_,_,_,_,_,_,_,_,rfl,h,h'⟩
theorem q54:Calls Tryz.prog 10 #[] w (zX w (.bool true)):=by
 obtain⟨N,hN⟩:∃ N,N=w.heap.size:=⟨_,rfl⟩
 go_enter Tryz.func10,Tryz.ntmps10;go_upto_region 2 with (fail);refine kE ?_;intro W hE hsz BZ BG;have BZ':W.heap[w.heap.size]?=some (.cells #[.int .i64 0,.int .i64 6,.int .i64 0,.int .i64 0,.int .i64 6,.int .i64 0] 3 (0,0)):=BZ;have BG':W.heap[w.heap.size+1]?=some (.cells #[.int .i64 0,.int .i64 0,.int .i64 2,.int .i64 3,.int .i64 2,.slice (some ⟨w.heap.size,0,none⟩) 6 6] 24 (0,0)):=BG;have HGR:Hid (yg N 0 0 W _ G49):=q4a BZ';have HBG:=q_h BG';clear BZ BG BZ';have hNW:N<=W.heap.size:=by omega
 obtain⟨a0,a1,a2,a3,a4,a5⟩:=qG BG';clear BG';refine q1J [Mn.eq (.agg #[.int .i64 0,.int .i64 0,.int .i64 2,.int .i64 3,.int .i64 2,.slice (some ⟨w.heap.size,0,none⟩) 6 6]),Mn.rat N ((1:Int):Rat),Mn.rat N ((0:Int):Rat),Mn.pl N ((1:Int):Rat) ((0:Int):Rat),Mn.rc N ((3:Int):Rat),Mn.rc N ((3:Int):Rat),Mn.rat N ((3:Int):Rat),Mn.i 0,Mn.blk W.heap.size (.cells #[.bool false,.slice none 0 0,.bool false,.slice none 0 0] 29 (0,0)),Mn.any,Mn.any] [some 13,some 14,some 15,some 16,some 17,some 12,some 18,some 19,some 2,none,some 3] [9,10] [7] (rQ 9 2) 2 (by kernel_rfl) ?_ ?_ ?_
 ·show ∀ i,i < 11->_
  iterate 11 refine fs ?_ ?_
  ·exact fz
  all_goals intro hl hs; first | exact absurd hl (by decide) | exact absurd hs (by decide) | (clear hl hs; refine stp rfl ?_; intro ac wi eI hB hA K hK)
  have o1:=oOf (hB 1) rfl;have cc0:=eI.cell a0;have cc1:=eI.cell a1;have cc2:=eI.cell a2;have cc3:=eI.cell a3;have cc4:=eI.cell a4;have cc5:=eI.cell a5
  rotate_left
  clear hB hA
  ·go_simp;refine (qB (q_l hNW eI.size) 1 (by omega) (by omega)).mono ?_;rintro e wj ⟨vj,rfl,hj,ej⟩;go_wp2_with fail;exact hK.out _ _ ej hj
  clear hB hA
  ·go_simp;refine (qB (q_l hNW eI.size) 0 (by omega) (by omega)).mono ?_;rintro e wj ⟨vj,rfl,hj,ej⟩;go_wp2_with fail;exact hK.out _ _ ej hj
  obtain⟨x14,s14,j14⟩:=hA 1 14;replace j14:Mn.p (Mn.rat N ((1:Int):Rat)) x14 wi:=j14;obtain⟨x15,s15,j15⟩:=hA 2 15;replace j15:Mn.p (Mn.rat N ((0:Int):Rat)) x15 wi:=j15;clear hB hA
  ·obtain⟨ba,Aa,ka,ca,A'a,k'a,c'a,rfl,-,-,-⟩:=qm.parts j14;obtain⟨bb,Ab,kb,cb,A'b,k'b,c'b,rfl,-,-,-⟩:=qm.parts j15;go_simp;exact q_k hK (q3M j14 j15)
  obtain⟨_,s13,rfl⟩:=hA 0 13;obtain⟨x16,s16,j16⟩:=hA 3 16;replace j16:Mn.p (Mn.pl N ((1:Int):Rat) ((0:Int):Rat)) x16 wi:=j16;clear hB hA
  ·have hp:PlV N wi x16 _ _:=j16;obtain⟨y0,y1,y2,y3,y4,y5,y6,y7,rfl,-,-⟩:=hp;go_simp;refine (VI (HGR.out.ext eI) j16 (q_l hNW eI.size)).mono ?_;rintro e wj ⟨vj,rfl,hj,ej⟩;go_wp2_with fail;exact hK.out _ _ ej ⟨vj,rfl,hj⟩
  obtain⟨x17,s17,j17⟩:=hA 4 17;replace j17:Mn.p (Mn.rc N ((3:Int):Rat)) x17 wi:=j17;clear hB hA
  ·go_simp;exact q_k hK j17
  obtain⟨x12,s12,j12⟩:=hA 5 12;replace j12:Mn.p (Mn.rc N ((3:Int):Rat)) x12 wi:=j12;clear hB hA
  ·obtain⟨vj,rfl,hj⟩:=j12;go_simp;exact q_k hK hj
  clear hB hA
  ·go_simp;refine ql ?_;intro wj ej hszj BJ;exact hK.out _ _ ej ⟨_,rfl,eI.size,BJ⟩
  all_goals clear hB hA; go_simp; exact q_k hK rfl
 ·intro i hs;have hi':i=7:=by simpa using hs
  clear hs
  rcases hi' with rfl
  ·refine sft rfl (fun _ _ _ _ h=>h) ?_;intro ac wi eI hB hA;obtain⟨x12,s12,j12⟩:=hA 5 12;replace j12:Mn.p (Mn.rc N ((3:Int):Rat)) x12 wi:=j12;clear hB hA;obtain⟨vj,rfl,hj⟩:=j12;refine⟨(.int .i64 0),.inl ⟨rfl,fun w9 _=>?_⟩,rfl⟩;go_simp
 intro vals wz eZ hJ;have J18:Mn.p (Mn.rat N ((3:Int):Rat)) (vals 6) wz:=hJ 6 (by decide) (by decide);have J19:vals 7=_:=hJ 7 (by decide) (by decide);have J2:Mn.p (Mn.blk W.heap.size (.cells #[.bool false,.slice none 0 0,.bool false,.slice none 0 0] 29 (0,0))) (vals 8) wz:=hJ 8 (by decide) (by decide);clear hJ;simp only [pr,Nat.reduceAdd,J19];clear J19
 generalize vals 6=z18 at J18 ⊢
 generalize vals 8=z2 at J2 ⊢
 obtain⟨gH,rfl,hgH,BH⟩:=J2;obtain⟨bz,Az,kz,cz,Az',kz',cz',rfl,hbz,gz1,gz2⟩:=qm.parts J18;obtain⟨y0,y1,y2,y3,y4,y5,y6,y7⟩:=cells4 BH;refine qi (i:=9) rfl (by kernel_rfl) (by kernel_rfl) (fun K hK=>?_);go_simp;refine hK.out _ _ ?_;clear hK K;try simp only [nr]
 refine qi (i:=10) rfl (by kernel_rfl) (by kernel_rfl) (fun K hK=>?_);go_simp;refine hK.out _ _ ?_;clear hK K;try simp only [nr]
 refine qg (by kernel_rfl) ?_ _;obtain⟨w2,E2,hB2,K2,hs2⟩:=zU (q:=((3:Int):Rat)) BH (by omega) hbz gz1 gz2;rw [E2];have hE2:Ext W w2:=K2.ext eZ hgH;have hN2:N<=w2.heap.size:=q_l hNW hE2.size;replace a0:=hE2.cell a0;replace a1:=hE2.cell a1;replace a2:=hE2.cell a2;replace a3:=hE2.cell a3;replace a4:=hE2.cell a4;replace a5:=hE2.cell a5;clear y0 y1 y2 y3 y4 y5 y6 y7 E2 K2 BH hs2 hbz gz1 gz2 eZ;go_upto_region 3 with (fail);refine q1J [Mn.eq (.agg #[.int .i64 0,.int .i64 0,.int .i64 2,.int .i64 3,.int .i64 2,.slice (some ⟨w.heap.size,0,none⟩) 6 6]),Mn.pt N (sp3 0 0 0),Mn.pt N (sp3 4 0 8),Mn.bl N G49 (sp3 0 0 0) (sp3 4 0 8) (456*4+24000),Mn.bl N G49 (sp3 0 0 0) (sp3 4 0 8) (456*4+24000),Mn.t false,Mn.blt N G49 (sp3 0 0 0) (sp3 4 0 8) (456*4+24000),Mn.i 0,Mn.blk w2.heap.size (.cells #[.bool false,.slice none 0 0,.bool false,.slice none 0 0] 29 (0,0)),Mn.t false,Mn.any,Mn.any] [some 21,some 22,some 23,some 24,some 20,some 25,some 26,some 27,some 5,some 4,none,some 6] [10,11] [7] (rQ 10 2) 2 (by kernel_rfl) ?_ ?_ ?_
 ·show ∀ i,i < 12->_
  iterate 12 refine fs ?_ ?_
  ·exact fz
  all_goals intro hl hs; first | exact absurd hl (by decide) | exact absurd hs (by decide) | (clear hl hs; refine stp rfl ?_; intro ac wi eI hB hA K hK)
  have o1:=oOf (hB 1) rfl;have cc0:=eI.cell a0;have cc1:=eI.cell a1;have cc2:=eI.cell a2;have cc3:=eI.cell a3;have cc4:=eI.cell a4;have cc5:=eI.cell a5
  rotate_left
  clear hB hA
  ·go_simp;refine (yD (q_l hN2 eI.size) 0 0 0 (by omega) (by omega) (by omega)).mono ?_;rintro e wj ⟨cs,rfl,h1,h2,h3,ej⟩;go_wp2_with fail;exact hK.out _ _ ej ⟨cs,rfl,h1,h2,h3⟩
  clear hB hA
  ·go_simp;refine (yD (q_l hN2 eI.size) 4 0 8 (by omega) (by omega) (by omega)).mono ?_;rintro e wj ⟨cs,rfl,h1,h2,h3,ej⟩;go_wp2_with fail;exact hK.out _ _ ej ⟨cs,rfl,h1,h2,h3⟩
  obtain⟨_,s21,rfl⟩:=hA 0 21;obtain⟨x22,s22,j22⟩:=hA 1 22;replace j22:Mn.p (Mn.pt N (sp3 0 0 0)) x22 wi:=j22;obtain⟨x23,s23,j23⟩:=hA 2 23;replace j23:Mn.p (Mn.pt N (sp3 4 0 8)) x23 wi:=j23;clear hB hA
  ·obtain⟨ca,rfl,k1,k2,k3⟩:=j22;obtain⟨cb,rfl,k4,k5,k6⟩:=j23;go_simp;refine (q57 (HGR.out.ext ((hE2).trans eI)) (q_l hN2 eI.size) k1 k2 k3 k4 k5 k6).mono ?_;rintro e wj ⟨vj,tj,rfl,hj,hk,hb,ej⟩;go_wp2_with fail;exact hK.out _ _ ej ⟨vj,tj,rfl,hj,hk,hb⟩
  obtain⟨x24,s24,j24⟩:=hA 3 24;replace j24:Mn.p (Mn.bl N G49 (sp3 0 0 0) (sp3 4 0 8) (456*4+24000)) x24 wi:=j24;clear hB hA
  ·go_simp;exact q_k hK j24
  obtain⟨x20,s20,j20⟩:=hA 4 20;replace j20:Mn.p (Mn.bl N G49 (sp3 0 0 0) (sp3 4 0 8) (456*4+24000)) x20 wi:=j20;clear hB hA
  ·obtain⟨vj,tj,rfl,-⟩:=j20;go_simp;exact q_k hK rfl
  obtain⟨x20,s20,j20⟩:=hA 4 20;replace j20:Mn.p (Mn.bl N G49 (sp3 0 0 0) (sp3 4 0 8) (456*4+24000)) x20 wi:=j20;clear hB hA
  ·obtain⟨vj,tj,rfl,hj⟩:=j20;go_simp;exact q_k hK ⟨tj,hj⟩
  clear hB hA
  ·go_simp;refine ql ?_;intro wj ej hszj BJ;exact hK.out _ _ ej ⟨_,rfl,eI.size,BJ⟩
  obtain⟨_,s25,rfl⟩:=hA 5 25
  rotate_left
  all_goals clear hB hA; go_simp; exact q_k hK rfl
 ·intro i hs;have hi':i=7:=by simpa using hs
  clear hs
  rcases hi' with rfl
  ·refine sft rfl (fun _ _ _ _ h=>h) ?_;intro ac wi eI hB hA;obtain⟨x20,s20,j20⟩:=hA 4 20;replace j20:Mn.p (Mn.bl N G49 (sp3 0 0 0) (sp3 4 0 8) (456*4+24000)) x20 wi:=j20;clear hB hA;obtain⟨vj,tj,rfl,-⟩:=j20;refine⟨(.int .i64 0),.inl ⟨rfl,fun w9 _=>?_⟩,rfl⟩;go_simp
 intro vals wz eZ hJ;have J26:Mn.p (Mn.blt N G49 (sp3 0 0 0) (sp3 4 0 8) (456*4+24000)) (vals 6) wz:=hJ 6 (by decide) (by decide);have J27:vals 7=_:=hJ 7 (by decide) (by decide);have J5:Mn.p (Mn.blk w2.heap.size (.cells #[.bool false,.slice none 0 0,.bool false,.slice none 0 0] 29 (0,0))) (vals 8) wz:=hJ 8 (by decide) (by decide);have J4:vals 9=_:=hJ 9 (by decide) (by decide);clear hJ;simp only [pr,Nat.reduceAdd,J27,J4];clear J27 J4
 generalize vals 6=z26 at J26 ⊢
 generalize vals 8=z5 at J5 ⊢
 obtain⟨t,JT,hkt,hbt⟩:=J26;obtain⟨gT,rfl,hgT,BB⟩:=J5;obtain⟨bz,Az,kz,cz,Az',kz',cz',rfl,hbz,gz1,gz2⟩:=qm.parts JT;obtain⟨y0,y1,y2,y3,y4,y5,y6,y7⟩:=cells4 BB;refine qi (i:=10) rfl (by kernel_rfl) (by kernel_rfl) (fun K hK=>?_);go_simp;refine hK.out _ _ ?_;clear hK K;try simp only [nr]
 refine qi (i:=11) rfl (by kernel_rfl) (by kernel_rfl) (fun K hK=>?_);go_simp;refine hK.out _ _ ?_;clear hK K;try simp only [nr]
 refine qg (by kernel_rfl) ?_ _;obtain⟨w3,E3,hB3,K3,hs3⟩:=zU (q:=t) BB (by omega) hbz gz1 gz2;rw [E3];have ew3:Ext w2 w3:=K3.ext eZ hgT;have hE3:Ext W w3:=hE2.trans ew3;have hN3:N<=w3.heap.size:=q_l hNW hE3.size;replace a0:=ew3.cell a0;replace a1:=ew3.cell a1;replace a2:=ew3.cell a2;replace a3:=ew3.cell a3;replace a4:=ew3.cell a4;replace a5:=ew3.cell a5;clear y0 y1 y2 y3 y4 y5 y6 y7 E3 K3 BB hs3 hbz gz1 gz2 eZ;have HB2:=q_h (hB2.ext ew3);clear hB2;go_upto_region 4 with (fail);refine q1J [Mn.eq (.agg #[.int .i64 0,.int .i64 0,.int .i64 2,.int .i64 3,.int .i64 2,.slice (some ⟨w.heap.size,0,none⟩) 6 6]),Mn.pt N (sp3 0 0 0),Mn.pt N (sp3 4 0 12),Mn.cl N,Mn.cl N,Mn.t true,Mn.rat N 0,Mn.i 0,Mn.blk w3.heap.size (.cells #[.bool false,.slice none 0 0,.bool false,.slice none 0 0] 29 (0,0)),Mn.t true,Mn.any,Mn.any] [some 29,some 30,some 31,some 32,some 28,some 33,some 34,some 35,some 8,some 7,none,some 9] [10,11] [7] (rQ 10 2) 2 (by kernel_rfl) ?_ ?_ ?_
 ·show ∀ i,i < 12->_
  iterate 12 refine fs ?_ ?_
  ·exact fz
  all_goals intro hl hs; first | exact absurd hl (by decide) | exact absurd hs (by decide) | (clear hl hs; refine stp rfl ?_; intro ac wi eI hB hA K hK)
  have o1:=oOf (hB 1) rfl;have cc0:=eI.cell a0;have cc1:=eI.cell a1;have cc2:=eI.cell a2;have cc3:=eI.cell a3;have cc4:=eI.cell a4;have cc5:=eI.cell a5
  rotate_left
  clear hB hA
  ·go_simp;refine (yD (q_l hN3 eI.size) 0 0 0 (by omega) (by omega) (by omega)).mono ?_;rintro e wj ⟨cs,rfl,h1,h2,h3,ej⟩;go_wp2_with fail;exact hK.out _ _ ej ⟨cs,rfl,h1,h2,h3⟩
  clear hB hA
  ·go_simp;refine (yD (q_l hN3 eI.size) 4 0 12 (by omega) (by omega) (by omega)).mono ?_;rintro e wj ⟨cs,rfl,h1,h2,h3,ej⟩;go_wp2_with fail;exact hK.out _ _ ej ⟨cs,rfl,h1,h2,h3⟩
  obtain⟨_,s29,rfl⟩:=hA 0 29;obtain⟨x30,s30,j30⟩:=hA 1 30;replace j30:Mn.p (Mn.pt N (sp3 0 0 0)) x30 wi:=j30;obtain⟨x31,s31,j31⟩:=hA 2 31;replace j31:Mn.p (Mn.pt N (sp3 4 0 12)) x31 wi:=j31;clear hB hA
  ·obtain⟨ca,rfl,k1,k2,k3⟩:=j30;obtain⟨cb,rfl,k4,k5,k6⟩:=j31;go_simp;refine (q56 (HGR.out.ext ((hE3).trans eI)) (q_l hN3 eI.size) k1 k2 k3 k4 k5 k6).mono ?_;rintro e wj ⟨vj,rfl,hj,ej⟩;go_wp2_with fail;exact hK.out _ _ ej ⟨vj,rfl,hj⟩
  obtain⟨x32,s32,j32⟩:=hA 3 32;replace j32:Mn.p (Mn.cl N) x32 wi:=j32;clear hB hA
  ·go_simp;exact q_k hK j32
  obtain⟨x28,s28,j28⟩:=hA 4 28;replace j28:Mn.p (Mn.cl N) x28 wi:=j28;clear hB hA
  ·obtain⟨vj,rfl,-⟩:=j28;go_simp;exact q_k hK rfl
  obtain⟨x28,s28,j28⟩:=hA 4 28;replace j28:Mn.p (Mn.cl N) x28 wi:=j28;clear hB hA
  ·obtain⟨vj,rfl,hj⟩:=j28;go_simp;exact q_k hK hj
  clear hB hA
  ·go_simp;refine ql ?_;intro wj ej hszj BJ;exact hK.out _ _ ej ⟨_,rfl,eI.size,BJ⟩
  obtain⟨_,s33,rfl⟩:=hA 5 33
  rotate_left
  all_goals clear hB hA; go_simp; exact q_k hK rfl
 ·intro i hs;have hi':i=7:=by simpa using hs
  clear hs
  rcases hi' with rfl
  ·refine sft rfl (fun _ _ _ _ h=>h) ?_;intro ac wi eI hB hA;obtain⟨x28,s28,j28⟩:=hA 4 28;replace j28:Mn.p (Mn.cl N) x28 wi:=j28;clear hB hA;obtain⟨vj,rfl,-⟩:=j28;refine⟨(.int .i64 0),.inl ⟨rfl,fun w9 _=>?_⟩,rfl⟩;go_simp
 intro vals wz eZ hJ;have J34:Mn.p (Mn.rat N 0) (vals 6) wz:=hJ 6 (by decide) (by decide);have J35:vals 7=_:=hJ 7 (by decide) (by decide);have J8:Mn.p (Mn.blk w3.heap.size (.cells #[.bool false,.slice none 0 0,.bool false,.slice none 0 0] 29 (0,0))) (vals 8) wz:=hJ 8 (by decide) (by decide);have J7:vals 9=_:=hJ 9 (by decide) (by decide);clear hJ;simp only [pr,Nat.reduceAdd,J35,J7];clear J35 J7
 generalize vals 6=z34 at J34 ⊢
 generalize vals 8=z8 at J8 ⊢
 obtain⟨gB,rfl,hgB,BB⟩:=J8;obtain⟨bz,Az,kz,cz,Az',kz',cz',rfl,hbz,gz1,gz2⟩:=qm.parts J34;obtain⟨y0,y1,y2,y3,y4,y5,y6,y7⟩:=cells4 BB;refine qi (i:=10) rfl (by kernel_rfl) (by kernel_rfl) (fun K hK=>?_);go_simp;refine hK.out _ _ ?_;clear hK K;try simp only [nr]
 refine qi (i:=11) rfl (by kernel_rfl) (by kernel_rfl) (fun K hK=>?_);go_simp;refine hK.out _ _ ?_;clear hK K;try simp only [nr]
 refine qg (by kernel_rfl) ?_ _;obtain⟨w4,E3,hB4,K3,hs3⟩:=zU (q:=(0:Rat)) BB (by omega) hbz gz1 gz2;rw [E3];have ew4:Ext w3 w4:=K3.ext eZ hgB;have hE4:Ext W w4:=hE3.trans ew4;have hN4:N<=w4.heap.size:=q_l hNW hE4.size;replace a0:=ew4.cell a0;replace a1:=ew4.cell a1;replace a2:=ew4.cell a2;replace a3:=ew4.cell a3;replace a4:=ew4.cell a4;replace a5:=ew4.cell a5;clear y0 y1 y2 y3 y4 y5 y6 y7 E3 K3 BB hs3 hbz gz1 gz2 eZ;have hBH:=HB2.out.ext ew4;have hBT:=hB3.ext ew4;clear HB2 hB3 hB4 ew3 ew4;go_upto_region 5 with (fail);obtain⟨nx,Ax,kx,cx,A'x,k'x,c'x,Bx,hbx,yx,zx⟩:=hBH;obtain⟨x0,x1,x2,x3,-⟩:=cells4 Bx;have hRx:qm N w4 (.agg #[.bool nx,.slice Ax kx cx,.bool false,.slice A'x k'x c'x]) (((3:Int):Rat)):=qm.mk hbx yx zx;obtain⟨ns,As,ks,cs,A's,k's,c's,Bs,hbs,ys,zs⟩:=hBT;obtain⟨s0,s1,s2,s3,-⟩:=cells4 Bs;have hRs:qm N w4 (.agg #[.bool ns,.slice As ks cs,.bool false,.slice A's k's c's]) (t):=qm.mk hbs ys zs;refine xe [Mn.i 0,Mn.t true,Mn.t true,Mn.rat N (((3:Int):Rat)),Mn.rat N ((3:Int):Rat),Mn.t true,Mn.t true,Mn.t true,Mn.i 0,Mn.t true,Mn.t true,Mn.t true,Mn.t false,Mn.t true,Mn.t true,Mn.t true,Mn.eq (.agg #[.int .i64 0,.int .i64 0,.int .i64 2,.int .i64 3,.int .i64 2,.slice (some ⟨w.heap.size,0,none⟩) 6 6]),Mn.pt N (sp3 0 0 0),Mn.pt N (sp3 4 0 8),Mn.rat N (t),Mn.i 0,Mn.t true,Mn.t true,Mn.t true,Mn.i 0,Mn.t true,Mn.t true,Mn.t true,Mn.t true,Mn.t true,Mn.t true] (sM [36,37,38,39,40,41,42,43,44,45,46,47,48,49,50,51,52,53,54,55,56,57,58,59,60,61,62,63,64,65,0]) [] (rQ 31 0) 0 (by kernel_rfl) ?_ ?_
 ·show ∀ i,i < 31->_
  iterate 31 refine fs ?_ ?_
  ·exact fz
  all_goals intro hl; clear hl; refine stp rfl ?_; intro ac wi eI hB hA K hK
  have o3:=oOf (hB 3) rfl
  rotate_left
  obtain⟨_,s36,rfl⟩:=hA 0 36
  rotate_left
  obtain⟨_,s37,rfl⟩:=hA 1 37
  rotate_left
  obtain⟨_,s38,rfl⟩:=hA 2 38;have o2:=oOf (hB 2) rfl;clear hB hA;rw [if_pos (by simp [Region.wanted,yielded,s38])];have cc0:=eI.cell x0;have cc1:=eI.cell x1;have cc2:=eI.cell x2;have cc3:=eI.cell x3
  ·go_simp;exact q_k hK (hRx.ext eI)
  obtain⟨_,s38,rfl⟩:=hA 2 38;clear hB hA;rw [if_pos (by simp [Region.wanted,yielded,s38])]
  ·go_simp;refine (qB (q_l hN4 eI.size) 3 (by omega) (by omega)).mono ?_;rintro e wj ⟨vj,rfl,hj,ej⟩;go_wp2_with fail;exact hK.out _ _ ej hj
  obtain⟨_,s38,rfl⟩:=hA 2 38;obtain⟨x39,s39,j39⟩:=hA 3 39;replace j39:Mn.p (Mn.rat N (((3:Int):Rat))) x39 wi:=j39;obtain⟨x40,s40,j40⟩:=hA 4 40;replace j40:Mn.p (Mn.rat N ((3:Int):Rat)) x40 wi:=j40;clear hB hA;rw [if_pos (by simp [Region.wanted,yielded,s38])]
  ·go_simp;refine (q3K j39 j40 (zT (by omega)) rfl).mono ?_;rintro e wj ⟨rfl,ej⟩;go_wp2_with fail;exact hK.out _ _ ej rfl
  obtain⟨_,s38,rfl⟩:=hA 2 38;obtain⟨_,s41,rfl⟩:=hA 5 41
  rotate_left
  obtain⟨_,s42,rfl⟩:=hA 6 42
  rotate_left
  obtain⟨_,s43,rfl⟩:=hA 7 43;have o6:=oOf (hB 6) rfl;rw [if_pos (by simp [Region.wanted,yielded,s43])]
  rotate_left
  obtain⟨_,s43,rfl⟩:=hA 7 43;obtain⟨_,s44,rfl⟩:=hA 8 44;rw [if_pos (by simp [Region.wanted,yielded,s43])]
  rotate_left
  obtain⟨_,s43,rfl⟩:=hA 7 43;obtain⟨_,s45,rfl⟩:=hA 9 45
  rotate_left
  obtain⟨_,s46,rfl⟩:=hA 10 46
  rotate_left
  obtain⟨_,s47,rfl⟩:=hA 11 47;have o4:=oOf (hB 4) rfl;rw [if_pos (by simp [Region.wanted,yielded,s47])]
  rotate_left
  obtain⟨_,s47,rfl⟩:=hA 11 47;obtain⟨_,s48,rfl⟩:=hA 12 48;rw [if_pos (by simp [Region.wanted,yielded,s47])]
  rotate_left
  obtain⟨_,s47,rfl⟩:=hA 11 47;obtain⟨_,s49,rfl⟩:=hA 13 49
  rotate_left
  obtain⟨_,s50,rfl⟩:=hA 14 50
  rotate_left
  obtain⟨_,s51,rfl⟩:=hA 15 51;have o1:=oOf (hB 1) rfl;rw [if_pos (by simp [Region.wanted,yielded,s51])];have cc0:=eI.cell a0;have cc1:=eI.cell a1;have cc2:=eI.cell a2;have cc3:=eI.cell a3;have cc4:=eI.cell a4;have cc5:=eI.cell a5
  rotate_left
  obtain⟨_,s51,rfl⟩:=hA 15 51;clear hB hA;rw [if_pos (by simp [Region.wanted,yielded,s51])]
  ·go_simp;refine (yD (q_l hN4 eI.size) 0 0 0 (by omega) (by omega) (by omega)).mono ?_;rintro e wj ⟨cs,rfl,h1,h2,h3,ej⟩;go_wp2_with fail;exact hK.out _ _ ej ⟨cs,rfl,h1,h2,h3⟩
  obtain⟨_,s51,rfl⟩:=hA 15 51;clear hB hA;rw [if_pos (by simp [Region.wanted,yielded,s51])]
  ·go_simp;refine (yD (q_l hN4 eI.size) 4 0 8 (by omega) (by omega) (by omega)).mono ?_;rintro e wj ⟨cs,rfl,h1,h2,h3,ej⟩;go_wp2_with fail;exact hK.out _ _ ej ⟨cs,rfl,h1,h2,h3⟩
  obtain⟨_,s51,rfl⟩:=hA 15 51;have o5:=oOf (hB 5) rfl;clear hB hA;rw [if_pos (by simp [Region.wanted,yielded,s51])];have cc0:=eI.cell s0;have cc1:=eI.cell s1;have cc2:=eI.cell s2;have cc3:=eI.cell s3
  ·go_simp;exact q_k hK (hRs.ext eI)
  obtain⟨_,s51,rfl⟩:=hA 15 51;obtain⟨_,s52,rfl⟩:=hA 16 52;obtain⟨x53,s53,j53⟩:=hA 17 53;replace j53:Mn.p (Mn.pt N (sp3 0 0 0)) x53 wi:=j53;obtain⟨x54,s54,j54⟩:=hA 18 54;replace j54:Mn.p (Mn.pt N (sp3 4 0 8)) x54 wi:=j54;obtain⟨x55,s55,j55⟩:=hA 19 55;replace j55:Mn.p (Mn.rat N (t)) x55 wi:=j55;clear hB hA;rw [if_pos (by simp [Region.wanted,yielded,s51])]
  ·obtain⟨ca,rfl,k1,k2,k3⟩:=j53;obtain⟨cb,rfl,k4,k5,k6⟩:=j54;go_simp;refine (JW (HGR.out.ext (hE4.trans eI)) k1 k2 k3 k4 k5 k6 j55 hkt hbt).mono ?_;rintro e wj ⟨rfl,ej⟩;go_wp2_with fail;exact hK.out _ _ ej rfl
  obtain⟨_,s51,rfl⟩:=hA 15 51;obtain⟨_,s56,rfl⟩:=hA 20 56;rw [if_pos (by simp [Region.wanted,yielded,s51])]
  rotate_left
  obtain⟨_,s51,rfl⟩:=hA 15 51;obtain⟨_,s57,rfl⟩:=hA 21 57
  rotate_left
  obtain⟨_,s58,rfl⟩:=hA 22 58
  rotate_left
  obtain⟨_,s59,rfl⟩:=hA 23 59;have o9:=oOf (hB 9) rfl;rw [if_pos (by simp [Region.wanted,yielded,s59])]
  rotate_left
  obtain⟨_,s59,rfl⟩:=hA 23 59;obtain⟨_,s60,rfl⟩:=hA 24 60;rw [if_pos (by simp [Region.wanted,yielded,s59])]
  rotate_left
  obtain⟨_,s59,rfl⟩:=hA 23 59;obtain⟨_,s61,rfl⟩:=hA 25 61
  rotate_left
  obtain⟨_,s62,rfl⟩:=hA 26 62
  rotate_left
  obtain⟨_,s63,rfl⟩:=hA 27 63;have o7:=oOf (hB 7) rfl;rw [if_pos (by simp [Region.wanted,yielded,s63])]
  rotate_left
  obtain⟨_,s63,rfl⟩:=hA 27 63;obtain⟨_,s64,rfl⟩:=hA 28 64
  rotate_left
  obtain⟨_,s65,rfl⟩:=hA 29 65
  rotate_left
  all_goals clear hB hA; go_simp; exact q_k hK rfl
 intro vals wz eZ hJ;have J0:vals 30=_:=hJ 30 (by decide) (by decide);clear hJ;simp only [pr,Nat.reduceAdd,J0];clear J0;refine qg (by kernel_rfl) ?_ _;go_wp2;go_ret;exact⟨rfl,(hE.trans hE4).trans eZ⟩
structure Sta where
 ax:Int
 ay:Int
 az:Int
 qa:Int
 qb:Int
 qc:Int
 qd:Int
 f:Int
 cx:Int
 cy:Int
def Sta.v (S:Sta):Value:=.agg #[.int .i64 S.ax,.int .i64 S.ay,.int .i64 S.az,.int .i64 S.qa,.int .i64 S.qb,.int .i64 S.qc,.int .i64 S.qd,.int .i64 S.f,.int .i64 S.cx,.int .i64 S.cy]
def quV (a b c d:Int):Value:=.agg #[.int .i64 a,.int .i64 b,.int .i64 c,.int .i64 d]
def jb (a b c d:Int):Int:=if a=0/\b=0/\c=0/\d=0 then 1 else if zB a || zB b || zB c || zB d then 3 else 0
def l5 (S:Sta) (i:Nat):Int:=if i=0 then S.ax else if i=1 then S.ay else if i=2 then S.az else if i=3 then S.cx else S.cy
def l4 (a b c d:Int) (i:Nat):Int:=if i=0 then a else if i=1 then b else if i=2 then c else d
def zI (S:Sta):Int:=if (jw 5 (fun i=>zB (l5 S i)) || decide (S.f < 1)) || decide (1048576 < S.f) then 2 else jb S.qa S.qb S.qc S.qd
theorem WC {v:Value} {z:Nat->Int} (h:IzV N lo hi w v n z) (gb:Nat) (g:Nat->Bool)
  (hf:∀ i,i < n->∀ w' u,Ext w w'->IsI u (z i)->Calls Tryz.prog 213 #[u,.pointer (some ⟨gb,0,none⟩)] w' (zX w' (.bool (g i)))) :
  Calls Tryz.prog 146 #[v,.func (.func 213) #[] #[.pointer (some ⟨gb,0,none⟩)]] w (Vk w (jw n g)):=by
 obtain⟨r,hr⟩:=qf (jw n g);rw [<-hr.out];obtain⟨A,c,rfl,hnc,hcm⟩:=h.form;unfold maxLen at hcm;have hI:=h;have HF:=q_h hf;clear h hf;go_enter Tryz.func146,Tryz.ntmps146;go_wp2
 go_loopw [8] (fun i wr=>∃ k:Nat,k<=n/\i=.int .i64 k/\Hid (∀ j,j < k->g j=false)/\Ext w wr) (fun i _=>n - (intOf i).toNat)
 case atStart=>exact⟨0,Nat.zero_le _,rfl,fun j hj=>absurd hj (by omega),Ext.refl w⟩
 case round =>
  obtain⟨k,hk,rfl,HA,hE⟩:=hrel
  by_cases hlt:k < n
  ·(obtain⟨b,off,rfl,hx⟩:=(hI.ext hE).addr (by omega)); (have p0:=hx k hlt); (have hv:IsI (Value.int .i64 (z k)) (z k):=rfl)
   clear hx;go_wp2_with (go_at_call 213; refine q_o ?_);refine (HF.out k hlt _ _ hE hv).mono ?_;rintro e w1 ⟨rfl,e1⟩;replace hE:=hE.trans e1;obtain⟨o,ho⟩:=qf (g k);rw [<-ho.out];cases o with
   | false =>
    go_wp2;go_roundw
    case rel=>exact⟨k+1,by omega,by go_num,xu (p:=fun j=>g j=false) HA.out ho.out.symm,hE⟩
    case measure=>simp [intOf]; omega
   | true =>
    have HT:Hid (r=true):=by rw [Hid,hr.out]; exact jr hlt ho.out.symm
    go_wp2;go_ret;exact⟨_,rfl,by rw [Hid,HT.out]; symm; simp,hE⟩
  ·have HT:Hid (r=false):=by rw [Hid,hr.out]; exact kM.2 (fun j hj=>HA.out j (by omega))
   go_wp2;go_ret;exact⟨_,rfl,by rw [Hid,HT.out]; rfl,hE⟩
theorem q1x {v:Value} {z:Nat->Int} (h:IzV N lo hi w v n z) (gb:Nat) (g:Nat->Bool)
  (hf:∀ i,i < n->∀ w' u,Ext w w'->IsI u (z i)->Calls Tryz.prog 213 #[u,.pointer (some ⟨gb,0,none⟩)] w' (zX w' (.bool (g i)))) :
  Calls Tryz.prog 95 #[v,.func (.func 213) #[] #[.pointer (some ⟨gb,0,none⟩)]] w (zX w (.bool (jw n g))):=by
 obtain⟨r,hr⟩:=qf (jw n g);rw [<-hr.out];obtain⟨A,c,rfl,hnc,hcm⟩:=h.form;have hI:=h;have HF:=q_h hf;clear h hf;go_enter Tryz.func95,Tryz.ntmps95;go_wp2_with (go_at_call 146; refine q_o ?_);refine (WC hI gb g HF.out).mono ?_;rintro e w1 ⟨z,rfl,hz,e1⟩;rw [<-hr.out] at hz;go_wp2;go_ret;exact⟨qw hz.out.symm,e1⟩
theorem q3W {gb:Nat} (hb:w.cell? ⟨gb,0,none⟩=some (.int .i64 1048576)) (z:Int) :
  Calls Tryz.prog 213 #[.int .i64 z,.pointer (some ⟨gb,0,none⟩)] w (zX w (.bool (zB z))):=by
 obtain⟨r,hr⟩:=qf (zB z);rw [<-hr.out]
 by_cases h0:z < -1048576
 ·have HR:Hid (true=r):=by rw [Hid,hr.out]; unfold zB; rw [q_t h0]; rfl
  have t0:decide (z < -1048576)=true:=q_t h0;clear h0;go_enter Tryz.func213,Tryz.ntmps213;go_wp2;go_ret;exact⟨qw HR.out,Ext.refl w⟩
 ·have t0:decide (z < -1048576)=false:=q_f h0
  by_cases h1:1048576 < z
  ·have HR:Hid (true=r):=by rw [Hid,hr.out]; unfold zB; rw [q_t h1,Bool.or_true]
   have t1:decide (1048576 < z)=true:=q_t h1;clear h0 h1;go_enter Tryz.func213,Tryz.ntmps213;go_wp2;go_ret;exact⟨qw HR.out,Ext.refl w⟩
  ·have HR:Hid (false=r):=by rw [Hid,hr.out]; unfold zB; rw [q_f h0,q_f h1]; rfl
   have t1:decide (1048576 < z)=false:=q_f h1;clear h0 h1;go_enter Tryz.func213,Tryz.ntmps213;go_wp2;go_ret;exact⟨qw HR.out,Ext.refl w⟩
theorem q4U {v:Value} {z:Nat->Int} (h:IzV N lo hi w v n z) :
  Calls Tryz.prog 174 #[.int .i64 1048576,v] w (zX w (.bool (jw n (fun i=>zB (z i))))):=by
 obtain⟨r,hr⟩:=qf (jw n (fun i=>zB (z i)));rw [<-hr.out];obtain⟨A,c,rfl,hnc,hcm⟩:=h.form;have HI:=q_h h;clear h;go_enter Tryz.func174,Tryz.ntmps174;go_wp2_with (go_at_call 95; refine q_o ?_);refine qM ?_;intro W hE hsz B0
 refine (q1x (HI.out.ext hE) w.heap.size (fun i=>zB (z i)) (fun i hi w' u e hu=>by
  have hu':u=.int .i64 (z i):=hu;rw [hu']
  exact q3W (e.cell (zA B0).1) (z i))).mono ?_
 rw [<-hr.out];rintro e w1 ⟨rfl,e1⟩;go_wp2;go_ret;exact⟨rfl,hE.trans e1⟩
theorem q1H (a b c d:Int) :
  Calls Tryz.prog 238 #[quV a b c d] w (zX w (.agg #[.int .i64 a,.int .i64 b,.int .i64 c,.int .i64 d])):=by
 unfold quV;go_enter Tryz.func238,Tryz.ntmps238;go_upto_region 1 with (fail);refine kE ?_;intro W hE hsz B0 B1;obtain⟨p0,p1,p2,p3,-⟩:=cells4 B0;obtain⟨q0,q1,q2,q3,q4,q5,q6,q7⟩:=cells4 B1;go_wp2;obtain⟨wR,ER,FR,UR⟩:=ex4 B1 (.int .i64 a) (.int .i64 b) (.int .i64 c) (.int .i64 d);rw [ER];refine bodyPost_ret (results_cell_row rfl _ _ _ _ _ _ _ rfl FR Tryz.underlying216 rfl (by kernel_rfl)) rfl ?_;exact⟨rfl,UR.ext hE (by omega)⟩
theorem q1I (a b c d:Int) :
  Calls Tryz.prog 212 #[quV a b c d] w (zX w (.int .i64 (jb a b c d))):=by
 obtain⟨r,hr⟩:=qf (jb a b c d);rw [<-hr.out];unfold quV;go_enter Tryz.func212,Tryz.ntmps212;go_upto_region 1 with (fail);refine ql ?_;intro W hE hsz B0;obtain⟨p0,p1,p2,p3,-⟩:=cells4 B0;obtain⟨zb,hzb⟩:=qf (decide (a=0/\b=0/\c=0/\d=0))
 go_cut [7] (fun v wx=>v=.bool zb/\wx=W)
 case first =>
  by_cases ha:a=0
  case neg =>
   have HZ:Hid (false=zb):=by rw [Hid,hzb.out,q_f (fun h=>ha h.1)]
   go_wp2_with fail
   go_meet
   exact⟨by rw [<-HZ.out],rfl⟩
  subst ha
  by_cases hb:b=0
  case neg =>
   have HZ:Hid (false=zb):=by rw [Hid,hzb.out,q_f (fun h=>hb h.2.1)]
   go_wp2_with fail
   go_meet
   exact⟨by rw [<-HZ.out],rfl⟩
  subst hb
  by_cases hc:c=0
  case neg =>
   have HZ:Hid (false=zb):=by rw [Hid,hzb.out,q_f (fun h=>hc h.2.2.1)]
   go_wp2_with fail
   go_meet
   exact⟨by rw [<-HZ.out],rfl⟩
  subst hc
  by_cases hd:d=0
  case neg =>
   have HZ:Hid (false=zb):=by rw [Hid,hzb.out,q_f (fun h=>hd h.2.2.2)]
   go_wp2_with fail
   go_meet
   exact⟨by rw [<-HZ.out],rfl⟩
  subst hd;have HZ:Hid (true=zb):=by rw [Hid,hzb.out,decide_eq_true ⟨rfl,rfl,rfl,rfl⟩]
  go_wp2_with fail
  go_meet
  exact⟨by rw [<-HZ.out],rfl⟩
 obtain⟨rfl,rfl⟩:=hcut;obtain⟨W,hWc⟩:∃ x,x=wc:=⟨_,rfl⟩
 subst hWc;cases zb with
 | true =>
  have HR:Hid (r=1):=by
   rw [Hid,hr.out];unfold jb;rw [if_pos (of_decide_eq_true hzb.out.symm)]
  go_wp2;go_ret;rw [HR.out];exact⟨rfl,hE⟩
 | false =>
 have HR:Hid (r=if zB a || zB b || zB c || zB d then 3 else 0):=by
  rw [Hid,hr.out];unfold jb;rw [if_neg (of_decide_eq_false hzb.out.symm)]
 clear hzb;go_wp2_with (go_at_call 238; refine q_o ?_);refine (q1H a b c d).mono ?_;rintro e w1 ⟨rfl,e1⟩;replace hE:=hE.trans e1;clear p0 p1 p2 p3 B0 e1;go_wp2
 go_loopw [10] (fun iv wr=>∃ i:Nat,i<=4/\iv=.int .i64 i/\Hid (∀ j,j < i->zB (l4 a b c d j)=false)/\wr=w1) (fun iv _=>4 - (intOf iv).toNat)
 case atStart=>exact⟨0,by omega,rfl,fun j hj=>absurd hj (by omega),rfl⟩
 case round =>
  obtain⟨i,hi,rfl,hA,rfl⟩:=hrel
  by_cases hi4:i < 4
  case neg =>
   obtain rfl:i=4:=by omega
   have HR2:Hid (r=0):=by
    have k0:=hA.out 0 (by omega);have k1:=hA.out 1 (by omega);have k2:=hA.out 2 (by omega);have k3:=hA.out 3 (by omega);have k0':zB a=false:=k0;have k1':zB b=false:=k1;have k2':zB c=false:=k2;have k3':zB d=false:=k3;rw [Hid,HR.out,k0',k1',k2',k3']
    rfl
   go_wp2;go_ret;rw [HR2.out];exact⟨rfl,hE⟩
  have x0:∀ w:World,(Instr.index 216 (.agg #[.int .i64 a,.int .i64 b,.int .i64 c,.int .i64 d]) (.int .i64 0)).run Tryz.prog w=.ok (.int .i64 a) w:=fun _=>by kernel_rfl
  have x1:∀ w:World,(Instr.index 216 (.agg #[.int .i64 a,.int .i64 b,.int .i64 c,.int .i64 d]) (.int .i64 1)).run Tryz.prog w=.ok (.int .i64 b) w:=fun _=>by kernel_rfl
  have x2:∀ w:World,(Instr.index 216 (.agg #[.int .i64 a,.int .i64 b,.int .i64 c,.int .i64 d]) (.int .i64 2)).run Tryz.prog w=.ok (.int .i64 c) w:=fun _=>by kernel_rfl
  have x3:∀ w:World,(Instr.index 216 (.agg #[.int .i64 a,.int .i64 b,.int .i64 c,.int .i64 d]) (.int .i64 3)).run Tryz.prog w=.ok (.int .i64 d) w:=fun _=>by kernel_rfl
  obtain⟨u,hu⟩:=qf (l4 a b c d i)
  have HFT:Hid (zB u=true->r=3):=fun h=>by
   rw [HR.out];have hi':i=0\/i=1\/i=2\/i=3:=by omega
   rw [hu.out] at h
   rcases hi' with rfl | rfl | rfl | rfl
   ·have h':zB a=true:=h;rw [h']
    rfl
   ·have h':zB b=true:=h;rw [h',Bool.or_true]
    rfl
   ·have h':zB c=true:=h;rw [h',Bool.or_true]
    rfl
   ·have h':zB d=true:=h;rw [h',Bool.or_true]
    rfl
  have hi4':(i:Int) < 4:=by omega
  go_upto_region 5 with (fail)
  go_cut [4] (fun v wx=>v=.int .i64 u/\wx=wr)
  case first =>
   have hi':i=0\/i=1\/i=2\/i=3:=by omega
   rcases hi' with rfl | rfl | rfl | rfl
   all_goals (go_wp2_with fail; go_meet; exact⟨by rw [hu.out]; rfl,by first | trivial | rfl⟩)
  obtain⟨rfl,rfl⟩:=hcut;clear x0 x1 x2 x3
  by_cases k0:u < -1048576
  ·have HR3:Hid (r=3):=HFT.out (by unfold zB; rw [decide_eq_true k0]; rfl);have t0:decide (u < -1048576)=true:=decide_eq_true k0;clear k0;go_wp2;go_ret;rw [HR3.out];exact⟨rfl,hE⟩
  have t0:decide (u < -1048576)=false:=decide_eq_false k0
  by_cases k1:1048576 < u
  ·have HR3:Hid (r=3):=HFT.out (by unfold zB; rw [decide_eq_true k1,Bool.or_true]);have t1:decide (1048576 < u)=true:=decide_eq_true k1;clear k0 k1;go_wp2;go_ret;rw [HR3.out];exact⟨rfl,hE⟩
  have t1:decide (1048576 < u)=false:=decide_eq_false k1
  have HA2:Hid (∀ j,j < i+1->zB (l4 a b c d j)=false):=fun j hj=>by
   by_cases hji:j=i
   ·rw [hji,<-hu.out];unfold zB;rw [t0,t1]
    rfl
   ·exact hA.out j (by omega)
  clear k0 k1;go_wp2;go_roundw
  case rel=>exact⟨i+1,by omega,by go_num,HA2.out,by first | trivial | rfl⟩
  case measure=>simp [intOf]; omega
theorem zi {t:TypeId} {x0 x1 x2 x3 x4 x5 x6 x7 x8 x9:Value} (h:w.heap[g]?=some (.cells #[x0,x1,x2,x3,x4,x5,x6,x7,x8,x9] t (0,0))):w.cell? ⟨g,0,none⟩=some x0/\w.cell? ⟨g,1,none⟩=some x1/\w.cell? ⟨g,2,none⟩=some x2/\w.cell? ⟨g,3,none⟩=some x3/\w.cell? ⟨g,4,none⟩=some x4/\w.cell? ⟨g,5,none⟩=some x5/\w.cell? ⟨g,6,none⟩=some x6/\w.cell? ⟨g,7,none⟩=some x7/\w.cell? ⟨g,8,none⟩=some x8/\w.cell? ⟨g,9,none⟩=some x9:=by
 refine⟨?_,?_,?_,?_,?_,?_,?_,?_,?_,?_⟩ <;> exact qh h _
theorem iz5 {t:TypeId} {S:Sta} (h:w.heap[g]?=some (.cells #[.int .i64 S.ax,.int .i64 S.ay,.int .i64 S.az,.int .i64 S.cx,.int .i64 S.cy] t (0,0))):IzV N 0 0 w (.slice (some ⟨g,0,none⟩) 5 5) 5 (l5 S):=by
 refine⟨rfl,some ⟨g,0,none⟩,5,rfl,q_r,by unfold maxLen; omega,fun _=>⟨g,0,rfl,fun i hi=>?_⟩⟩;rw [qh h];have hi':i=0\/i=1\/i=2\/i=3\/i=4:=by omega
 rcases hi' with rfl | rfl | rfl | rfl | rfl <;> rfl
theorem q2R {S:Sta} (h:jw 5 (fun i=>zB (l5 S i))=true):zI S=2:=by
 unfold zI;rw [h]
 rfl
theorem Yp {S:Sta} (h:S.f < 1\/1048576 < S.f):zI S=2:=by
 unfold zI
 rcases h with h | h
 ·rw [q_t h,Bool.or_true]; rfl
 ·rw [q_t h,Bool.or_true]; rfl
theorem Wv {S:Sta} (h:jw 5 (fun i=>zB (l5 S i))=false) (h1:¬ S.f < 1) (h2:¬ 1048576 < S.f):zI S=jb S.qa S.qb S.qc S.qd:=by
 unfold zI;rw [h,q_f h1,q_f h2]
 rfl
theorem VC (S:Sta) :
  Calls Tryz.prog 173 #[.int .i64 3,S.v] w (zX w (.int .i64 (zI S))):=by
 obtain⟨r,hr⟩:=qf (zI S);rw [<-hr.out];unfold Sta.v;go_enter Tryz.func173,Tryz.ntmps173;go_upto_region 1 with (fail);refine ql ?_;intro W hE hsz B0;obtain⟨p0,p1,p2,p3,p4,p5,p6,p7,p8,p9⟩:=zi B0;go_wp2_with (go_at_call 174; refine q_o ?_);refine qM ?_;intro W1 hE1 hsz1 B1;refine (q4U (N:=0) (iz5 B1)).mono ?_;obtain⟨b5,hb5⟩:=qf (jw 5 (fun i=>zB (l5 S i)));rw [<-hb5.out];rintro e w2 ⟨rfl,e2⟩;have E2:=hE1.trans e2;clear p0 p1 p2 p3 p4 p5 p6 p7 p8 p9 B1 e2 hsz1 hE1;replace B0:=E2.block B0;replace hE:=hE.trans E2;obtain⟨p0,p1,p2,p3,p4,p5,p6,p7,p8,p9⟩:=zi B0;cases b5 with
 | true =>
  have HR:Hid (r=2):=by rw [Hid,hr.out]; exact q2R hb5.out.symm
  go_wp2;go_ret;rw [HR.out];exact⟨rfl,hE⟩
 | false =>
 by_cases h1:S.f < 1
 ·have HR:Hid (r=2):=by rw [Hid,hr.out]; exact Yp (.inl h1)
  have t0:decide (S.f < 1)=true:=q_t h1;clear h1;go_wp2;go_ret;rw [HR.out];exact⟨rfl,hE⟩
 by_cases h2:1048576 < S.f
 ·have HR:Hid (r=2):=by rw [Hid,hr.out]; exact Yp (.inr h2)
  have t0:decide (S.f < 1)=false:=q_f h1;have t1:decide (1048576 < S.f)=true:=q_t h2;clear h1 h2;go_wp2;go_ret;rw [HR.out];exact⟨rfl,hE⟩
 have HR:Hid (r=jb S.qa S.qb S.qc S.qd):=by rw [Hid,hr.out]; exact Wv hb5.out.symm h1 h2
 have t0:decide (S.f < 1)=false:=q_f h1;have t1:decide (1048576 < S.f)=false:=q_f h2;clear h1 h2 hr;go_wp2_with (go_at_call 212; refine q_o ?_);refine (q1I S.qa S.qb S.qc S.qd).mono ?_;rw [<-HR.out];rintro e w3 ⟨rfl,e3⟩;replace hE:=hE.trans e3;clear p0 p1 p2 p3 p4 p5 p6 p7 p8 p9 t0 t1 B0 HR
 by_cases hr0:r=0
 ·subst hr0;go_wp2;go_ret;exact⟨rfl,hE⟩
 ·have t2:(r != 0)=true:=by simpa using hr0
  clear hr0;go_wp2;go_ret;exact⟨rfl,hE⟩
theorem WV {gs:Nat} {t:TypeId} (S:Sta) (hb:w.heap[gs]?=some (.cells #[.int .i64 S.ax,.int .i64 S.ay,.int .i64 S.az,.int .i64 S.qa,.int .i64 S.qb,.int .i64 S.qc,.int .i64 S.qd,.int .i64 S.f,.int .i64 S.cx,.int .i64 S.cy] t (0,0))) :
  Calls Tryz.prog 128 #[.agg #[.int .i64 3,.slice (some ⟨gs,0,none⟩) 1 1,.slice none 0 0,.slice none 0 0]] w (zX w (.int .i64 (zI S))):=by
 obtain⟨r,hr⟩:=qf (zI S);rw [<-hr.out];have HB:=q_h hb;clear hb;go_enter Tryz.func128,Tryz.ntmps128;go_upto_region 1 with (fail);refine ql ?_;intro W hE hsz B0;obtain⟨p0,p1,p2,p3,-⟩:=cells4 B0;have HB0:=q_h B0;clear B0;go_wp2;clear p0 p1 p2 p3
 go_loopw [40] (fun iv wr=>∃ i:Nat,i<=1/\iv=.int .i64 i/\Hid (0 < i->r=0)/\Ext W wr) (fun iv _=>1 - (intOf iv).toNat)
 case atStart=>exact⟨0,by omega,rfl,fun h=>absurd h (by omega),Ext.refl W⟩
 case round =>
  obtain⟨i,hi,rfl,hA,hEr⟩:=hrel
  by_cases hi1:i < 1
  case neg =>
   obtain rfl:i=1:=by omega
   have HR:Hid (r=0):=hA.out (by omega);clear hA hi1;have B0:=hEr.block HB0.out;obtain⟨p0,p1,p2,p3,-⟩:=cells4 B0;replace hE:=hE.trans hEr;go_wp2;clear p0 p1 p2 p3;obtain⟨wa,hwa⟩:∃ wa,wa=wr:=⟨_,rfl⟩
   subst hwa
   go_loopw [55] (fun iv wr=>iv=.int .i64 0/\Ext wa wr) (fun iv _=>0)
   case atStart=>exact⟨rfl,Ext.refl _⟩
   case round =>
    obtain⟨rfl,hEv⟩:=hrel;replace B0:=hEv.block B0;obtain⟨p0,p1,p2,p3,-⟩:=cells4 B0;replace hE:=hE.trans hEv;have hmk:∀ w:World,(Instr.makeMap 208 none).run Tryz.prog w=.ok (.map (some w.heap.size)) (w.alloc (.map #[] 0)):=fun _=>rfl
    go_upto_region 21 with (fail);refine ql ?_;intro w8 e8 hsz8 BM;clear BM hmk;replace p0:=e8.cell p0;replace p1:=e8.cell p1;replace p2:=e8.cell p2;replace p3:=e8.cell p3;replace hE:=hE.trans e8;clear hEr hEv B0 hsz8 e8;go_wp2;clear p0 p1 p2 p3
    go_loopw [80] (fun iv wr=>iv=.int .i64 0/\Ext w8 wr) (fun iv _=>0)
    case atStart=>exact⟨rfl,Ext.refl _⟩
    case round =>
     obtain⟨rfl,hEv⟩:=hrel;go_wp2;go_ret;rw [HR.out];exact⟨rfl,hE.trans hEv⟩
  obtain rfl:i=0:=by omega
  clear hi1 hi;have B0:=hEr.block HB0.out;obtain⟨p0,p1,p2,p3,-⟩:=cells4 B0;obtain⟨q0,q1,q2,q3,q4,q5,q6,q7,q8,q9⟩:=zi ((hE.trans hEr).block HB.out);go_upto_region 8 with (fail);refine ql ?_;intro w3 e3 hsz3 B3;clear q0 q1 q2 q3 q4 q5 q6 q7 q8 q9;replace p0:=e3.cell p0;obtain⟨q0,q1,q2,q3,q4,q5,q6,q7,q8,q9⟩:=zi B3;go_wp2_with (go_at_call 173; refine q_o ?_);refine (VC S).mono ?_;rw [<-hr.out];rintro e w4 ⟨rfl,e4⟩;have hE4:=(hEr.trans e3).trans e4;clear q0 q1 q2 q3 q4 q5 q6 q7 q8 q9 p0 p1 p2 p3 B3 e4 e3 hr
  by_cases hr0:r=0
  ·subst hr0;go_wp2;go_roundw
   case rel=>exact⟨1,by omega,by go_num,fun _=>(by first | trivial | rfl),hE4⟩
   case measure=>simp [intOf]
  ·have t2:(r != 0)=true:=by simpa using hr0
   clear hr0;go_wp2;go_ret;exact⟨rfl,hE.trans hE4⟩
def StAt (w:World) (b o:Nat) (S:Sta):Prop :=
 w.cell? ⟨b,o,none⟩=some (.int .i64 S.ax)/\w.cell? ⟨b,o+1,none⟩=some (.int .i64 S.ay)/\w.cell? ⟨b,o+2,none⟩=some (.int .i64 S.az)/\w.cell? ⟨b,o+3,none⟩=some (.int .i64 S.qa)/\w.cell? ⟨b,o+4,none⟩=some (.int .i64 S.qb)/\w.cell? ⟨b,o+5,none⟩=some (.int .i64 S.qc)/\w.cell? ⟨b,o+6,none⟩=some (.int .i64 S.qd)/\w.cell? ⟨b,o+7,none⟩=some (.int .i64 S.f)/\w.cell? ⟨b,o+8,none⟩=some (.int .i64 S.cx)/\w.cell? ⟨b,o+9,none⟩=some (.int .i64 S.cy)
theorem StAt.ext {o:Nat} {S:Sta} (h:StAt w b o S) (e:Ext w w'):StAt w' b o S:=by
 obtain⟨h0,h1,h2,h3,h4,h5,h6,h7,h8,h9⟩:=h;exact⟨e.cell h0,e.cell h1,e.cell h2,e.cell h3,e.cell h4,e.cell h5,e.cell h6,e.cell h7,e.cell h8,e.cell h9⟩
def StsV (w:World) (v:Value) (n:Nat) (S:Nat->Sta):Prop :=
 ∃ A c,v=.slice A n c/\n<=c/\c<=maxLen/\(0 < n->∃ b off,A=some ⟨b,off,none⟩/\∀ i,i < n->StAt w b (off+i*10) (S i))
def q2Q (S:Nat->Sta) (n:Nat):Int:=((List.range n).find? (fun i=>zI (S i) != 0)).elim 0 (fun i=>zI (S i))
theorem Xj {S:Nat->Sta} (h:∀ i,i < n->zI (S i)=0):q2Q S n=0:=by
 unfold q2Q;rw [List.find?_eq_none.2 (fun i hi=>by simp [h i (List.mem_range.1 hi)])]
 rfl
theorem Wu {S:Nat->Sta} (hi:i < n) (h:∀ j,j < i->zI (S j)=0) (h0:zI (S i)≠0):q2Q S n=zI (S i):=by
 unfold q2Q
 have:(List.range n).find? (fun i=>zI (S i) != 0)=some i:=by
  rw [List.find?_range_eq_some];refine⟨by simpa using h0,List.mem_range.2 hi,fun j hj=>by simp [h j hj]⟩
 rw [this]
 rfl
theorem Ku (S:Sta) :
  Calls Tryz.prog 73 #[S.v] w (zX w (.int .i64 (zI S))):=by
 obtain⟨r,hr⟩:=qf (zI S);rw [<-hr.out];unfold Sta.v;go_enter Tryz.func73,Tryz.ntmps73;go_upto_region 1 with (fail);refine ql ?_;intro W hE hsz B0;obtain⟨p0,p1,p2,p3,p4,p5,p6,p7,p8,p9⟩:=zi B0;go_wp2_with (go_at_call 128; refine q_o ?_);refine qM ?_;intro W1 hE1 hsz1 B1;refine (WV S B1).mono ?_;rw [<-hr.out];rintro e w2 ⟨rfl,e2⟩;go_wp2;go_ret;exact⟨rfl,(hE.trans hE1).trans e2⟩
theorem q1c {v:Value} {S:Nat->Sta} (h:StsV w v n S) :
  Calls Tryz.prog 85 #[v] w (zX w (.int .i64 (q2Q S n))):=by
 obtain⟨r,hr⟩:=qf (q2Q S n);rw [<-hr.out];obtain⟨A,c,rfl,hnc,hcm,hz⟩:=h;have HZ:=q_h hz;unfold maxLen at hcm;clear hz;go_enter Tryz.func85,Tryz.ntmps85;go_wp2
 go_loopw [8] (fun iv wr=>∃ i:Nat,i<=n/\iv=.int .i64 i/\Hid (∀ j,j < i->zI (S j)=0)/\Ext w wr) (fun iv _=>n - (intOf iv).toNat)
 case atStart=>exact⟨0,by omega,rfl,fun j hj=>absurd hj (by omega),Ext.refl w⟩
 case round =>
  obtain⟨i,hi,rfl,hA,hE⟩:=hrel
  by_cases hin:i < n
  case neg =>
   obtain rfl:i=n:=by omega
   have HR:Hid (r=0):=by rw [Hid,hr.out]; exact Xj hA.out
   have hq:decide ((i:Int) < (i:Int))=false:=q_f (by omega);go_wp2;go_ret;rw [HR.out];exact⟨rfl,hE⟩
  have hin':(i:Int) < n:=by omega
  obtain⟨b,off,rfl,hc⟩:=HZ.out (by omega);obtain⟨q0,q1,q2,q3,q4,q5,q6,q7,q8,q9⟩:=(hc i hin).ext hE;obtain⟨T,hT⟩:=qf (S i);rw [<-hT.out] at q0 q1 q2 q3 q4 q5 q6 q7 q8 q9;clear hc;go_upto_region 4 with (fail);refine ql ?_;intro w3 e3 hsz3 B3;clear q0 q1 q2 q3 q4 q5 q6 q7 q8 q9;obtain⟨q0,q1,q2,q3,q4,q5,q6,q7,q8,q9⟩:=zi B3;go_wp2_with (go_at_call 73; refine q_o ?_);refine (Ku T).mono ?_;obtain⟨k,hk⟩:=qf (zI T);rw [<-hk.out];rintro e w4 ⟨rfl,e4⟩;replace hE:=(hE.trans e3).trans e4;clear q0 q1 q2 q3 q4 q5 q6 q7 q8 q9 B3 e4 e3
  by_cases hk0:k=0
  ·have HA2:Hid (∀ j,j < i+1->zI (S j)=0):=fun j hj=>by
    by_cases hji:j=i
    ·rw [hji,<-hT.out,<-hk.out,hk0]
    ·exact hA.out j (by omega)
   clear hk;subst hk0;go_wp2;go_roundw
   case rel=>exact⟨i+1,by omega,by go_num,HA2.out,hE⟩
   case measure=>simp [intOf]; omega
  ·have HR:Hid (r=k):=by
    rw [Hid,hr.out,hk.out,hT.out];exact Wu hin hA.out (by rw [<-hT.out,<-hk.out]; exact hk0)
   have t2:(k != 0)=true:=by simpa using hk0
   clear hk0;go_wp2;go_ret;rw [HR.out];exact⟨rfl,hE⟩
theorem q0D:z < -1048576->zB z=true:=fun h=>by unfold zB; rw [q_t h]; rfl
theorem q0B:1048576 < z->zB z=true:=fun h=>by unfold zB; rw [q_t h,Bool.or_true]
theorem q0C (h:¬ z < -1048576) (h':¬ 1048576 < z):zB z=false:=by unfold zB; rw [q_f h,q_f h']; rfl
theorem WJ {v:Value} {z:Nat->Int} (h:IzV N lo hi w v n z) :
  Calls Tryz.prog 75 #[v,.int .i64 1048576] w (zX w (.bool (!jw n (fun i=>zB (z i))))):=by
 obtain⟨r,hr⟩:=qf (jw n (fun i=>zB (z i)));rw [<-hr.out];have HI:=q_h h;obtain⟨A,c,rfl,hnc,hcm⟩:=h.form;unfold maxLen at hcm;clear h;go_enter Tryz.func75,Tryz.ntmps75;go_wp2
 go_loopw [5] (fun iv wr=>∃ i:Nat,i<=n/\iv=.int .i64 i/\Hid (∀ j,j < i->zB (z j)=false)/\Ext w wr) (fun iv _=>n - (intOf iv).toNat)
 case atStart=>exact⟨0,by omega,rfl,fun j hj=>absurd hj (by omega),Ext.refl w⟩
 case round =>
  obtain⟨i,hi,rfl,hA,hE⟩:=hrel
  by_cases hin:i < n
  case neg =>
   obtain rfl:i=n:=by omega
   have HR:Hid (false=r):=by rw [Hid,hr.out]; symm; exact kM.2 (fun j hj=>hA.out j hj)
   have hq:decide ((i:Int) < (i:Int))=false:=q_f (by omega);go_wp2;go_ret;rw [<-HR.out];exact⟨rfl,hE⟩
  have hin':(i:Int) < n:=by omega
  obtain⟨b,off,rfl,hx⟩:=(HI.out.ext hE).addr (by omega);have p0:=hx i hin;obtain⟨u,hu⟩:=qf (z i);rw [<-hu.out] at p0;clear hx
  have HT:Hid (zB u=true->true=r):=fun h=>by
   rw [hr.out]
   symm
   exact jr hin (by rw [<-hu.out]; exact h)
  by_cases k0:u < -1048576
  ·have HR:=HT.out (q0D k0);have t0:decide (u < -1048576)=true:=decide_eq_true k0;subst HR;clear k0;go_wp2;go_ret;exact⟨rfl,hE⟩
  have t0:decide (u < -1048576)=false:=decide_eq_false k0
  by_cases k1:1048576 < u
  ·have HR:=HT.out (q0B k1);have t1:decide (1048576 < u)=true:=decide_eq_true k1;subst HR;clear k0 k1;go_wp2;go_ret;exact⟨rfl,hE⟩
  have t1:decide (1048576 < u)=false:=decide_eq_false k1
  have HA2:Hid (∀ j,j < i+1->zB (z j)=false):=fun j hj=>by
   by_cases hji:j=i
   ·rw [hji,<-hu.out]; exact q0C k0 k1
   ·exact hA.out j (by omega)
  clear k0 k1;go_wp2;go_roundw
  case rel=>exact⟨i+1,by omega,by go_num,HA2.out,hE⟩
  case measure=>simp [intOf]; omega
theorem iz4 {t:TypeId} {a b c d:Int} (h:w.heap[g]?=some (.cells #[.int .i64 a,.int .i64 b,.int .i64 c,.int .i64 d] t (0,0))):IzV N 0 0 w (.slice (some ⟨g,0,none⟩) 4 4) 4 (l4 a b c d):=by
 refine⟨rfl,some ⟨g,0,none⟩,4,rfl,q_r,by unfold maxLen; omega,fun _=>⟨g,0,rfl,fun i hi=>?_⟩⟩;rw [qh h];have hi':i=0\/i=1\/i=2\/i=3:=by omega
 rcases hi' with rfl | rfl | rfl | rfl <;> rfl
theorem q3J (a b c d:Int) :
  Calls Tryz.prog 129 #[quV a b c d] w (fun e w'=>∃ g,e=.returned (.slice (some ⟨g,0,none⟩) 4 4)/\IzV 0 0 0 w' (.slice (some ⟨g,0,none⟩) 4 4) 4 (l4 a b c d)/\Ext w w'):=by
 unfold quV;go_enter Tryz.func129,Tryz.ntmps129;go_upto_region 1 with (fail);refine ql ?_;intro W hE hsz B0;obtain⟨p0,p1,p2,p3,-⟩:=cells4 B0;go_wp2;refine ql ?_;intro W1 hE1 hsz1 B1;have B1':W1.heap[W.heap.size]?=some (.cells #[.int .i64 a,.int .i64 b,.int .i64 c,.int .i64 d] 3 (0,0)):=B1
 first | go_ret | skip
 exact⟨_,rfl,iz4 B1',hE.trans hE1⟩
theorem Yy (a b c d:Int) :
  Calls Tryz.prog 76 #[quV a b c d] w (zX w (.int .i64 (jb a b c d))):=by
 obtain⟨r,hr⟩:=qf (jb a b c d);rw [<-hr.out];go_enter Tryz.func76,Tryz.ntmps76;unfold quV;go_upto_region 1 with (fail);refine ql ?_;intro W hE hsz B0;obtain⟨p0,p1,p2,p3,-⟩:=cells4 B0;obtain⟨zb,hzb⟩:=qf (decide (a=0/\b=0/\c=0/\d=0))
 go_cut [22] (fun v wx=>v=.bool zb/\wx=W)
 case first =>
  by_cases ha:a=0
  case neg =>
   have HZ:Hid (false=zb):=by rw [Hid,hzb.out,q_f (fun h=>ha h.1)]
   have t0:(a == 0)=false:=by simpa using ha
   clear ha;go_wp2_with fail
   go_meet
   exact⟨by rw [<-HZ.out],rfl⟩
  have t0:(a == 0)=true:=by simpa using ha
  by_cases hb:b=0
  case neg =>
   have HZ:Hid (false=zb):=by rw [Hid,hzb.out,q_f (fun h=>hb h.2.1)]
   have t1:(b == 0)=false:=by simpa using hb
   clear ha hb;go_wp2_with fail
   go_meet
   exact⟨by rw [<-HZ.out],rfl⟩
  have t1:(b == 0)=true:=by simpa using hb
  by_cases hc:c=0
  case neg =>
   have HZ:Hid (false=zb):=by rw [Hid,hzb.out,q_f (fun h=>hc h.2.2.1)]
   have t2:(c == 0)=false:=by simpa using hc
   clear ha hb hc;go_wp2_with fail
   go_meet
   exact⟨by rw [<-HZ.out],rfl⟩
  have t2:(c == 0)=true:=by simpa using hc
  by_cases hd:d=0
  case neg =>
   have HZ:Hid (false=zb):=by rw [Hid,hzb.out,q_f (fun h=>hd h.2.2.2)]
   have t3:(d == 0)=false:=by simpa using hd
   clear ha hb hc hd;go_wp2_with fail
   go_meet
   exact⟨by rw [<-HZ.out],rfl⟩
  have t3:(d == 0)=true:=by simpa using hd
  have HZ:Hid (true=zb):=by rw [Hid,hzb.out,decide_eq_true ⟨ha,hb,hc,hd⟩]
  clear ha hb hc hd;go_wp2_with fail
  go_meet
  exact⟨by rw [<-HZ.out],rfl⟩
 obtain⟨rfl,rfl⟩:=hcut;obtain⟨W,hWc⟩:∃ x,x=wc:=⟨_,rfl⟩
 subst hWc;cases zb with
 | true =>
  have HR:Hid (r=1):=by
   rw [Hid,hr.out];unfold jb;rw [if_pos (of_decide_eq_true hzb.out.symm)]
  go_wp2;go_ret;rw [HR.out];exact⟨rfl,hE⟩
 | false =>
 have HR:Hid (r=if zB a || zB b || zB c || zB d then 3 else 0):=by
  rw [Hid,hr.out];unfold jb;rw [if_neg (of_decide_eq_false hzb.out.symm)]
 clear hzb;go_wp2_with (go_at_call 129; refine q_o ?_);refine (q3J a b c d).mono ?_;rintro e w1 ⟨gl,rfl,hl,e1⟩;replace hE:=hE.trans e1;have HL:=q_h hl;clear p0 p1 p2 p3 B0 e1 hl;go_wp2
 go_loopw [4] (fun iv wr=>∃ i:Nat,i<=4/\iv=.int .i64 i/\Hid (∀ j,j < i->zB (l4 a b c d j)=false)/\Ext w1 wr) (fun iv _=>4 - (intOf iv).toNat)
 case atStart=>exact⟨0,by omega,rfl,fun j hj=>absurd hj (by omega),Ext.refl _⟩
 case round =>
  obtain⟨i,hi,rfl,hA,hEr⟩:=hrel
  by_cases hi4:i < 4
  case neg =>
   obtain rfl:i=4:=by omega
   have HR2:Hid (r=0):=by
    have k0:=hA.out 0 (by omega);have k1:=hA.out 1 (by omega);have k2:=hA.out 2 (by omega);have k3:=hA.out 3 (by omega);have k0':zB a=false:=k0;have k1':zB b=false:=k1;have k2':zB c=false:=k2;have k3':zB d=false:=k3;rw [Hid,HR.out,k0',k1',k2',k3']
    rfl
   go_wp2;go_ret;rw [HR2.out];exact⟨rfl,hE.trans hEr⟩
  have hi4':(i:Int) < 4:=by omega
  obtain⟨bb,off,hbo,hx⟩:=(HL.out.ext hEr).addr (by omega);injection hbo with hbo
  injection hbo with h1 h2
  subst h1 h2;have q0:=hx i hi4;rw [Nat.zero_add] at q0;obtain⟨u,hu⟩:=qf (l4 a b c d i);rw [<-hu.out] at q0;clear hx
  have HFT:Hid (zB u=true->r=3):=fun h=>by
   rw [HR.out];have hi':i=0\/i=1\/i=2\/i=3:=by omega
   rw [hu.out] at h
   rcases hi' with rfl | rfl | rfl | rfl
   ·have h':zB a=true:=h;rw [h']
    rfl
   ·have h':zB b=true:=h;rw [h',Bool.or_true]
    rfl
   ·have h':zB c=true:=h;rw [h',Bool.or_true]
    rfl
   ·have h':zB d=true:=h;rw [h',Bool.or_true]
    rfl
  by_cases k1:1048576 < u
  ·have HR3:Hid (r=3):=HFT.out (q0B k1);have t1:decide (1048576 < u)=true:=decide_eq_true k1;clear k1;go_wp2;go_ret;rw [HR3.out];exact⟨rfl,hE.trans hEr⟩
  have t1:decide (1048576 < u)=false:=decide_eq_false k1
  by_cases k0:u < -1048576
  ·have HR3:Hid (r=3):=HFT.out (q0D k0);have t0:decide (u < -1048576)=true:=decide_eq_true k0;clear k0 k1;go_wp2;go_ret;rw [HR3.out];exact⟨rfl,hE.trans hEr⟩
  have t0:decide (u < -1048576)=false:=decide_eq_false k0
  have HA2:Hid (∀ j,j < i+1->zB (l4 a b c d j)=false):=fun j hj=>by
   by_cases hji:j=i
   ·rw [hji,<-hu.out]; exact q0C k0 k1
   ·exact hA.out j (by omega)
  clear k0 k1;go_wp2;go_roundw
  case rel=>exact⟨i+1,by omega,by go_num,HA2.out,hEr⟩
  case measure=>simp [intOf]; omega
theorem JE (S:Sta) :
  Calls Tryz.prog 28 #[.int .i64 3,S.v] w (zX w (.int .i64 (zI S))):=by
 obtain⟨r,hr⟩:=qf (zI S);rw [<-hr.out];unfold Sta.v;go_enter Tryz.func28,Tryz.ntmps28;go_upto_region 1 with (fail);refine ql ?_;intro W hE hsz B0;obtain⟨p0,p1,p2,p3,p4,p5,p6,p7,p8,p9⟩:=zi B0;go_wp2_with (go_at_call 75; refine q_o ?_);refine qM ?_;intro W1 hE1 hsz1 B1;refine (WJ (N:=0) (iz5 B1)).mono ?_;obtain⟨b5,hb5⟩:=qf (jw 5 (fun i=>zB (l5 S i)));rw [<-hb5.out];rintro e w2 ⟨rfl,e2⟩;have E2:=hE1.trans e2;clear p0 p1 p2 p3 p4 p5 p6 p7 p8 p9 B1 e2 hsz1 hE1;replace B0:=E2.block B0;replace hE:=hE.trans E2;obtain⟨p0,p1,p2,p3,p4,p5,p6,p7,p8,p9⟩:=zi B0;cases b5 with
 | true =>
  have HR:Hid (r=2):=by rw [Hid,hr.out]; exact q2R hb5.out.symm
  go_wp2;go_ret;rw [HR.out];exact⟨rfl,hE⟩
 | false =>
 by_cases h1:S.f < 1
 ·have HR:Hid (r=2):=by rw [Hid,hr.out]; exact Yp (.inl h1)
  have t0:decide (S.f < 1)=true:=q_t h1;clear h1;go_wp2;go_ret;rw [HR.out];exact⟨rfl,hE⟩
 by_cases h2:1048576 < S.f
 ·have HR:Hid (r=2):=by rw [Hid,hr.out]; exact Yp (.inr h2)
  have t0:decide (S.f < 1)=false:=q_f h1;have t1:decide (1048576 < S.f)=true:=q_t h2;clear h1 h2;go_wp2;go_ret;rw [HR.out];exact⟨rfl,hE⟩
 have HR:Hid (r=jb S.qa S.qb S.qc S.qd):=by rw [Hid,hr.out]; exact Wv hb5.out.symm h1 h2
 have t0:decide (S.f < 1)=false:=q_f h1;have t1:decide (1048576 < S.f)=false:=q_f h2;clear h1 h2 hr;go_wp2_with (go_at_call 76; refine q_o ?_);refine (Yy S.qa S.qb S.qc S.qd).mono ?_;rw [<-HR.out];rintro e w3 ⟨rfl,e3⟩;replace hE:=hE.trans e3;clear p0 p1 p2 p3 p4 p5 p6 p7 p8 p9 t0 t1 B0 HR
 by_cases hr0:r=0
 ·subst hr0;go_wp2;go_ret;exact⟨rfl,hE⟩
 ·have t2:(r != 0)=true:=by simpa using hr0
  clear hr0;go_wp2;go_ret;exact⟨rfl,hE⟩
def stsL (S:Nat->Sta) (n:Nat):Int:=if 64 < n then 3 else q2Q S n
theorem q36 {v:Value} {S:Nat->Sta} (h:StsV w v n S) :
  Calls Tryz.prog 36 #[v] w (zX w (.int .i64 (stsL S n))):=by
 unfold stsL;obtain⟨r,hr⟩:=qf (q2Q S n);rw [<-hr.out];obtain⟨A,c,rfl,hnc,hcm,hz⟩:=h;have HZ:=q_h hz;unfold maxLen at hcm;clear hz
 by_cases hn:64 < n
 ·rw [if_pos hn];have t0:decide (64 < (n:Int))=true:=q_t (by omega);go_enter Tryz.func36,Tryz.ntmps36;go_wp2;go_ret;exact⟨rfl,Ext.refl w⟩
 rw [if_neg hn];have t0:decide (64 < (n:Int))=false:=q_f (by omega);go_enter Tryz.func36,Tryz.ntmps36;go_wp2;clear t0
 go_loopw [11] (fun iv wr=>∃ i:Nat,i<=n/\iv=.int .i64 i/\Hid (∀ j,j < i->zI (S j)=0)/\Ext w wr) (fun iv _=>n - (intOf iv).toNat)
 case atStart=>exact⟨0,by omega,rfl,fun j hj=>absurd hj (by omega),Ext.refl w⟩
 case round =>
  obtain⟨i,hi,rfl,hA,hE⟩:=hrel
  by_cases hin:i < n
  case neg =>
   obtain rfl:i=n:=by omega
   have HR:Hid (r=0):=by rw [Hid,hr.out]; exact Xj hA.out
   have hq:decide ((i:Int) < (i:Int))=false:=q_f (by omega);go_wp2;go_ret;rw [HR.out];exact⟨rfl,hE⟩
  have hin':(i:Int) < n:=by omega
  obtain⟨b,off,rfl,hc⟩:=HZ.out (by omega);obtain⟨q0,q1,q2,q3,q4,q5,q6,q7,q8,q9⟩:=(hc i hin).ext hE;obtain⟨T,hT⟩:=qf (S i);rw [<-hT.out] at q0 q1 q2 q3 q4 q5 q6 q7 q8 q9;clear hc;go_upto_region 6 with (fail);refine ql ?_;intro w3 e3 hsz3 B3;clear q0 q1 q2 q3 q4 q5 q6 q7 q8 q9;obtain⟨q0,q1,q2,q3,q4,q5,q6,q7,q8,q9⟩:=zi B3;go_wp2_with (go_at_call 28; refine q_o ?_);refine (JE T).mono ?_;obtain⟨k,hk⟩:=qf (zI T);rw [<-hk.out];rintro e w4 ⟨rfl,e4⟩;replace hE:=(hE.trans e3).trans e4;clear q0 q1 q2 q3 q4 q5 q6 q7 q8 q9 B3 e4 e3
  by_cases hk0:k=0
  ·have HA2:Hid (∀ j,j < i+1->zI (S j)=0):=fun j hj=>by
    by_cases hji:j=i
    ·rw [hji,<-hT.out,<-hk.out,hk0]
    ·exact hA.out j (by omega)
   clear hk;subst hk0;go_wp2;go_roundw
   case rel=>exact⟨i+1,by omega,by go_num,HA2.out,hE⟩
   case measure=>simp [intOf]; omega
  ·have HR:Hid (r=k):=by
    rw [Hid,hr.out,hk.out,hT.out];exact Wu hin hA.out (by rw [<-hT.out,<-hk.out]; exact hk0)
   have t2:(k != 0)=true:=by simpa using hk0
   clear hk0;go_wp2;go_ret;rw [HR.out];exact⟨rfl,hE⟩
end Go.Proofs.YtphpkhoeplcedaaGreat
namespace Go.Proofs.YtphpkhoeplcedaaGreat
variable {w w':World} {N n lo hi k g i b K:Nat} {G:Grd} {q x:Rat} {z:Int}
theorem q08 {a b:Int} (h:a<=b):(a:Rat)<=(b:Rat):=Rat.intCast_le_intCast.2 h
def Yh (p q low:Rat):Rat:=if 0 < q - p/\low < -p / (q - p) then -p / (q - p) else low
def Yi (p q high:Rat):Rat:=if q - p < 0/\-p / (q - p) < high then -p / (q - p) else high
theorem q1W {p:Rat} (h:q - p≠0):lin p q (-p / (q - p))=0:=by unfold lin; grind
theorem q53 {p u s:Rat} (h:lin p q s=0):lin p q u=(u - s)*(q - p):=by unfold lin at *; grind
theorem jd {a d:Rat} (hd:0 < d):0<=a*d↔0<=a:=by
 constructor
 ·intro h
  by_cases ha:0<=a
  ·exact ha
  ·have:=kT (show 0 < -a by grind) hd
   grind
 ·intro h;exact xx h (by grind)
theorem q2u {p low high u:Rat} (h:q - p≠0):(low<=u/\u<=high/\0<=lin p q u)↔(Yh p q low<=u/\u<=Yi p q high):=by
 have hz:=q1W h;rw [q53 (u:=u) hz]
 generalize hs : -p / (q - p)=s at *
 unfold Yh Yi;rw [hs]
 by_cases hp:0 < q - p
 ·rw [jd hp];have hn:¬ q - p < 0:=by grind
  have eH:(if q - p < 0/\s < high then s else high)=high:=if_neg (fun k=>hn k.1)
  by_cases hl:low < s
  ·have eL:(if 0 < q - p/\low < s then s else low)=s:=if_pos ⟨hp,hl⟩;rw [eL,eH]
   grind
  ·have eL:(if 0 < q - p/\low < s then s else low)=low:=if_neg (fun k=>hl k.2);rw [eL,eH]
   grind
 ·have hn:0 < p - q:=by grind
  have e:(u - s)*(q - p)=(s - u)*(p - q):=by grind
  have eL:(if 0 < q - p/\low < s then s else low)=low:=if_neg (fun k=>hp k.1);rw [e,jd hn]
  by_cases hl:s < high
  ·have eH:(if q - p < 0/\s < high then s else high)=s:=if_pos ⟨by grind,hl⟩;rw [eL,eH]
   grind
  ·have eH:(if q - p < 0/\s < high then s else high)=high:=if_neg (fun k=>hl k.2);rw [eL,eH]
   grind
theorem q0N {p low high u:Rat} (h:q - p=0) (hp:¬ p < 0):(low<=u/\u<=high/\0<=lin p q u)↔(low<=u/\u<=high):=by
 have:lin p q u=p:=by unfold lin; rw [h]; grind
 rw [this]
 grind
def xg (p q:Nat->Rat) (k:Nat) (low high:Rat):Prop:=∀ u,(0<=u/\u<=1/\∀ j,j < k->0<=lin (p j) (q j) u)↔(low<=u/\u<=high)
theorem VS (p q:Nat->Rat):xg p q 0 0 1:=fun u=>⟨fun h=>⟨h.1,h.2.1⟩,fun h=>⟨h.1,h.2,fun j hj=>absurd hj (by omega)⟩⟩
theorem ZI {P:Nat->Prop}:(∀ j,j < k+1->P j)↔(∀ j,j < k->P j)/\P k :=
 ⟨fun h=>⟨fun j hj=>h j (by omega),h k (by omega)⟩,fun h j hj=>by
  by_cases e:j=k
  ·rw [e]; exact h.2
  ·exact h.1 j (by omega)⟩
theorem Ja {p q:Nat->Rat} {low high:Rat} (h:xg p q k low high) (hd:q k - p k≠0):xg p q (k+1) (Yh (p k) (q k) low) (Yi (p k) (q k) high):=fun u=>by
 rw [<-q2u hd,ZI];have:=h u
 grind
theorem q0O {p q:Nat->Rat} {low high:Rat} (h:xg p q k low high) (hd:q k - p k=0) (hp:¬ p k < 0):xg p q (k+1) low high:=fun u=>by
 rw [<-q0N hd hp (low:=low) (high:=high) (u:=u),ZI];have:=h u
 grind
def q1a (p q:Nat->Rat) (e f:Rat):Prop:=∃ u,0 < u/\u < 1/\(∀ k,k < 3->0<=lin (p k) (q k) u)/\0 < lin e f u
theorem q2c {p q:Nat->Rat} {e f:Rat} (hk:k < 3) (hd:q k - p k=0) (hp:p k < 0):¬ q1a p q e f:=by
 rintro⟨u,-,-,h,-⟩;have:=h k hk;have e:lin (p k) (q k) u=p k:=by unfold lin; rw [hd]; grind
 grind
theorem q0q {p q:Nat->Rat} {e f low high:Rat} (h:xg p q 3 low high) (hc:high < low):¬ q1a p q e f:=by
 rintro⟨u,h0,h1,h2,-⟩;have:=(h u).1 ⟨by grind,by grind,h2⟩
 grind
theorem q0p {p q:Nat->Rat} {e f low high:Rat} (h:xg p q 3 low high) (hc:low=high):q1a p q e f↔(0 < low/\low < 1)/\0 < lin e f low:=by
 constructor
 ·rintro⟨u,h0,h1,h2,h3⟩;have:=(h u).1 ⟨by grind,by grind,h2⟩;have e:u=low:=by grind
  rw [<-e];exact⟨⟨h0,h1⟩,h3⟩
 ·rintro⟨⟨h0,h1⟩,h2⟩;exact⟨low,h0,h1,((h low).2 ⟨by grind,by grind⟩).2.2,h2⟩
theorem q2b {p q:Nat->Rat} {e f low high:Rat} (h:xg p q 3 low high) (hc:low < high):q1a p q e f↔(0 < lin e f low\/0 < lin e f high):=by
 have hl:=(h low).2 ⟨by grind,by grind⟩;have hh:=(h high).2 ⟨by grind,by grind⟩;have key:∀ u,low < u->u < high->0 < lin e f u->q1a p q e f:=fun u h0 h1 h2=>⟨u,by grind,by grind,((h u).2 ⟨by grind,by grind⟩).2.2,h2⟩
 constructor
 ·rintro⟨u,h0,h1,h2,h3⟩;have hu:=(h u).1 ⟨by grind,by grind,h2⟩
  by_cases k0:0 < lin e f low
  ·exact .inl k0
  ·right
   by_cases k1:0 < lin e f high
   ·exact k1
   ·exfalso
    by_cases e0:u=low
    ·rw [e0] at h3; exact k0 h3
    ·by_cases e1:u=high
     ·rw [e1] at h3; exact k1 h3
     ·have:=q06 (p:=e) (q:=f) (s:=low) (e:=high) (t:=u) (by grind) (by grind) (by grind) (by grind)
      grind
 ·intro h9
  by_cases k0:0 < lin e f low
  ·by_cases k1:0 < lin e f high
   ·refine key ((low+high) / 2) (by grind) (by grind) ?_;have:lin e f ((low+high) / 2)=(lin e f low+lin e f high) / 2:=by unfold lin; grind
    rw [this]
    grind
   ·have hp:=KL k0 (show lin e f high<=0 by grind);have hv:=Y5 (p:=e) (q:=f) k0 (show lin e f high<=0 by grind);refine key _ ?_ ?_ hv
    ·unfold KN;have:=kT hp.1 (show 0 < high - low by grind)
     grind
    ·unfold KN;have:=kT (show 0 < 1 - 1 / 2*(lin e f low / (lin e f low - lin e f high)) by grind) (show 0 < high - low by grind)
     grind
  ·have k1:0 < lin e f high:=by grind
   have hp:=KL k1 (show lin e f low<=0 by grind);have hv:=Y5 (p:=e) (q:=f) k1 (show lin e f low<=0 by grind);refine key _ ?_ ?_ hv
   ·unfold KN;have:=kT (show 0 < 1 - 1 / 2*(lin e f high / (lin e f high - lin e f low)) by grind) (show 0 < high - low by grind)
    grind
   ·unfold KN;have:=kT hp.1 (show 0 < high - low by grind)
    grind
def q3w (G:Grd) (a b:Nat->Rat) (t:Tri):Prop:=q1a (YT G (a 0) (a 1) t) (YT G (b 0) (b 1) t) (hzT G (a 0) (a 1) t - a 2) (hzT G (b 0) (b 1) t - b 2)
theorem q2P (G:Grd) (x y u:Rat):sx G (lin x y u)=lin (sx G x) (sx G y) u:=xY ..
theorem q2O (G:Grd) (x y u:Rat):sy G (lin x y u)=lin (sy G x) (sy G y) u:=xY ..
theorem q0f (G:Grd) (a b:Nat->Rat) (t:Tri) (u:Rat) (k:Nat):YT G (lin (a 0) (b 0) u) (lin (a 1) (b 1) u) t k=lin (YT G (a 0) (a 1) t k) (YT G (b 0) (b 1) t k) u:=by
 unfold YT;rw [q2P,q2O];unfold trM
 split
 ·split <;> (unfold lin; grind)
 ·split
  ·split <;> (unfold lin; grind)
  ·split <;> (unfold lin; grind)
theorem q0m (G:Grd) (a b:Nat->Rat) (t:Tri) (u:Rat):hzT G (lin (a 0) (b 0) u) (lin (a 1) (b 1) u) t - lin (a 2) (b 2) u=lin (hzT G (a 0) (a 1) t - a 2) (hzT G (b 0) (b 1) t - b 2) u:=by
 unfold hzT;rw [q2P,q2O];unfold plV pkP pkQ;cases t.l
 ·simp only [Bool.false_eq_true,if_false];unfold lin
  grind
 ·simp only [if_true];unfold lin
  grind
theorem q0h {y:Rat} {t:Tri}:inT G x y t=true↔∀ k,k < 3->0<=YT G x y t k:=by
 unfold inT;rw [Bool.and_eq_true,Bool.and_eq_true,decide_eq_true_eq,decide_eq_true_eq,decide_eq_true_eq,yY,yY,yY]
 constructor
 ·rintro⟨h0,h1,h2⟩ k hk;have hk':k=0\/k=1\/k=2:=by omega
  rcases hk' with rfl | rfl | rfl
  ·exact h0
  ·exact h1
  ·exact h2
 ·intro h;exact⟨h 0 (by omega),h 1 (by omega),h 2 (by omega)⟩
theorem q0L {a b:Nat->Rat}:q1h G a b↔∀ t,t∈Xc G->¬ q3w G a b t:=by
 constructor
 ·rintro hc t ht ⟨u,h0,h1,h2,h3⟩;obtain⟨i,j,r,hi,hj,hr,rfl,hf⟩:=q03 ht;have hin:inT G (lin (a 0) (b 0) u) (lin (a 1) (b 1) u) (sqE G i j r)=true:=q0h.2 fun k hk=>by rw [q0f]; exact h2 k hk
  have hI:=(q0g hr (by omega) (by omega) (by omega) (by omega) hf).1 hin;have hs:=Qn (x:=lin (a 0) (b 0) u) (y:=lin (a 1) (b 1) u) ⟨_,_,r,hr,hI,rfl⟩
  have:=hc u h0 h1 (hzT G (lin (a 0) (b 0) u) (lin (a 1) (b 1) u) (sqE G i j r) - lin (a 2) (b 2) u) (by
   unfold exF;rw [hs,q3a hr]
   rfl)
  rw [q0m] at this
  grind
 ·intro h u h0 h1 x hx;unfold exF at hx;cases hh:XN G (lin (a 0) (b 0) u) (lin (a 1) (b 1) u) with
  | none=>rw [hh] at hx; cases hx
  | some v =>
   rw [hh] at hx;injection hx with hx
   obtain⟨i,j,r,hr,hI,hp⟩:=vN hh;have hf:=full_of hI.z0 hI.z1 hI.z2;have hm:=q4F hr hI.i0 hI.i1 hI.j0 hI.j1 hf;have hin:=(q0g hr hI.i0 hI.i1 hI.j0 hI.j1 hf).2 hI
   by_cases hpos:0 < x
   ·exfalso
    refine h _ hm ⟨u,h0,h1,fun k hk=>by rw [<-q0f]; exact q0h.1 hin k hk,?_⟩;rw [<-q0m,q3a hr];have hp':plT G (sx G (lin (a 0) (b 0) u)) (sy G (lin (a 1) (b 1) u)) i j r=v:=hp;have hx':v - lin (a 2) (b 2) u=x:=hx;rw [hp',hx'];exact hpos
   ·grind
end Go.Proofs.YtphpkhoeplcedaaGreat
namespace Go.Proofs.YtphpkhoeplcedaaGreat
open Go.RowKit
variable {w w':World} {N n lo hi k g i b K:Nat} {G:Grd} {q x:Rat} {z:Int}
def yI (S:Sta) (i j:Nat):Int :=
 if i=0 then (if j=0 then S.qa*S.qa+S.qb*S.qb - S.qc*S.qc - S.qd*S.qd else if j=1 then 2*(S.qb*S.qc+S.qa*S.qd) else 2*(S.qb*S.qd - S.qa*S.qc))
 else if i=1 then (if j=0 then 2*(S.qb*S.qc - S.qa*S.qd) else if j=1 then S.qa*S.qa - S.qb*S.qb+S.qc*S.qc - S.qd*S.qd else 2*(S.qc*S.qd+S.qa*S.qb))
 else (if j=0 then 2*(S.qb*S.qd+S.qa*S.qc) else if j=1 then 2*(S.qc*S.qd - S.qa*S.qb) else S.qa*S.qa - S.qb*S.qb - S.qc*S.qc+S.qd*S.qd)
def ZQ (S:Sta) (j:Nat):Int:=if j=0 then S.ax else if j=1 then S.ay else S.az
def dS (S:Sta) (p:Nat->Rat) (i:Nat):Nat->Rat
 | 0=>0
 | n+1=>dS S p i n+(yI S i n:Rat)*(p n - (ZQ S n:Rat))
def jU (S:Sta) (p:Nat->Rat):Rat:=(S.cx:Rat)+(S.f:Rat) / dS S p 2 3*dS S p 0 3
def jT (S:Sta) (p:Nat->Rat):Rat:=(S.cy:Rat)+(S.f:Rat) / dS S p 2 3*dS S p 1 3
structure ZK (S:Sta):Prop where
 ax : -1048576<=S.ax/\S.ax<=1048576
 ay : -1048576<=S.ay/\S.ay<=1048576
 az : -1048576<=S.az/\S.az<=1048576
 cx : -1048576<=S.cx/\S.cx<=1048576
 cy : -1048576<=S.cy/\S.cy<=1048576
 f:1<=S.f/\S.f<=1048576
 qa : -1048576<=S.qa/\S.qa<=1048576
 qb : -1048576<=S.qb/\S.qb<=1048576
 qc : -1048576<=S.qc/\S.qc<=1048576
 qd : -1048576<=S.qd/\S.qd<=1048576
 q0:¬ (S.qa=0/\S.qb=0/\S.qc=0/\S.qd=0)
abbrev q4W:Value:=.agg #[.bool false,.slice none 0 0,.bool false,.slice none 0 0,.bool false,.slice none 0 0,.bool false,.slice none 0 0]
theorem qX {x y:Int} (hx : -1048576<=x/\x<=1048576) (hy : -1048576<=y/\y<=1048576) : -1099511627776<=x*y/\x*y<=1099511627776:=by
 have h1:(x*y).natAbs<=1048576*1048576:=by
  rw [Int.natAbs_mul];exact Nat.mul_le_mul (by omega) (by omega)
 omega
theorem Yx {S:Sta} (h:ZK S) (i j:Nat) : -8796093022208<=yI S i j/\yI S i j<=8796093022208:=by
 have aa:=qX h.qa h.qa;have bb:=qX h.qb h.qb;have cc:=qX h.qc h.qc;have dd:=qX h.qd h.qd;have ab:=qX h.qa h.qb;have ac:=qX h.qa h.qc;have ad:=qX h.qa h.qd;have bc:=qX h.qb h.qc;have bd:=qX h.qb h.qd;have cd:=qX h.qc h.qd;unfold yI
 split
 ·split
  ·omega
  ·split <;> omega
 ·split
  ·split
   ·omega
   ·split <;> omega
  ·split
   ·omega
   ·split <;> omega
theorem Yo {S:Sta} (h:ZK S) (j:Nat) : -1048576<=ZQ S j/\ZQ S j<=1048576:=by
 unfold ZQ
 split
 ·exact h.ax
 ·split
  ·exact h.ay
  ·exact h.az
theorem J3 {S:Sta} (h:ZK S) {K:Nat} {p:Nat->Rat} (hp:∀ i,i < 3->Ht K (p i)) (i:Nat):∀ n,n<=3->Ht (n*(K+68)+1) (dS S p i n)
 | 0,_=>(qp (k:=0) (m:=1) (by decide) (by decide)).mono (by omega)
 | n+1,hn=>by
  have h0:=J3 h hp i n (by omega);have h1:=Yx h i n;have h2:=Yo h n;have h3:=(qp (k:=yI S i n) (m:=44) (by omega) (by omega)).mul ((hp n (by omega)).sub (qp (k:=ZQ S n) (m:=21) (by omega) (by omega)));exact (h0.add h3).mono (by rw [Nat.succ_mul]; omega)
theorem q55 {ca cb:Array Value} {vt:Value} {a b:Nat->Rat} {t:Rat} (a2:ca.size=12) (a4:PtV N w ca 0 a) (b2:cb.size=12) (b4:PtV N w cb 0 b) (ht:qm N w vt t) (hka:∀ i,i < 3->Ht K (a i)) (hkb:∀ i,i < 3->Ht K (b i)) (hkt:Ht K t) (hK:K<=10000000) :
  Calls Tryz.prog 23 #[.agg ca,.agg cb,vt] w (Jk N w (fun i=>lin (a i) (b i) t)):=by
 have hN:=ht.le;have HPA:=q_h a4;have HPB:=q_h b4;have SA:=q_h a2;have SB:=q_h b2;have HT:=q_h ht;obtain⟨m1,X1,i1,d1,X2,i2,d2,rfl,hm1,gx1,gx2⟩:=ht.parts;obtain⟨p,hp⟩:=qf (fun i=>lin (a i) (b i) t);rw [<-hp.out];clear ht gx1 gx2;have HA:=q_h hka;have HB:=q_h hkb;have HKT:=q_h hkt;clear hka hkb hkt a2 b2 a4 b4;go_enter Tryz.func23,Tryz.ntmps23;go_upto_region 2 with (fail);refine q3p ?_;intro W hE hsz B0 B1 B2 B3 B4;have hU:yU N W (w.heap.size+1+1+1+1) 0 p:=⟨_,B4,rfl,rfl,fun j hj=>absurd hj (by omega)⟩
 clear B4;have HC:=q_h B0;have HD:=q_h B1;have HE:=q_h B2;have HF:=q_h B3;clear B0 B1 B2 B3;go_wp2
 go_loopw [9] (fun iv wr=>∃ i:Nat,i<=3/\iv=.int .i64 i/\yU N wr (w.heap.size+1+1+1+1) i p/\Chg (w.heap.size+1+1+1+1) (w.heap.size+1+1+1+1+1) W wr) (fun iv _=>3 - (intOf iv).toNat)
 case atStart=>exact⟨0,by omega,rfl,hU,Chg.refl _ _ _⟩
 case round =>
  clear hU;obtain⟨i,hi,rfl,hU,hC⟩:=hrel;have hEr:Ext w wr:=hC.ext hE (by omega);have hlt:w.heap.size+1+1+1+1 < wr.heap.size:=hU.lt
  by_cases hi3:i < 3
  case neg =>
   obtain rfl:i=3:=by omega
   obtain⟨c0,k1,k2,k3,k4⟩:=hU;have HK4:=q_h k4;have K2:=q_h k2;have hq1:decide (((3:Nat):Int) < 3)=false:=by decide
   clear k4 k2;go_upto_region 7 with (fail);refine wp_region_lit ?_;refine wpList_load_row rfl 43 _ rfl _ (by rfl) _ c0 _ _ k1 Tryz.underlying43 rfl (by rw [K2.out]; exact qE) ?_;try simp only [nr]
   have B3:=hC.blk HF.out (.inl (by omega));refine qY rfl 43 _ _ rfl (by rfl) (by rfl) B3 qE K2.out (Eq.trans ((by rfl:Array.size _=12)) (Eq.symm (K2.out))) k3 ?_;try simp only [nr]
   intro w9 B9 U9;go_wp2;refine bodyPost_ret (results_cell_row rfl _ _ _ _ _ _ _ rfl B9 Tryz.underlying43 rfl (by rw [K2.out]; exact qE)) rfl ?_;exact⟨c0,rfl,K2.out,k3,fun j hj=>by rw [Nat.zero_add]; exact (HK4.out j hj).chg (U9.chg (NoU.mk B3 (by decide))) (by omega),U9.ext hEr (by omega)⟩
  have B0:=hC.blk HC.out (.inl (by omega));have B1:=hC.blk HD.out (.inl (by omega));have B2:=hC.blk HE.out (.inl (by omega));have hi3':(i:Int) < 3:=by omega
  obtain⟨x0,x1,x2,x3,-⟩:=cells4 B2;have hRx:=HT.out.ext hEr;have hPa:=((HPA.out i hi3).ext hEr).at4 B0;have hPb:=((HPB.out i hi3).ext hEr).at4 B1;rw [Nat.zero_add] at hPa hPb;obtain⟨Ap,np,cp,A'p,n'p,c'p,p0,p1,p2,p3,hRp⟩:=hPa.val;obtain⟨Aq,nq,cq,A'q,n'q,c'q,q0,q1,q2,q3,hRq⟩:=hPb.val;have hAi:=HA.out i hi3;have hBi:=HB.out i hi3;have hD1:Ht (K+K+1) (b i - a i):=hBi.sub hAi;have hM1:Ht (K+(K+K+1)) (t*(b i - a i)):=HKT.out.mul hD1;have HSA:Hid (Sz (a i)):=hAi.sz (by omega);have HSB:Hid (Sz (b i)):=hBi.sz (by omega);have HST:Hid (Sz t):=HKT.out.sz (by omega);have HSD:Hid (Sz (b i - a i)):=hD1.sz (by omega);have HSM:Hid (Sz (t*(b i - a i))):=hM1.sz (by omega);have HPI:Hid (p i=a i+t*(b i - a i)):=by rw [hp.out]; rfl
  clear hAi hBi hD1 hM1 hPa hPb B0 B1 B2;go_upto_region 5 with (fail);refine xe [Mn.i (i:Int),Mn.i (i:Int),Mn.q w.heap.size (i*4),Mn.rat N (a i),Mn.rat N (t),Mn.i (i:Int),Mn.q (w.heap.size+1) (i*4),Mn.rat N (b i),Mn.i (i:Int),Mn.q w.heap.size (i*4),Mn.rat N (a i),Mn.rat N (b i - a i),Mn.rat N (t*(b i - a i)),Mn.rat N (a i+t*(b i - a i)),Mn.q (w.heap.size+1+1+1+1) (i*4),Mn.any] [some 12,some 13,some 14,some 15,some 16,some 17,some 18,some 19,some 20,some 21,some 22,some 23,some 24,some 25,some 26,none] [15] (rQ 15 1) 1 (by kernel_rfl) ?_ ?_
  ·show ∀ i,i < 16->_
   iterate 16 refine fs ?_ ?_
   ·exact fz
   all_goals intro hl; first | exact absurd hl (by decide) | (clear hl; refine stp rfl ?_; intro ac wi eI hB hA K hK)
   have o8:=oOf (hB 8) rfl
   rotate_left
   have o8:=oOf (hB 8) rfl
   rotate_left
   have o3:=oOf (hB 3) rfl;obtain⟨_,s13,rfl⟩:=hA 1 13
   rotate_left
   obtain⟨_,s14,rfl⟩:=hA 2 14;clear hB hA;have cc0:=eI.cell p0;have cc1:=eI.cell p1;have cc2:=eI.cell p2;have cc3:=eI.cell p3
   ·go_simp;exact q_k hK (hRp.ext eI)
   have o5:=oOf (hB 5) rfl;clear hB hA;have cc0:=eI.cell x0;have cc1:=eI.cell x1;have cc2:=eI.cell x2;have cc3:=eI.cell x3
   ·go_simp;exact q_k hK (hRx.ext eI)
   have o8:=oOf (hB 8) rfl
   rotate_left
   have o4:=oOf (hB 4) rfl;obtain⟨_,s17,rfl⟩:=hA 5 17
   rotate_left
   obtain⟨_,s18,rfl⟩:=hA 6 18;clear hB hA;have cc0:=eI.cell q0;have cc1:=eI.cell q1;have cc2:=eI.cell q2;have cc3:=eI.cell q3
   ·go_simp;exact q_k hK (hRq.ext eI)
   have o8:=oOf (hB 8) rfl
   rotate_left
   have o3:=oOf (hB 3) rfl;obtain⟨_,s20,rfl⟩:=hA 8 20
   rotate_left
   obtain⟨_,s21,rfl⟩:=hA 9 21;clear hB hA;have cc0:=eI.cell p0;have cc1:=eI.cell p1;have cc2:=eI.cell p2;have cc3:=eI.cell p3
   ·go_simp;exact q_k hK (hRp.ext eI)
   obtain⟨x19,s19,j19⟩:=hA 7 19;replace j19:Mn.p (Mn.rat N (b i)) x19 wi:=j19;obtain⟨x22,s22,j22⟩:=hA 10 22;replace j22:Mn.p (Mn.rat N (a i)) x22 wi:=j22;clear hB hA
   ·go_simp;refine (jP j19 j22 HSB.out HSA.out).mono ?_;rintro e wj ⟨vj,rfl,hj,ej⟩;go_wp2_with fail;exact hK.out _ _ ej hj
   obtain⟨x16,s16,j16⟩:=hA 4 16;replace j16:Mn.p (Mn.rat N (t)) x16 wi:=j16;obtain⟨x23,s23,j23⟩:=hA 11 23;replace j23:Mn.p (Mn.rat N (b i - a i)) x23 wi:=j23;clear hB hA
   ·go_simp;refine (Zn j16 j23 HST.out HSD.out).mono ?_;rintro e wj ⟨vj,rfl,hj,ej⟩;go_wp2_with fail;exact hK.out _ _ ej hj
   obtain⟨x15,s15,j15⟩:=hA 3 15;replace j15:Mn.p (Mn.rat N (a i)) x15 wi:=j15;obtain⟨x24,s24,j24⟩:=hA 12 24;replace j24:Mn.p (Mn.rat N (t*(b i - a i))) x24 wi:=j24;clear hB hA
   ·go_simp;refine (QK j15 j24 HSA.out HSM.out).mono ?_;rintro e wj ⟨vj,rfl,hj,ej⟩;go_wp2_with fail;exact hK.out _ _ ej hj
   have o7:=oOf (hB 7) rfl;obtain⟨_,s12,rfl⟩:=hA 0 12
   rotate_left
   all_goals clear hB hA; go_simp; exact q_k hK rfl
  intro vals wz eZ hJ;have J25:Mn.p (Mn.rat N (a i+t*(b i - a i))) (vals 13) wz:=hJ 13 (by decide) (by decide);have J26:vals 14=_:=hJ 14 (by decide) (by decide);clear hJ;simp only [pr,Nat.reduceAdd,J26];clear J26
  generalize vals 13=z25 at J25 ⊢
  obtain⟨bz,Az,kz,cz,Az',kz',cz',rfl,hbz,gz1,gz2⟩:=qm.parts J25;replace hU:=hU.ext eZ;obtain⟨u0,v0⟩:=hU.there (o:=i*4) (by omega);obtain⟨u1,v1⟩:=hU.there (o:=i*4+1) (by omega);obtain⟨u2,v2⟩:=hU.there (o:=i*4+2) (by omega);obtain⟨u3,v3⟩:=hU.there (o:=i*4+3) (by omega);have f0:=hU.frozen (i*4);have f1:=hU.frozen (i*4+1);have f2:=hU.frozen (i*4+2);have f3:=hU.frozen (i*4+3);refine qi (i:=15) rfl (by kernel_rfl) (by kernel_rfl) (fun K hK=>?_);go_simp;refine hK.out _ _ ?_;clear hK K;try simp only [nr]
  refine qg (by kernel_rfl) ?_ _;rw [<-HPI.out] at hbz gz1 gz2;obtain⟨w9,E9,C9,S9,hU9⟩:=hU.set hi3 (by omega) hbz gz1 gz2;rw [E9];go_wp2;go_roundw
  case rel=>exact⟨i+1,by omega,by go_num,hU9,(hC.trans (eZ.chg _ _)).trans C9⟩
  case measure=>simp [intOf]; omega
end Go.Proofs.YtphpkhoeplcedaaGreat
