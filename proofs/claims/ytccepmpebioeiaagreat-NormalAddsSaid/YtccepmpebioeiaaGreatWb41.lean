import Derived.Test.YtccepmpebioeiaaGreatWb39
import Derived.Test.YtccepmpebioeiaaGreatWb40
import Derived.Test.YtccepmpebioeiaaGreatWb33
import Derived.Test.YtccepmpebioeiaaGreatWb26
set_option linter.all false
set_option maxHeartbeats 8000000
namespace Go.Proofs.YtccepmpebioeiaaGreat
open Go.RowKit
def Mn.sb (k:Nat) (cs:Array Value) (t:TypeId):Mn:=⟨fun v w=>∃ g,v=.slice (some ⟨g,0,none⟩) k k∧w.heap[g]?=some (.cells cs t (0,0)),fun e h=>by
  obtain⟨g,h0,h1⟩:=h
  exact⟨g,h0,e.block h1⟩⟩
def Mn.two (N n:Nat) (x:Nat→Rat) (k:Nat) (y:Nat→Rat):Mn:=⟨fun v w=>∃ A c A' c',v=.tuple #[.slice A n c,.slice A' k c',.int .i64 0]∧LsV N 0 w.heap.size w (.slice A n c) n x∧LsV N 0 w.heap.size w (.slice A' k c') k y,fun e h=>by
  obtain⟨A,c,A',c',h0,h1,h2⟩:=h
  exact⟨A,c,A',c',h0,LsV.all (h1.ext e),LsV.all (h2.ext e)⟩⟩
def exX (i:Nat):Rat:=((ex3f 1 1 0 i:Int):Rat)
def exC (_ i:Nat):Rat:=((ex3f 1 (-1) 0 i:Int):Rat)
def exD (i:Nat):Rat:=((ex3f 2 0 0 i:Int):Rat)
def exK (i:Nat):Rat:=((ex3f (-1) 0 0 i:Int):Rat)
theorem ex_rank:(rref 2 (nmat exA exP 3) 2).2.length=2:=by decide +kernel
theorem ex_sol:∀ i,i < 2→nsv 2 (nmat exA exP 3) (nrhs exA exL exP 3) i=exX i:=by decide +kernel
theorem ex_obj:obj 3 exP (fun i=>av 2 exA exX i - exL i)=((3:Int):Rat):=by decide +kernel
theorem ex_rank1:(rref 1 (augI 1 (fun a b=>nmat exA exP 3 (1+a) (1+b))) 1).2.length=1:=by decide +kernel
theorem ex_red:∀ j,j < 1→schM 1 1 (nmat exA exP 3) 0 j=schR 1 1 (nmat exA exP 3) (nrhs exA exL exP 3) j:=by decide +kernel
theorem ex_rank3:(rref (2+1) (bord 2 (nmat exA exP 3) exC) (2+1)).2.length=3:=by decide +kernel
theorem ex_con:∀ i,i < 2→nsv (2+1) (bord 2 (nmat exA exP 3) exC) (cat 2 (nrhs exA exL exP 3) exD) i=exD i:=by decide +kernel
theorem ex_mul:∀ i,i < 1→nsv (2+1) (bord 2 (nmat exA exP 3) exC) (cat 2 (nrhs exA exL exP 3) exD) (2+i)=exK i:=by decide +kernel
theorem ex_pos:∀ i,i < 3→0 < exP i:=by decide +kernel
theorem exA_ht:HtM 3 2 3 exA:=by unfold HtM Ht; decide +kernel
theorem exL_ht:HtL 3 3 exL:=by unfold HtL Ht; decide +kernel
theorem exP_ht:HtL 3 3 exP:=by unfold HtL Ht; decide +kernel
theorem exX_ht:HtL 2 3 exX:=by unfold HtL Ht; decide +kernel
theorem exC_ht:HtM 1 2 50 exC:=by unfold HtM Ht; decide +kernel
theorem exD_ht:HtL 2 50 exD:=by unfold HtL Ht; decide +kernel
theorem exK_ht:HtL 1 3 exK:=by unfold HtL Ht; decide +kernel
theorem ex_rht:HtL 1 9 (schM 1 1 (nmat exA exP 3) 0):=by unfold HtL Ht; decide +kernel
set_option maxRecDepth 100000 in
theorem l34_known (w:World):Calls Tryz.prog 10 #[] w (RetV w (.bool true)):=by
 obtain⟨N,hN⟩:∃ N,N=w.heap.size:=⟨_,rfl⟩
 go_enter Tryz.func10,Tryz.ntmps10;go_wp2_with (go_at_call 54; refine Hid.out ?_);refine (l34_example (N:=N) (by omega)).mono ?_;rintro e w1 ⟨Q1,q1,Q2,q2,Q3,q3,rfl,m1,l2,l3,e1⟩;go_upto_region 2 with (fail);refine boxes1 ?_;intro w2 e2 hsz2 B0;have hE:=e1.trans e2;have M1:=MtV.ext m1 e2;have L2:=LsV.ext l2 e2;have L3:=LsV.ext l3 e2;obtain⟨gl,hgl⟩:∃ gl,gl=w1.heap.size:=⟨_,rfl⟩
 rw [←hgl] at B0 ⊢;clear e1 e2 m1 l2 l3 hsz2 hgl;obtain⟨r0,r1,r2,-⟩:=cells3 B0;go_wp2_with (go_at_call 13; refine Hid.out ?_);refine (n_solve (P:=2) M1 L2 L3 (by omega) (by omega) (by omega) (by omega) ex_pos exA_ht exL_ht exP_ht (by omega) (by omega) (by decide)).mono ?_;rintro e w3 ⟨e3,hh⟩
 rcases hh with ⟨h0,-⟩ | ⟨-,A5,c5,rfl,h5⟩
 ·rw [ex_rank] at h0; exact absurd h0 (by omega)
 replace h5:=LsV.all (LsV.congr h5 ex_sol);replace M1:=M1.ext e3;replace L2:=L2.ext e3;replace L3:=L3.ext e3;replace hE:=hE.trans e3;replace B0:=e3.block B0;clear r0 r1 r2 e3;obtain⟨r0,r1,r2,-⟩:=cells3 B0;go_wp2_with (go_at_call 32; refine Hid.out ?_);refine (n_Objective (kv:=2*(3+3+1)+1+3+1) M1 L2 L3 h5 (by omega) (by omega) (by omega) (by omega) ex_pos exA_ht exL_ht exP_ht exX_ht (by omega) rfl (by omega)).mono ?_;rintro e w4 ⟨v4,rfl,h4,e4⟩;rw [ex_obj] at h4;obtain⟨nb,Q5,m5,l5,Q6,m6,l6,rfl,hn1,y1,y2⟩:=RatV.parts h4;replace M1:=M1.ext e4;replace L2:=L2.ext e4;replace L3:=L3.ext e4;replace h5:=h5.ext e4;replace hE:=hE.trans e4;replace B0:=e4.block B0;clear r0 r1 r2 e4 h4;go_upto_region 4 with (fail);refine boxes1 ?_;intro w5 e5 hsz5 B5;replace M1:=M1.ext e5;replace L2:=L2.ext e5;replace L3:=L3.ext e5;replace h5:=h5.ext e5;replace y1:=y1.ext e5;replace y2:=y2.ext e5;replace hE:=hE.trans e5;replace B0:=e5.block B0;obtain⟨go,hgo⟩:∃ go,go=w4.heap.size:=⟨_,rfl⟩
 rw [←hgo] at B5 ⊢;clear e5 hsz5 hgo;obtain⟨r0,r1,r2,-⟩:=cells3 B0;go_wp2_with (go_at_call 22; refine Hid.out ?_);refine (n_Reduced (Q:=41) (H:=1000) (F:=10000) M1 L2 L3 (by omega) (by omega) (by omega) (by omega) ex_pos exA_ht exL_ht exP_ht (by omega) 1 1 rfl (by omega) (by omega) (by omega) (by decide) (by omega) (by omega)).mono ?_;rintro e w6 ⟨e6,hh⟩
 rcases hh with ⟨h0,-⟩ | ⟨-,A6,c6,A7,c7,rfl,h6,h7⟩
 ·rw [ex_rank1] at h0; exact absurd h0 (by omega)
 replace M1:=M1.ext e6;replace L2:=L2.ext e6;replace L3:=L3.ext e6;replace h5:=h5.ext e6;replace y1:=y1.ext e6;replace y2:=y2.ext e6;replace hE:=hE.trans e6;replace B0:=e6.block B0;replace B5:=e6.block B5;clear r0 r1 r2 e6;obtain⟨r0,r1,r2,-⟩:=cells3 B0;go_upto_region 5 with (fail);refine regI [Mn.eq (.agg #[.slice Q1 3 q1,.slice Q2 3 q2,.slice Q3 3 q3]),Mn.sb 2 #[.int .i64 1,.int .i64 (-1)] 3,Mn.ls N 2 (fun i=>((ex3f 1 (-1) 0 i:Int):Rat)),Mn.mt N 1 2 exC,Mn.sb 1 #[.int .i64 2] 3,Mn.ls N 1 exD,Mn.two N 2 exD 1 exK,Mn.two N 2 exD 1 exK,Mn.ls N 2 exD,Mn.ls N 1 exK,Mn.eq (.int .i64 0),Mn.ls N 2 exD,Mn.ls N 1 exK,Mn.eq (.int .i64 0)] [some 31,some 32,some 33,some 34,some 35,some 36,some 37,some 30,some 38,some 39,some 40,some 9,some 10,some 11] [] [true,true,true,true,true,true,true,true,true,true,true,true,true,true] 0 (by kernel_rfl) ?_ ?_
 ·show ∀ i,i < 14→_
  iterate 14 refine fs ?_ ?_
  ·exact fz
  all_goals intro hl
  all_goals clear hl
  all_goals refine stp rfl ?_
  all_goals intro ac wi eI hB hA K hK
  have o1:=oOf (hB 1 (by kernel_rfl)) rfl;have cc0:=eI.cell r0;have cc1:=eI.cell r1;have cc2:=eI.cell r2
  rotate_left
  clear hB hA
  ·go_simp;refine boxes1 ?_;intro wj ej hszj BJ;exact hK.out _ _ ej ⟨_,rfl,BJ⟩
  obtain⟨x32,s32,j32⟩:=hA 1 (by kernel_rfl) 32 rfl;replace j32:Mn.p (Mn.sb 2 #[.int .i64 1,.int .i64 (-1)] 3) x32 wi:=j32;clear hB hA
  ·obtain⟨gb,rfl,BB⟩:=j32;go_simp;refine (l34_row (N:=N) (k:=2) (f:=ex3f 1 (-1) 0) (by have:=hE.size; have:=eI.size; omega) BB (fun i hi=>by rcases i with _ | _ | i; rfl; rfl; omega) (by omega) (fun i _=>by unfold ex3f; split <;> (try split) <;> omega)).mono ?_;rintro e wj ⟨Aj,cj,rfl,hj,ej⟩;go_wp2_with fail;exact hK.out _ _ ej (LsV.all hj)
  obtain⟨x33,s33,j33⟩:=hA 2 (by kernel_rfl) 33 rfl;replace j33:Mn.p (Mn.ls N 2 (fun i=>((ex3f 1 (-1) 0 i:Int):Rat))) x33 wi:=j33;clear hB hA
  ·obtain⟨Q9,l9,rfl,-⟩:=LsV.form j33;go_simp;refine boxes1 ?_;intro wj ej hszj BJ;exact hK.out _ _ ej (one_list BJ ((Mn.ls N 2 _).mono ej j33))
  clear hB hA
  ·go_simp;refine boxes1 ?_;intro wj ej hszj BJ;exact hK.out _ _ ej ⟨_,rfl,BJ⟩
  obtain⟨x35,s35,j35⟩:=hA 4 (by kernel_rfl) 35 rfl;replace j35:Mn.p (Mn.sb 1 #[.int .i64 2] 3) x35 wi:=j35;clear hB hA
  ·obtain⟨gb,rfl,BB⟩:=j35;go_simp;refine (l34_row (N:=N) (k:=1) (f:=ex3f 2 0 0) (by have:=hE.size; have:=eI.size; omega) BB (fun i hi=>by rcases i with _ | i; rfl; omega) (by omega) (fun i _=>by unfold ex3f; split <;> (try split) <;> omega)).mono ?_;rintro e wj ⟨Aj,cj,rfl,hj,ej⟩;go_wp2_with fail;exact hK.out _ _ ej (LsV.all hj)
  obtain⟨x31,s31,j31⟩:=hA 0 (by kernel_rfl) 31 rfl;obtain rfl:x31=(.agg #[.slice Q1 3 q1,.slice Q2 3 q2,.slice Q3 3 q3]):=j31;obtain⟨x34,s34,j34⟩:=hA 3 (by kernel_rfl) 34 rfl;replace j34:Mn.p (Mn.mt N 1 2 exC) x34 wi:=j34;obtain⟨x36,s36,j36⟩:=hA 5 (by kernel_rfl) 36 rfl;replace j36:Mn.p (Mn.ls N 1 exD) x36 wi:=j36;clear hB hA
  ·obtain⟨Q8,l8,rfl,-⟩:=MtV.form j34;obtain⟨Q9,l9,rfl,-⟩:=LsV.form j36;go_simp;refine (n_Constrained (q:=3) (Q:=50) (P:=3) (M1.ext eI) (L2.ext eI) (L3.ext eI) j34 j36 (by omega) (by omega) (by omega) (by omega) (by omega) (by omega) ex_pos exA_ht exL_ht exP_ht exC_ht (fun i hi=>exD_ht i (by omega)) (by omega) (by omega) (by decide)).mono ?_;rintro e wj ⟨ej,hh⟩
   rcases hh with ⟨h0,-⟩ | ⟨-,Ax,cx,Ay,cy,rfl,hx,hy⟩
   ·rw [ex_rank3] at h0; exact absurd h0 (by omega)
   go_wp2_with fail;exact hK.out _ _ ej ⟨_,_,_,_,rfl,LsV.all (LsV.congr hx ex_con),LsV.all (LsV.congr hy ex_mul)⟩
  obtain⟨x37,s37,j37⟩:=hA 6 (by kernel_rfl) 37 rfl;replace j37:Mn.p (Mn.two N 2 exD 1 exK) x37 wi:=j37;clear hB hA
  ·go_simp;exact hK.out _ _ (Ext.refl _) j37
  obtain⟨x30,s30,j30⟩:=hA 7 (by kernel_rfl) 30 rfl;replace j30:Mn.p (Mn.two N 2 exD 1 exK) x30 wi:=j30;clear hB hA
  ·obtain⟨Ax,cx,Ay,cy,rfl,hx,hy⟩:=j30;go_simp;exact hK.out _ _ (Ext.refl _) hx
  obtain⟨x30,s30,j30⟩:=hA 7 (by kernel_rfl) 30 rfl;replace j30:Mn.p (Mn.two N 2 exD 1 exK) x30 wi:=j30;clear hB hA
  ·obtain⟨Ax,cx,Ay,cy,rfl,hx,hy⟩:=j30;go_simp;exact hK.out _ _ (Ext.refl _) hy
  obtain⟨x30,s30,j30⟩:=hA 7 (by kernel_rfl) 30 rfl;replace j30:Mn.p (Mn.two N 2 exD 1 exK) x30 wi:=j30;clear hB hA
  ·obtain⟨Ax,cx,Ay,cy,rfl,hx,hy⟩:=j30;go_simp;exact hK.out _ _ (Ext.refl _) rfl
  obtain⟨x38,s38,j38⟩:=hA 8 (by kernel_rfl) 38 rfl;replace j38:Mn.p (Mn.ls N 2 exD) x38 wi:=j38;clear hB hA
  ·go_simp;exact hK.out _ _ (Ext.refl _) j38
  obtain⟨x39,s39,j39⟩:=hA 9 (by kernel_rfl) 39 rfl;replace j39:Mn.p (Mn.ls N 1 exK) x39 wi:=j39;clear hB hA
  ·go_simp;exact hK.out _ _ (Ext.refl _) j39
  obtain⟨x40,s40,j40⟩:=hA 10 (by kernel_rfl) 40 rfl;obtain rfl:x40=(.int .i64 0):=j40
  rotate_left
  all_goals clear hB hA
  all_goals go_simp
  all_goals exact hK.out _ _ (Ext.refl _) rfl
 intro vals wz eZ hJ;have J32:Mn.p (Mn.sb 2 #[.int .i64 1,.int .i64 (-1)] 3) (vals 1) wz:=hJ 1 (by decide) (by decide);have J33:Mn.p (Mn.ls N 2 (fun i=>((ex3f 1 (-1) 0 i:Int):Rat))) (vals 2) wz:=hJ 2 (by decide) (by decide);have J34:Mn.p (Mn.mt N 1 2 exC) (vals 3) wz:=hJ 3 (by decide) (by decide);have J35:Mn.p (Mn.sb 1 #[.int .i64 2] 3) (vals 4) wz:=hJ 4 (by decide) (by decide);have J36:Mn.p (Mn.ls N 1 exD) (vals 5) wz:=hJ 5 (by decide) (by decide);have J37:Mn.p (Mn.two N 2 exD 1 exK) (vals 6) wz:=hJ 6 (by decide) (by decide);have J30:Mn.p (Mn.two N 2 exD 1 exK) (vals 7) wz:=hJ 7 (by decide) (by decide);have J38:Mn.p (Mn.ls N 2 exD) (vals 8) wz:=hJ 8 (by decide) (by decide);have J39:Mn.p (Mn.ls N 1 exK) (vals 9) wz:=hJ 9 (by decide) (by decide);have J9:Mn.p (Mn.ls N 2 exD) (vals 11) wz:=hJ 11 (by decide) (by decide);have J10:Mn.p (Mn.ls N 1 exK) (vals 12) wz:=hJ 12 (by decide) (by decide);have J11:vals 13=_:=hJ 13 (by decide) (by decide);clear hJ;simp only [pr,Nat.reduceAdd,J11];clear J11
 generalize vals 1=z32 at J32 ⊢
 generalize vals 2=z33 at J33 ⊢
 generalize vals 3=z34 at J34 ⊢
 generalize vals 4=z35 at J35 ⊢
 generalize vals 5=z36 at J36 ⊢
 generalize vals 6=z37 at J37 ⊢
 generalize vals 7=z30 at J30 ⊢
 generalize vals 8=z38 at J38 ⊢
 generalize vals 9=z39 at J39 ⊢
 generalize vals 11=z9 at J9 ⊢
 generalize vals 12=z10 at J10 ⊢
 clear J30 J32 J33 J34 J35 J36 J37 J38 J39;obtain⟨A9,c9,rfl,-⟩:=LsV.form J9;obtain⟨A10,c10,rfl,-⟩:=LsV.form J10;refine stepL_done (by kernel_rfl) ?_ _;replace h5:=h5.ext eZ;replace h6:=MtV.all (h6.ext eZ);replace h7:=LsV.all (h7.ext eZ);replace y1:=y1.ext eZ;replace y2:=y2.ext eZ;replace B5:=eZ.block B5;replace hE:=hE.trans eZ;clear r0 r1 r2 M1 L2 L3 B0 eZ;obtain⟨p0,p1,p2,p3,-⟩:=cells4 B5;obtain⟨b,off,rfl,-,-,hx⟩:=MtV.addr h6 (by omega);obtain⟨AR,cR,o0,hRc,hcR,hR⟩:=hx 0 (by omega);rw [Nat.add_zero] at o0;unfold maxLen at hcR;have hNz:N≤wz.heap.size:=by have:=hE.size; omega
 clear hx h6;have HS3:Hid (Sz ((3:Int):Rat)):=(ht_nat 3 4 (by decide) (by omega)).sz (by omega);obtain⟨wx,hwx⟩:∃ wx,wx=wz:=⟨_,rfl⟩
 subst hwx;go_upto_region 6 with (fail);refine regI [Mn.eq (.int .i64 0),Mn.eq (.int .i64 0),Mn.eq (.int .i64 0),Mn.eq (.int .i64 0),Mn.eq (.int .i64 0),Mn.eq (.int .i64 0),Mn.eq (.int .i64 0),Mn.eq (.bool true),Mn.eq (.bool true),Mn.eq (.slice A5 2 c5),Mn.sb 2 #[.int .i64 1,.int .i64 1] 3,Mn.ls N 2 exX,Mn.eq (.bool true),Mn.eq (.bool true),Mn.eq (.bool true),Mn.rat N ((3:Int):Rat),Mn.rat N ((3:Int):Rat),Mn.eq (.bool true),Mn.eq (.bool true),Mn.eq (.bool true),Mn.eq (.slice (some ⟨b,off,none⟩) 1 c6),Mn.eq (.int .i64 1),Mn.eq (.bool true),Mn.eq (.bool true),Mn.eq (.bool true),Mn.eq (.slice (some ⟨b,off,none⟩) 1 c6),Mn.eq (.pointer (some ⟨b,off,none⟩)),Mn.eq (.slice AR 1 cR),Mn.eq (.slice A7 1 c7),Mn.eq (.bool true),Mn.eq (.bool true),Mn.eq (.bool true),Mn.eq (.slice A9 2 c9),Mn.sb 2 #[.int .i64 2,.int .i64 0] 3,Mn.ls N 2 exD,Mn.eq (.bool true),Mn.eq (.bool true),Mn.eq (.bool true),Mn.eq (.slice A10 1 c10),Mn.sb 1 #[.int .i64 (-1)] 3,Mn.ls N 1 exK,Mn.eq (.bool true),Mn.eq (.bool true),Mn.eq (.bool true)] [some 41,some 42,some 43,some 44,some 45,some 46,some 47,some 48,some 49,some 50,some 51,some 52,some 53,some 54,some 55,some 56,some 57,some 58,some 59,some 60,some 61,some 62,some 63,some 64,some 65,some 66,some 67,some 68,some 69,some 70,some 71,some 72,some 73,some 74,some 75,some 76,some 77,some 78,some 79,some 80,some 81,some 82,some 83,some 0] [] [true,true,true,true,true,true,true,true,true,true,true,true,true,true,true,true,true,true,true,true,true,true,true,true,true,true,true,true,true,true,true,true,true,true,true,true,true,true,true,true,true,true,true,true] 0 (by kernel_rfl) ?_ ?_
 ·show ∀ i,i < 44→_
  iterate 44 refine fs ?_ ?_
  ·exact fz
  all_goals intro hl
  all_goals clear hl
  all_goals refine stp rfl ?_
  all_goals intro ac wi eI hB hA K hK
  have o3:=oOf (hB 3 (by kernel_rfl)) rfl
  rotate_left
  have o5:=oOf (hB 5 (by kernel_rfl)) rfl
  rotate_left
  obtain⟨x41,s41,j41⟩:=hA 0 (by kernel_rfl) 41 rfl;obtain rfl:x41=(.int .i64 0):=j41;obtain⟨x42,s42,j42⟩:=hA 1 (by kernel_rfl) 42 rfl;obtain rfl:x42=(.int .i64 0):=j42
  rotate_left
  have o8:=oOf (hB 8 (by kernel_rfl)) rfl
  rotate_left
  obtain⟨x43,s43,j43⟩:=hA 2 (by kernel_rfl) 43 rfl;obtain rfl:x43=(.int .i64 0):=j43;obtain⟨x44,s44,j44⟩:=hA 3 (by kernel_rfl) 44 rfl;obtain rfl:x44=(.int .i64 0):=j44
  rotate_left
  have o11:=oOf (hB 11 (by kernel_rfl)) rfl
  rotate_left
  obtain⟨x45,s45,j45⟩:=hA 4 (by kernel_rfl) 45 rfl;obtain rfl:x45=(.int .i64 0):=j45;obtain⟨x46,s46,j46⟩:=hA 5 (by kernel_rfl) 46 rfl;obtain rfl:x46=(.int .i64 0):=j46
  rotate_left
  obtain⟨x47,s47,j47⟩:=hA 6 (by kernel_rfl) 47 rfl;obtain rfl:x47=(.int .i64 0):=j47
  rotate_left
  obtain⟨x48,s48,j48⟩:=hA 7 (by kernel_rfl) 48 rfl;obtain rfl:x48=(.bool true):=j48
  rotate_left
  obtain⟨x49,s49,j49⟩:=hA 8 (by kernel_rfl) 49 rfl;obtain rfl:x49=(.bool true):=j49;have o2:=oOf (hB 2 (by kernel_rfl)) rfl;rw [if_pos (by simp [Region.wanted,yielded,s49])]
  rotate_left
  obtain⟨x49,s49,j49⟩:=hA 8 (by kernel_rfl) 49 rfl;obtain rfl:x49=(.bool true):=j49;clear hB hA;rw [if_pos (by simp [Region.wanted,yielded,s49])]
  ·go_simp;refine boxes1 ?_;intro wj ej hszj BJ;exact hK.out _ _ ej ⟨_,rfl,BJ⟩
  obtain⟨x49,s49,j49⟩:=hA 8 (by kernel_rfl) 49 rfl;obtain rfl:x49=(.bool true):=j49;obtain⟨x51,s51,j51⟩:=hA 10 (by kernel_rfl) 51 rfl;replace j51:Mn.p (Mn.sb 2 #[.int .i64 1,.int .i64 1] 3) x51 wi:=j51;clear hB hA;rw [if_pos (by simp [Region.wanted,yielded,s49])]
  ·obtain⟨gb,rfl,BB⟩:=j51;go_simp;refine (l34_row (N:=N) (k:=2) (f:=ex3f 1 1 0) (by have:=eI.size; omega) BB (fun i hi=>by rcases i with _ | _ | i; rfl; rfl; omega) (by omega) (fun i _=>by unfold ex3f; split <;> (try split) <;> omega)).mono ?_;rintro e wj ⟨Aj,cj,rfl,hj,ej⟩;go_wp2_with fail;exact hK.out _ _ ej (LsV.all hj)
  obtain⟨x49,s49,j49⟩:=hA 8 (by kernel_rfl) 49 rfl;obtain rfl:x49=(.bool true):=j49;obtain⟨x50,s50,j50⟩:=hA 9 (by kernel_rfl) 50 rfl;obtain rfl:x50=(.slice A5 2 c5):=j50;obtain⟨x52,s52,j52⟩:=hA 11 (by kernel_rfl) 52 rfl;replace j52:Mn.p (Mn.ls N 2 exX) x52 wi:=j52;clear hB hA;rw [if_pos (by simp [Region.wanted,yielded,s49])]
  ·obtain⟨Q9,l9,rfl,-⟩:=LsV.form j52;go_simp;refine (r2_sameList (h5.ext eI) j52 (fun i hi=>(exX_ht i hi).sz (by omega)) (fun _ _=>rfl)).mono ?_;rintro e wj ⟨rfl,ej⟩;go_wp2_with fail;exact hK.out _ _ ej rfl
  obtain⟨x49,s49,j49⟩:=hA 8 (by kernel_rfl) 49 rfl;obtain rfl:x49=(.bool true):=j49;obtain⟨x53,s53,j53⟩:=hA 12 (by kernel_rfl) 53 rfl;obtain rfl:x53=(.bool true):=j53
  rotate_left
  obtain⟨x54,s54,j54⟩:=hA 13 (by kernel_rfl) 54 rfl;obtain rfl:x54=(.bool true):=j54
  rotate_left
  obtain⟨x55,s55,j55⟩:=hA 14 (by kernel_rfl) 55 rfl;obtain rfl:x55=(.bool true):=j55;have o4:=oOf (hB 4 (by kernel_rfl)) rfl;clear hB hA;rw [if_pos (by simp [Region.wanted,yielded,s55])];have cc0:=eI.cell p0;have cc1:=eI.cell p1;have cc2:=eI.cell p2;have cc3:=eI.cell p3;have cc4:=eI.cell o0
  ·go_simp;exact hK.out _ _ (Ext.refl _) ((RatV.mk hn1 y1 y2).ext eI)
  obtain⟨x55,s55,j55⟩:=hA 14 (by kernel_rfl) 55 rfl;obtain rfl:x55=(.bool true):=j55;clear hB hA;rw [if_pos (by simp [Region.wanted,yielded,s55])]
  ·go_simp;refine (r2_Whole (N:=N) (by have:=eI.size; omega) 3 (by omega) (by omega)).mono ?_;rintro e wj ⟨vj,rfl,hj,ej⟩;go_wp2_with fail;exact hK.out _ _ ej hj
  obtain⟨x55,s55,j55⟩:=hA 14 (by kernel_rfl) 55 rfl;obtain rfl:x55=(.bool true):=j55;obtain⟨x56,s56,j56⟩:=hA 15 (by kernel_rfl) 56 rfl;replace j56:Mn.p (Mn.rat N ((3:Int):Rat)) x56 wi:=j56;obtain⟨x57,s57,j57⟩:=hA 16 (by kernel_rfl) 57 rfl;replace j57:Mn.p (Mn.rat N ((3:Int):Rat)) x57 wi:=j57;clear hB hA;rw [if_pos (by simp [Region.wanted,yielded,s55])]
  ·go_simp;refine (r2_same j56 j57 HS3.out rfl).mono ?_;rintro e wj ⟨rfl,ej⟩;go_wp2_with fail;exact hK.out _ _ ej rfl
  obtain⟨x55,s55,j55⟩:=hA 14 (by kernel_rfl) 55 rfl;obtain rfl:x55=(.bool true):=j55;obtain⟨x58,s58,j58⟩:=hA 17 (by kernel_rfl) 58 rfl;obtain rfl:x58=(.bool true):=j58
  rotate_left
  obtain⟨x59,s59,j59⟩:=hA 18 (by kernel_rfl) 59 rfl;obtain rfl:x59=(.bool true):=j59
  rotate_left
  obtain⟨x60,s60,j60⟩:=hA 19 (by kernel_rfl) 60 rfl;obtain rfl:x60=(.bool true):=j60;have o6:=oOf (hB 6 (by kernel_rfl)) rfl;rw [if_pos (by simp [Region.wanted,yielded,s60])]
  rotate_left
  obtain⟨x60,s60,j60⟩:=hA 19 (by kernel_rfl) 60 rfl;obtain rfl:x60=(.bool true):=j60;obtain⟨x61,s61,j61⟩:=hA 20 (by kernel_rfl) 61 rfl;obtain rfl:x61=(.slice (some ⟨b,off,none⟩) 1 c6):=j61;rw [if_pos (by simp [Region.wanted,yielded,s60])]
  rotate_left
  obtain⟨x60,s60,j60⟩:=hA 19 (by kernel_rfl) 60 rfl;obtain rfl:x60=(.bool true):=j60;obtain⟨x62,s62,j62⟩:=hA 21 (by kernel_rfl) 62 rfl;obtain rfl:x62=(.int .i64 1):=j62;rw [if_pos (by simp [Region.wanted,yielded,s60])]
  rotate_left
  obtain⟨x60,s60,j60⟩:=hA 19 (by kernel_rfl) 60 rfl;obtain rfl:x60=(.bool true):=j60;obtain⟨x63,s63,j63⟩:=hA 22 (by kernel_rfl) 63 rfl;obtain rfl:x63=(.bool true):=j63
  rotate_left
  obtain⟨x64,s64,j64⟩:=hA 23 (by kernel_rfl) 64 rfl;obtain rfl:x64=(.bool true):=j64
  rotate_left
  obtain⟨x65,s65,j65⟩:=hA 24 (by kernel_rfl) 65 rfl;obtain rfl:x65=(.bool true):=j65;have o6:=oOf (hB 6 (by kernel_rfl)) rfl;rw [if_pos (by simp [Region.wanted,yielded,s65])]
  rotate_left
  obtain⟨x65,s65,j65⟩:=hA 24 (by kernel_rfl) 65 rfl;obtain rfl:x65=(.bool true):=j65;obtain⟨x66,s66,j66⟩:=hA 25 (by kernel_rfl) 66 rfl;obtain rfl:x66=(.slice (some ⟨b,off,none⟩) 1 c6):=j66;rw [if_pos (by simp [Region.wanted,yielded,s65])]
  rotate_left
  obtain⟨x65,s65,j65⟩:=hA 24 (by kernel_rfl) 65 rfl;obtain rfl:x65=(.bool true):=j65;obtain⟨x67,s67,j67⟩:=hA 26 (by kernel_rfl) 67 rfl;obtain rfl:x67=(.pointer (some ⟨b,off,none⟩)):=j67;rw [if_pos (by simp [Region.wanted,yielded,s65])];have cc0:=eI.cell p0;have cc1:=eI.cell p1;have cc2:=eI.cell p2;have cc3:=eI.cell p3;have cc4:=eI.cell o0
  rotate_left
  obtain⟨x65,s65,j65⟩:=hA 24 (by kernel_rfl) 65 rfl;obtain rfl:x65=(.bool true):=j65;have o7:=oOf (hB 7 (by kernel_rfl)) rfl;rw [if_pos (by simp [Region.wanted,yielded,s65])]
  rotate_left
  obtain⟨x65,s65,j65⟩:=hA 24 (by kernel_rfl) 65 rfl;obtain rfl:x65=(.bool true):=j65;obtain⟨x68,s68,j68⟩:=hA 27 (by kernel_rfl) 68 rfl;obtain rfl:x68=(.slice AR 1 cR):=j68;obtain⟨x69,s69,j69⟩:=hA 28 (by kernel_rfl) 69 rfl;obtain rfl:x69=(.slice A7 1 c7):=j69;clear hB hA;rw [if_pos (by simp [Region.wanted,yielded,s65])]
  ·go_simp;refine (r2_sameList (hR.ext eI) (h7.ext eI) (fun i hi=>(ex_rht i hi).sz (by omega)) ex_red).mono ?_;rintro e wj ⟨rfl,ej⟩;go_wp2_with fail;exact hK.out _ _ ej rfl
  obtain⟨x65,s65,j65⟩:=hA 24 (by kernel_rfl) 65 rfl;obtain rfl:x65=(.bool true):=j65;obtain⟨x70,s70,j70⟩:=hA 29 (by kernel_rfl) 70 rfl;obtain rfl:x70=(.bool true):=j70
  rotate_left
  obtain⟨x71,s71,j71⟩:=hA 30 (by kernel_rfl) 71 rfl;obtain rfl:x71=(.bool true):=j71
  rotate_left
  obtain⟨x72,s72,j72⟩:=hA 31 (by kernel_rfl) 72 rfl;obtain rfl:x72=(.bool true):=j72;have o9:=oOf (hB 9 (by kernel_rfl)) rfl;rw [if_pos (by simp [Region.wanted,yielded,s72])]
  rotate_left
  obtain⟨x72,s72,j72⟩:=hA 31 (by kernel_rfl) 72 rfl;obtain rfl:x72=(.bool true):=j72;clear hB hA;rw [if_pos (by simp [Region.wanted,yielded,s72])]
  ·go_simp;refine boxes1 ?_;intro wj ej hszj BJ;exact hK.out _ _ ej ⟨_,rfl,BJ⟩
  obtain⟨x72,s72,j72⟩:=hA 31 (by kernel_rfl) 72 rfl;obtain rfl:x72=(.bool true):=j72;obtain⟨x74,s74,j74⟩:=hA 33 (by kernel_rfl) 74 rfl;replace j74:Mn.p (Mn.sb 2 #[.int .i64 2,.int .i64 0] 3) x74 wi:=j74;clear hB hA;rw [if_pos (by simp [Region.wanted,yielded,s72])]
  ·obtain⟨gb,rfl,BB⟩:=j74;go_simp;refine (l34_row (N:=N) (k:=2) (f:=ex3f 2 0 0) (by have:=eI.size; omega) BB (fun i hi=>by rcases i with _ | _ | i; rfl; rfl; omega) (by omega) (fun i _=>by unfold ex3f; split <;> (try split) <;> omega)).mono ?_;rintro e wj ⟨Aj,cj,rfl,hj,ej⟩;go_wp2_with fail;exact hK.out _ _ ej (LsV.all hj)
  obtain⟨x72,s72,j72⟩:=hA 31 (by kernel_rfl) 72 rfl;obtain rfl:x72=(.bool true):=j72;obtain⟨x73,s73,j73⟩:=hA 32 (by kernel_rfl) 73 rfl;obtain rfl:x73=(.slice A9 2 c9):=j73;obtain⟨x75,s75,j75⟩:=hA 34 (by kernel_rfl) 75 rfl;replace j75:Mn.p (Mn.ls N 2 exD) x75 wi:=j75;clear hB hA;rw [if_pos (by simp [Region.wanted,yielded,s72])]
  ·obtain⟨Q9,l9,rfl,-⟩:=LsV.form j75;go_simp;refine (r2_sameList ((Mn.ls N 2 exD).mono eI J9) j75 (fun i hi=>(exD_ht i hi).sz (by omega)) (fun _ _=>rfl)).mono ?_;rintro e wj ⟨rfl,ej⟩;go_wp2_with fail;exact hK.out _ _ ej rfl
  obtain⟨x72,s72,j72⟩:=hA 31 (by kernel_rfl) 72 rfl;obtain rfl:x72=(.bool true):=j72;obtain⟨x76,s76,j76⟩:=hA 35 (by kernel_rfl) 76 rfl;obtain rfl:x76=(.bool true):=j76
  rotate_left
  obtain⟨x77,s77,j77⟩:=hA 36 (by kernel_rfl) 77 rfl;obtain rfl:x77=(.bool true):=j77
  rotate_left
  obtain⟨x78,s78,j78⟩:=hA 37 (by kernel_rfl) 78 rfl;obtain rfl:x78=(.bool true):=j78;have o10:=oOf (hB 10 (by kernel_rfl)) rfl;rw [if_pos (by simp [Region.wanted,yielded,s78])]
  rotate_left
  obtain⟨x78,s78,j78⟩:=hA 37 (by kernel_rfl) 78 rfl;obtain rfl:x78=(.bool true):=j78;clear hB hA;rw [if_pos (by simp [Region.wanted,yielded,s78])]
  ·go_simp;refine boxes1 ?_;intro wj ej hszj BJ;exact hK.out _ _ ej ⟨_,rfl,BJ⟩
  obtain⟨x78,s78,j78⟩:=hA 37 (by kernel_rfl) 78 rfl;obtain rfl:x78=(.bool true):=j78;obtain⟨x80,s80,j80⟩:=hA 39 (by kernel_rfl) 80 rfl;replace j80:Mn.p (Mn.sb 1 #[.int .i64 (-1)] 3) x80 wi:=j80;clear hB hA;rw [if_pos (by simp [Region.wanted,yielded,s78])]
  ·obtain⟨gb,rfl,BB⟩:=j80;go_simp;refine (l34_row (N:=N) (k:=1) (f:=ex3f (-1) 0 0) (by have:=eI.size; omega) BB (fun i hi=>by rcases i with _ | i; rfl; omega) (by omega) (fun i _=>by unfold ex3f; split <;> (try split) <;> omega)).mono ?_;rintro e wj ⟨Aj,cj,rfl,hj,ej⟩;go_wp2_with fail;exact hK.out _ _ ej (LsV.all hj)
  obtain⟨x78,s78,j78⟩:=hA 37 (by kernel_rfl) 78 rfl;obtain rfl:x78=(.bool true):=j78;obtain⟨x79,s79,j79⟩:=hA 38 (by kernel_rfl) 79 rfl;obtain rfl:x79=(.slice A10 1 c10):=j79;obtain⟨x81,s81,j81⟩:=hA 40 (by kernel_rfl) 81 rfl;replace j81:Mn.p (Mn.ls N 1 exK) x81 wi:=j81;clear hB hA;rw [if_pos (by simp [Region.wanted,yielded,s78])]
  ·obtain⟨Q9,l9,rfl,-⟩:=LsV.form j81;go_simp;refine (r2_sameList ((Mn.ls N 1 exK).mono eI J10) j81 (fun i hi=>(exK_ht i hi).sz (by omega)) (fun _ _=>rfl)).mono ?_;rintro e wj ⟨rfl,ej⟩;go_wp2_with fail;exact hK.out _ _ ej rfl
  obtain⟨x78,s78,j78⟩:=hA 37 (by kernel_rfl) 78 rfl;obtain rfl:x78=(.bool true):=j78;obtain⟨x82,s82,j82⟩:=hA 41 (by kernel_rfl) 82 rfl;obtain rfl:x82=(.bool true):=j82
  rotate_left
  obtain⟨x83,s83,j83⟩:=hA 42 (by kernel_rfl) 83 rfl;obtain rfl:x83=(.bool true):=j83
  rotate_left
  all_goals clear hB hA
  all_goals go_simp
  all_goals exact hK.out _ _ (Ext.refl _) rfl
 intro vals wz eZ hJ;have J0:vals 43=_:=hJ 43 (by decide) (by decide);clear hJ;simp only [pr,Nat.reduceAdd,J0];clear J0;refine stepL_done (by kernel_rfl) ?_ _;go_wp2;go_ret;exact⟨rfl,hE.trans eZ⟩
end Go.Proofs.YtccepmpebioeiaaGreat
