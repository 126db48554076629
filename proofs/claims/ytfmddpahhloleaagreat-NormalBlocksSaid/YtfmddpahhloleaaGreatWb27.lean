import Derived.Test.YtfmddpahhloleaaGreatWb23
import Derived.Test.YtfmddpahhloleaaGreatWb25
set_option linter.all false
set_option maxHeartbeats 8000000
namespace Go.Proofs.YtfmddpahhloleaaGreat
open Go.RowKit
def Mn.sb (k:Nat) (cs:Array Value) (t:TypeId):Mn:=⟨fun v w=>∃ g,v=.slice (some ⟨g,0,none⟩) k k/\w.heap[g]?=some (.cells cs t (0,0)),fun e h=>by
  obtain⟨g,h0,h1⟩:=h
  exact⟨g,h0,e.block h1⟩⟩
def Mn.two (N n:Nat) (x:Nat->Rat) (k:Nat) (y:Nat->Rat):Mn:=⟨fun v w=>∃ A c A' c',v=.tuple #[.slice A n c,.slice A' k c',.int .i64 0]/\LsV N 0 w.heap.size w (.slice A n c) n x/\LsV N 0 w.heap.size w (.slice A' k c') k y,fun e h=>by
  obtain⟨A,c,A',c',h0,h1,h2⟩:=h
  exact⟨A,c,A',c',h0,LsV.all (h1.ext e),LsV.all (h2.ext e)⟩⟩
def exX (i:Nat):Rat:=((yg 1 1 0 i:Int):Rat)
def exC (_ i:Nat):Rat:=((yg 1 (-1) 0 i:Int):Rat)
def exD (i:Nat):Rat:=((yg 2 0 0 i:Int):Rat)
def exK (i:Nat):Rat:=((yg (-1) 0 0 i:Int):Rat)
theorem q4r:(qH 2 (xE exA exP 3) 2).2.length=2:=by decide +kernel
theorem q5w:∀ i,i < 2->nsv 2 (xE exA exP 3) (yx exA exL exP 3) i=exX i:=by decide +kernel
theorem q5A:obj 3 exP (fun i=>av 2 exA exX i - exL i)=((3:Int):Rat):=by decide +kernel
theorem q2s:(qH 1 (vM 1 (fun a b=>xE exA exP 3 (1+a) (1+b))) 1).2.length=1:=by decide +kernel
theorem q5y:∀ j,j < 1->q4W 1 1 (xE exA exP 3) 0 j=schR 1 1 (xE exA exP 3) (yx exA exL exP 3) j:=by decide +kernel
theorem q2r:(qH (2+1) (q0T 2 (xE exA exP 3) exC) (2+1)).2.length=3:=by decide +kernel
theorem q5C:∀ i,i < 2->nsv (2+1) (q0T 2 (xE exA exP 3) exC) (cat 2 (yx exA exL exP 3) exD) i=exD i:=by decide +kernel
theorem q5B:∀ i,i < 1->nsv (2+1) (q0T 2 (xE exA exP 3) exC) (cat 2 (yx exA exL exP 3) exD) (2+i)=exK i:=by decide +kernel
theorem YK:∀ i,i < 3->0 < exP i:=by decide +kernel
theorem YN:HtM 3 2 3 exA:=by unfold HtM Ht; decide +kernel
theorem YM:HtL 3 3 exL:=by unfold HtL Ht; decide +kernel
theorem YL:HtL 3 3 exP:=by unfold HtL Ht; decide +kernel
theorem q3h:HtL 2 3 exX:=by unfold HtL Ht; decide +kernel
theorem q5E:HtM 1 2 50 exC:=by unfold HtM Ht; decide +kernel
theorem q3i:HtL 2 50 exD:=by unfold HtL Ht; decide +kernel
theorem q5D:HtL 1 3 exK:=by unfold HtL Ht; decide +kernel
theorem q5x:HtL 1 9 (q4W 1 1 (xE exA exP 3) 0):=by unfold HtL Ht; decide +kernel
set_option maxRecDepth 100000 in
theorem q5i (w:World):Calls Tryz.prog 9 #[] w (zL w (.bool true)):=by
 obtain⟨N,hN⟩:∃ N,N=w.heap.size:=⟨_,rfl⟩
 go_enter Tryz.func9,Tryz.ntmps9;go_wp2_with (go_at_call 44; refine q_o ?_);refine (JG (N:=N) (by omega)).mono ?_;rintro e w1 ⟨Q1,q1,Q2,q2,Q3,q3,rfl,m1,l2,l3,e1⟩;go_upto_region 2 with (fail);refine qo ?_;intro w2 e2 hsz2 B0;have hE:=e1.trans e2;have M1:=MtV.ext m1 e2;have L2:=LsV.ext l2 e2;have L3:=LsV.ext l3 e2;obtain⟨gl,hgl⟩:∃ gl,gl=w1.heap.size:=⟨_,rfl⟩
 rw [<-hgl] at B0 ⊢;clear e1 e2 m1 l2 l3 hsz2 hgl;obtain⟨r0,r1,r2,-⟩:=cells3 B0;go_wp2_with (go_at_call 13; refine q_o ?_);refine (q47 (P:=2) M1 L2 L3 (by omega) (by omega) (by omega) (by omega) YK YN YM YL (by omega) (by omega) (by decide)).mono ?_;rintro e w3 ⟨e3,hh⟩
 rcases hh with ⟨h0,-⟩ | ⟨-,A5,c5,rfl,h5⟩
 ·rw [q4r] at h0; exact absurd h0 (by omega)
 replace h5:=LsV.all (LsV.congr h5 q5w);replace M1:=M1.ext e3;replace L2:=L2.ext e3;replace L3:=L3.ext e3;replace hE:=hE.trans e3;replace B0:=e3.block B0;clear r0 r1 r2 e3;obtain⟨r0,r1,r2,-⟩:=cells3 B0;go_wp2_with (go_at_call 45; refine q_o ?_);refine (JC (kv:=2*(3+3+1)+1+3+1) M1 L2 L3 h5 (by omega) (by omega) (by omega) (by omega) YK YN YM YL q3h (by omega) rfl (by omega)).mono ?_;rintro e w4 ⟨v4,rfl,h4,e4⟩;rw [q5A] at h4;obtain⟨nb,Q5,m5,l5,Q6,m6,l6,rfl,hn1,y1,y2⟩:=qY.parts h4;replace M1:=M1.ext e4;replace L2:=L2.ext e4;replace L3:=L3.ext e4;replace h5:=h5.ext e4;replace hE:=hE.trans e4;replace B0:=e4.block B0;clear r0 r1 r2 e4 h4;go_upto_region 4 with (fail);refine qo ?_;intro w5 e5 hsz5 B5;replace M1:=M1.ext e5;replace L2:=L2.ext e5;replace L3:=L3.ext e5;replace h5:=h5.ext e5;replace y1:=y1.ext e5;replace y2:=y2.ext e5;replace hE:=hE.trans e5;replace B0:=e5.block B0;obtain⟨go,hgo⟩:∃ go,go=w4.heap.size:=⟨_,rfl⟩
 rw [<-hgo] at B5 ⊢;clear e5 hsz5 hgo;obtain⟨r0,r1,r2,-⟩:=cells3 B0;go_wp2_with (go_at_call 46; refine q_o ?_);refine (q05 (Q:=41) (H:=1000) (F:=10000) M1 L2 L3 (by omega) (by omega) (by omega) (by omega) YK YN YM YL (by omega) 1 1 rfl (by omega) (by omega) (by omega) (by decide) (by omega) (by omega)).mono ?_;rintro e w6 ⟨e6,hh⟩
 rcases hh with ⟨h0,-⟩ | ⟨-,A6,c6,A7,c7,rfl,h6,h7⟩
 ·rw [q2s] at h0; exact absurd h0 (by omega)
 replace M1:=M1.ext e6;replace L2:=L2.ext e6;replace L3:=L3.ext e6;replace h5:=h5.ext e6;replace y1:=y1.ext e6;replace y2:=y2.ext e6;replace hE:=hE.trans e6;replace B0:=e6.block B0;replace B5:=e6.block B5;clear r0 r1 r2 e6;obtain⟨r0,r1,r2,-⟩:=cells3 B0;go_upto_region 5 with (fail);refine Je [Mn.eq (.agg #[.slice Q1 3 q1,.slice Q2 3 q2,.slice Q3 3 q3]),Mn.sb 2 #[.int .i64 1,.int .i64 (-1)] 3,Mn.ls N 2 (fun i=>((yg 1 (-1) 0 i:Int):Rat)),Mn.mt N 1 2 exC,Mn.sb 1 #[.int .i64 2] 3,Mn.ls N 1 exD,Mn.two N 2 exD 1 exK,Mn.two N 2 exD 1 exK,Mn.ls N 2 exD,Mn.ls N 1 exK,Mn.i 0,Mn.ls N 2 exD,Mn.ls N 1 exK,Mn.i 0] (sM [31,32,33,34,35,36,37,30,38,39,40,9,10,11]) [] (rQ 14 0) 0 (by kernel_rfl) ?_ ?_
 ·show ∀ i,i < 14->_
  iterate 14 refine fs ?_ ?_
  ·exact fz
  all_goals intro hl; clear hl; refine stp rfl ?_; intro ac wi eI hB hA K hK
  have o1:=oOf (hB 1) rfl;have cc0:=eI.cell r0;have cc1:=eI.cell r1;have cc2:=eI.cell r2
  rotate_left
  clear hB hA
  ·go_simp;refine qo ?_;intro wj ej hszj BJ;exact hK.out _ _ ej ⟨_,rfl,BJ⟩
  obtain⟨x32,s32,j32⟩:=hA 1 32;replace j32:Mn.p (Mn.sb 2 #[.int .i64 1,.int .i64 (-1)] 3) x32 wi:=j32;clear hB hA
  ·obtain⟨gb,rfl,BB⟩:=j32;go_simp;refine (xH (N:=N) (k:=2) (f:=yg 1 (-1) 0) (by have:=hE.size; have:=eI.size; omega) BB (fun i hi=>by rcases i with _ | _ | i; rfl; rfl; omega) (by omega) (fun i _=>by unfold yg; split <;> (try split) <;> omega)).mono ?_;rintro e wj ⟨Aj,cj,rfl,hj,ej⟩;go_wp2_with fail;exact hK.out _ _ ej (LsV.all hj)
  obtain⟨x33,s33,j33⟩:=hA 2 33;replace j33:Mn.p (Mn.ls N 2 (fun i=>((yg 1 (-1) 0 i:Int):Rat))) x33 wi:=j33;clear hB hA
  ·obtain⟨Q9,l9,rfl,-⟩:=LsV.form j33;go_simp;refine qo ?_;intro wj ej hszj BJ;exact hK.out _ _ ej (q1R BJ ((Mn.ls N 2 _).mono ej j33))
  clear hB hA
  ·go_simp;refine qo ?_;intro wj ej hszj BJ;exact hK.out _ _ ej ⟨_,rfl,BJ⟩
  obtain⟨x35,s35,j35⟩:=hA 4 35;replace j35:Mn.p (Mn.sb 1 #[.int .i64 2] 3) x35 wi:=j35;clear hB hA
  ·obtain⟨gb,rfl,BB⟩:=j35;go_simp;refine (xH (N:=N) (k:=1) (f:=yg 2 0 0) (by have:=hE.size; have:=eI.size; omega) BB (fun i hi=>by rcases i with _ | i; rfl; omega) (by omega) (fun i _=>by unfold yg; split <;> (try split) <;> omega)).mono ?_;rintro e wj ⟨Aj,cj,rfl,hj,ej⟩;go_wp2_with fail;exact hK.out _ _ ej (LsV.all hj)
  obtain⟨x31,s31,j31⟩:=hA 0 31;obtain rfl:x31=(.agg #[.slice Q1 3 q1,.slice Q2 3 q2,.slice Q3 3 q3]):=j31;obtain⟨x34,s34,j34⟩:=hA 3 34;replace j34:Mn.p (Mn.mt N 1 2 exC) x34 wi:=j34;obtain⟨x36,s36,j36⟩:=hA 5 36;replace j36:Mn.p (Mn.ls N 1 exD) x36 wi:=j36;clear hB hA
  ·obtain⟨Q8,l8,rfl,-⟩:=MtV.form j34;obtain⟨Q9,l9,rfl,-⟩:=LsV.form j36;go_simp;refine (Kr (q:=3) (Q:=50) (P:=3) (M1.ext eI) (L2.ext eI) (L3.ext eI) j34 j36 (by omega) (by omega) (by omega) (by omega) (by omega) (by omega) YK YN YM YL q5E (fun i hi=>q3i i (by omega)) (by omega) (by omega) (by decide)).mono ?_;rintro e wj ⟨ej,hh⟩
   rcases hh with ⟨h0,-⟩ | ⟨-,Ax,cx,Ay,cy,rfl,hx,hy⟩
   ·rw [q2r] at h0; exact absurd h0 (by omega)
   go_wp2_with fail;exact hK.out _ _ ej ⟨_,_,_,_,rfl,LsV.all (LsV.congr hx q5C),LsV.all (LsV.congr hy q5B)⟩
  obtain⟨x37,s37,j37⟩:=hA 6 37;replace j37:Mn.p (Mn.two N 2 exD 1 exK) x37 wi:=j37;clear hB hA
  ·go_simp;exact q_k hK j37
  obtain⟨x30,s30,j30⟩:=hA 7 30;replace j30:Mn.p (Mn.two N 2 exD 1 exK) x30 wi:=j30;clear hB hA
  ·obtain⟨Ax,cx,Ay,cy,rfl,hx,hy⟩:=j30;go_simp;exact q_k hK hx
  obtain⟨x30,s30,j30⟩:=hA 7 30;replace j30:Mn.p (Mn.two N 2 exD 1 exK) x30 wi:=j30;clear hB hA
  ·obtain⟨Ax,cx,Ay,cy,rfl,hx,hy⟩:=j30;go_simp;exact q_k hK hy
  obtain⟨x30,s30,j30⟩:=hA 7 30;replace j30:Mn.p (Mn.two N 2 exD 1 exK) x30 wi:=j30;clear hB hA
  ·obtain⟨Ax,cx,Ay,cy,rfl,hx,hy⟩:=j30;go_simp;exact q_k hK rfl
  obtain⟨x38,s38,j38⟩:=hA 8 38;replace j38:Mn.p (Mn.ls N 2 exD) x38 wi:=j38;clear hB hA
  ·go_simp;exact q_k hK j38
  obtain⟨x39,s39,j39⟩:=hA 9 39;replace j39:Mn.p (Mn.ls N 1 exK) x39 wi:=j39;clear hB hA
  ·go_simp;exact q_k hK j39
  obtain⟨x40,s40,j40⟩:=hA 10 40;obtain rfl:x40=(.int .i64 0):=j40
  rotate_left
  all_goals clear hB hA; go_simp; exact q_k hK rfl
 intro vals wz eZ hJ;have J32:Mn.p (Mn.sb 2 #[.int .i64 1,.int .i64 (-1)] 3) (vals 1) wz:=hJ 1 (by decide) (by decide);have J33:Mn.p (Mn.ls N 2 (fun i=>((yg 1 (-1) 0 i:Int):Rat))) (vals 2) wz:=hJ 2 (by decide) (by decide);have J34:Mn.p (Mn.mt N 1 2 exC) (vals 3) wz:=hJ 3 (by decide) (by decide);have J35:Mn.p (Mn.sb 1 #[.int .i64 2] 3) (vals 4) wz:=hJ 4 (by decide) (by decide);have J36:Mn.p (Mn.ls N 1 exD) (vals 5) wz:=hJ 5 (by decide) (by decide);have J37:Mn.p (Mn.two N 2 exD 1 exK) (vals 6) wz:=hJ 6 (by decide) (by decide);have J30:Mn.p (Mn.two N 2 exD 1 exK) (vals 7) wz:=hJ 7 (by decide) (by decide);have J38:Mn.p (Mn.ls N 2 exD) (vals 8) wz:=hJ 8 (by decide) (by decide);have J39:Mn.p (Mn.ls N 1 exK) (vals 9) wz:=hJ 9 (by decide) (by decide);have J9:Mn.p (Mn.ls N 2 exD) (vals 11) wz:=hJ 11 (by decide) (by decide);have J10:Mn.p (Mn.ls N 1 exK) (vals 12) wz:=hJ 12 (by decide) (by decide);have J11:vals 13=_:=hJ 13 (by decide) (by decide);clear hJ;simp only [pr,Nat.reduceAdd,J11];clear J11
 generalize vals 1=z32 at J32 ⊢
 generalize vals 2=z33 at J33 ⊢
 generalize vals 3=z34 at J34 ⊢
 generalize vals 4=z35 at J35 ⊢
 generalize vals 5=z36 at J36 ⊢
 generalize vals 6=z37 at J37 ⊢
 generalize vals 7=z30 at J30 ⊢
 generalize vals 8=z38 at J38 ⊢
 generalize vals 9=z39 at J39 ⊢
 generalize vals 11=z9 at J9 ⊢
 generalize vals 12=z10 at J10 ⊢
 clear J30 J32 J33 J34 J35 J36 J37 J38 J39;obtain⟨A9,c9,rfl,-⟩:=LsV.form J9;obtain⟨A10,c10,rfl,-⟩:=LsV.form J10;refine qh (by kernel_rfl) ?_ _;replace h5:=h5.ext eZ;replace h6:=MtV.all (h6.ext eZ);replace h7:=LsV.all (h7.ext eZ);replace y1:=y1.ext eZ;replace y2:=y2.ext eZ;replace B5:=eZ.block B5;replace hE:=hE.trans eZ;clear r0 r1 r2 M1 L2 L3 B0 eZ;obtain⟨p0,p1,p2,p3,-⟩:=cells4 B5;obtain⟨b,off,rfl,-,-,hx⟩:=MtV.addr h6 (by omega);obtain⟨AR,cR,o0,hRc,hcR,hR⟩:=hx 0 (by omega);rw [Nat.add_zero] at o0;unfold maxLen at hcR;have hNz:N<=wz.heap.size:=by have:=hE.size; omega
 clear hx h6;have HS3:Hid (Sz ((3:Int):Rat)):=(q5m 3 4 (by decide) (by omega)).sz (by omega);obtain⟨wx,hwx⟩:∃ wx,wx=wz:=⟨_,rfl⟩
 subst hwx;go_upto_region 6 with (fail);refine Je [Mn.i 0,Mn.i 0,Mn.i 0,Mn.i 0,Mn.i 0,Mn.i 0,Mn.i 0,Mn.t true,Mn.t true,Mn.eq (.slice A5 2 c5),Mn.sb 2 #[.int .i64 1,.int .i64 1] 3,Mn.ls N 2 exX,Mn.t true,Mn.t true,Mn.t true,Mn.rat N ((3:Int):Rat),Mn.rat N ((3:Int):Rat),Mn.t true,Mn.t true,Mn.t true,Mn.eq (.slice (some ⟨b,off,none⟩) 1 c6),Mn.i 1,Mn.t true,Mn.t true,Mn.t true,Mn.eq (.slice (some ⟨b,off,none⟩) 1 c6),Mn.q b off,Mn.eq (.slice AR 1 cR),Mn.eq (.slice A7 1 c7),Mn.t true,Mn.t true,Mn.t true,Mn.eq (.slice A9 2 c9),Mn.sb 2 #[.int .i64 2,.int .i64 0] 3,Mn.ls N 2 exD,Mn.t true,Mn.t true,Mn.t true,Mn.eq (.slice A10 1 c10),Mn.sb 1 #[.int .i64 (-1)] 3,Mn.ls N 1 exK,Mn.t true,Mn.t true,Mn.t true] (sM [41,42,43,44,45,46,47,48,49,50,51,52,53,54,55,56,57,58,59,60,61,62,63,64,65,66,67,68,69,70,71,72,73,74,75,76,77,78,79,80,81,82,83,0]) [] (rQ 44 0) 0 (by kernel_rfl) ?_ ?_
 ·show ∀ i,i < 44->_
  iterate 44 refine fs ?_ ?_
  ·exact fz
  all_goals intro hl; clear hl; refine stp rfl ?_; intro ac wi eI hB hA K hK
  have o3:=oOf (hB 3) rfl
  rotate_left
  have o5:=oOf (hB 5) rfl
  rotate_left
  obtain⟨x41,s41,j41⟩:=hA 0 41;obtain rfl:x41=(.int .i64 0):=j41;obtain⟨x42,s42,j42⟩:=hA 1 42;obtain rfl:x42=(.int .i64 0):=j42
  rotate_left
  have o8:=oOf (hB 8) rfl
  rotate_left
  obtain⟨x43,s43,j43⟩:=hA 2 43;obtain rfl:x43=(.int .i64 0):=j43;obtain⟨x44,s44,j44⟩:=hA 3 44;obtain rfl:x44=(.int .i64 0):=j44
  rotate_left
  have o11:=oOf (hB 11) rfl
  rotate_left
  obtain⟨x45,s45,j45⟩:=hA 4 45;obtain rfl:x45=(.int .i64 0):=j45;obtain⟨x46,s46,j46⟩:=hA 5 46;obtain rfl:x46=(.int .i64 0):=j46
  rotate_left
  obtain⟨x47,s47,j47⟩:=hA 6 47;obtain rfl:x47=(.int .i64 0):=j47
  rotate_left
  obtain⟨x48,s48,j48⟩:=hA 7 48;obtain rfl:x48=(.bool true):=j48
  rotate_left
  obtain⟨x49,s49,j49⟩:=hA 8 49;obtain rfl:x49=(.bool true):=j49;have o2:=oOf (hB 2) rfl;rw [if_pos (by simp [Region.wanted,yielded,s49])]
  rotate_left
  obtain⟨x49,s49,j49⟩:=hA 8 49;obtain rfl:x49=(.bool true):=j49;clear hB hA;rw [if_pos (by simp [Region.wanted,yielded,s49])]
  ·go_simp;refine qo ?_;intro wj ej hszj BJ;exact hK.out _ _ ej ⟨_,rfl,BJ⟩
  obtain⟨x49,s49,j49⟩:=hA 8 49;obtain rfl:x49=(.bool true):=j49;obtain⟨x51,s51,j51⟩:=hA 10 51;replace j51:Mn.p (Mn.sb 2 #[.int .i64 1,.int .i64 1] 3) x51 wi:=j51;clear hB hA;rw [if_pos (by simp [Region.wanted,yielded,s49])]
  ·obtain⟨gb,rfl,BB⟩:=j51;go_simp;refine (xH (N:=N) (k:=2) (f:=yg 1 1 0) (by have:=eI.size; omega) BB (fun i hi=>by rcases i with _ | _ | i; rfl; rfl; omega) (by omega) (fun i _=>by unfold yg; split <;> (try split) <;> omega)).mono ?_;rintro e wj ⟨Aj,cj,rfl,hj,ej⟩;go_wp2_with fail;exact hK.out _ _ ej (LsV.all hj)
  obtain⟨x49,s49,j49⟩:=hA 8 49;obtain rfl:x49=(.bool true):=j49;obtain⟨x50,s50,j50⟩:=hA 9 50;obtain rfl:x50=(.slice A5 2 c5):=j50;obtain⟨x52,s52,j52⟩:=hA 11 52;replace j52:Mn.p (Mn.ls N 2 exX) x52 wi:=j52;clear hB hA;rw [if_pos (by simp [Region.wanted,yielded,s49])]
  ·obtain⟨Q9,l9,rfl,-⟩:=LsV.form j52;go_simp;refine (jb (h5.ext eI) j52 (fun i hi=>(q3h i hi).sz (by omega)) (fun _ _=>rfl)).mono ?_;rintro e wj ⟨rfl,ej⟩;go_wp2_with fail;exact hK.out _ _ ej rfl
  obtain⟨x49,s49,j49⟩:=hA 8 49;obtain rfl:x49=(.bool true):=j49;obtain⟨x53,s53,j53⟩:=hA 12 53;obtain rfl:x53=(.bool true):=j53
  rotate_left
  obtain⟨x54,s54,j54⟩:=hA 13 54;obtain rfl:x54=(.bool true):=j54
  rotate_left
  obtain⟨x55,s55,j55⟩:=hA 14 55;obtain rfl:x55=(.bool true):=j55;have o4:=oOf (hB 4) rfl;clear hB hA;rw [if_pos (by simp [Region.wanted,yielded,s55])];have cc0:=eI.cell p0;have cc1:=eI.cell p1;have cc2:=eI.cell p2;have cc3:=eI.cell p3;have cc4:=eI.cell o0
  ·go_simp;exact q_k hK ((qY.mk hn1 y1 y2).ext eI)
  obtain⟨x55,s55,j55⟩:=hA 14 55;obtain rfl:x55=(.bool true):=j55;clear hB hA;rw [if_pos (by simp [Region.wanted,yielded,s55])]
  ·go_simp;refine (Yg (N:=N) (by have:=eI.size; omega) 3 (by omega) (by omega)).mono ?_;rintro e wj ⟨vj,rfl,hj,ej⟩;go_wp2_with fail;exact hK.out _ _ ej hj
  obtain⟨x55,s55,j55⟩:=hA 14 55;obtain rfl:x55=(.bool true):=j55;obtain⟨x56,s56,j56⟩:=hA 15 56;replace j56:Mn.p (Mn.rat N ((3:Int):Rat)) x56 wi:=j56;obtain⟨x57,s57,j57⟩:=hA 16 57;replace j57:Mn.p (Mn.rat N ((3:Int):Rat)) x57 wi:=j57;clear hB hA;rw [if_pos (by simp [Region.wanted,yielded,s55])]
  ·go_simp;refine (WN j56 j57 HS3.out rfl).mono ?_;rintro e wj ⟨rfl,ej⟩;go_wp2_with fail;exact hK.out _ _ ej rfl
  obtain⟨x55,s55,j55⟩:=hA 14 55;obtain rfl:x55=(.bool true):=j55;obtain⟨x58,s58,j58⟩:=hA 17 58;obtain rfl:x58=(.bool true):=j58
  rotate_left
  obtain⟨x59,s59,j59⟩:=hA 18 59;obtain rfl:x59=(.bool true):=j59
  rotate_left
  obtain⟨x60,s60,j60⟩:=hA 19 60;obtain rfl:x60=(.bool true):=j60;have o6:=oOf (hB 6) rfl;rw [if_pos (by simp [Region.wanted,yielded,s60])]
  rotate_left
  obtain⟨x60,s60,j60⟩:=hA 19 60;obtain rfl:x60=(.bool true):=j60;obtain⟨x61,s61,j61⟩:=hA 20 61;obtain rfl:x61=(.slice (some ⟨b,off,none⟩) 1 c6):=j61;rw [if_pos (by simp [Region.wanted,yielded,s60])]
  rotate_left
  obtain⟨x60,s60,j60⟩:=hA 19 60;obtain rfl:x60=(.bool true):=j60;obtain⟨x62,s62,j62⟩:=hA 21 62;obtain rfl:x62=(.int .i64 1):=j62;rw [if_pos (by simp [Region.wanted,yielded,s60])]
  rotate_left
  obtain⟨x60,s60,j60⟩:=hA 19 60;obtain rfl:x60=(.bool true):=j60;obtain⟨x63,s63,j63⟩:=hA 22 63;obtain rfl:x63=(.bool true):=j63
  rotate_left
  obtain⟨x64,s64,j64⟩:=hA 23 64;obtain rfl:x64=(.bool true):=j64
  rotate_left
  obtain⟨x65,s65,j65⟩:=hA 24 65;obtain rfl:x65=(.bool true):=j65;have o6:=oOf (hB 6) rfl;rw [if_pos (by simp [Region.wanted,yielded,s65])]
  rotate_left
  obtain⟨x65,s65,j65⟩:=hA 24 65;obtain rfl:x65=(.bool true):=j65;obtain⟨x66,s66,j66⟩:=hA 25 66;obtain rfl:x66=(.slice (some ⟨b,off,none⟩) 1 c6):=j66;rw [if_pos (by simp [Region.wanted,yielded,s65])]
  rotate_left
  obtain⟨x65,s65,j65⟩:=hA 24 65;obtain rfl:x65=(.bool true):=j65;obtain⟨x67,s67,j67⟩:=hA 26 67;obtain rfl:x67=(.pointer (some ⟨b,off,none⟩)):=j67;rw [if_pos (by simp [Region.wanted,yielded,s65])];have cc0:=eI.cell p0;have cc1:=eI.cell p1;have cc2:=eI.cell p2;have cc3:=eI.cell p3;have cc4:=eI.cell o0
  rotate_left
  obtain⟨x65,s65,j65⟩:=hA 24 65;obtain rfl:x65=(.bool true):=j65;have o7:=oOf (hB 7) rfl;rw [if_pos (by simp [Region.wanted,yielded,s65])]
  rotate_left
  obtain⟨x65,s65,j65⟩:=hA 24 65;obtain rfl:x65=(.bool true):=j65;obtain⟨x68,s68,j68⟩:=hA 27 68;obtain rfl:x68=(.slice AR 1 cR):=j68;obtain⟨x69,s69,j69⟩:=hA 28 69;obtain rfl:x69=(.slice A7 1 c7):=j69;clear hB hA;rw [if_pos (by simp [Region.wanted,yielded,s65])]
  ·go_simp;refine (jb (hR.ext eI) (h7.ext eI) (fun i hi=>(q5x i hi).sz (by omega)) q5y).mono ?_;rintro e wj ⟨rfl,ej⟩;go_wp2_with fail;exact hK.out _ _ ej rfl
  obtain⟨x65,s65,j65⟩:=hA 24 65;obtain rfl:x65=(.bool true):=j65;obtain⟨x70,s70,j70⟩:=hA 29 70;obtain rfl:x70=(.bool true):=j70
  rotate_left
  obtain⟨x71,s71,j71⟩:=hA 30 71;obtain rfl:x71=(.bool true):=j71
  rotate_left
  obtain⟨x72,s72,j72⟩:=hA 31 72;obtain rfl:x72=(.bool true):=j72;have o9:=oOf (hB 9) rfl;rw [if_pos (by simp [Region.wanted,yielded,s72])]
  rotate_left
  obtain⟨x72,s72,j72⟩:=hA 31 72;obtain rfl:x72=(.bool true):=j72;clear hB hA;rw [if_pos (by simp [Region.wanted,yielded,s72])]
  ·go_simp;refine qo ?_;intro wj ej hszj BJ;exact hK.out _ _ ej ⟨_,rfl,BJ⟩
  obtain⟨x72,s72,j72⟩:=hA 31 72;obtain rfl:x72=(.bool true):=j72;obtain⟨x74,s74,j74⟩:=hA 33 74;replace j74:Mn.p (Mn.sb 2 #[.int .i64 2,.int .i64 0] 3) x74 wi:=j74;clear hB hA;rw [if_pos (by simp [Region.wanted,yielded,s72])]
  ·obtain⟨gb,rfl,BB⟩:=j74;go_simp;refine (xH (N:=N) (k:=2) (f:=yg 2 0 0) (by have:=eI.size; omega) BB (fun i hi=>by rcases i with _ | _ | i; rfl; rfl; omega) (by omega) (fun i _=>by unfold yg; split <;> (try split) <;> omega)).mono ?_;rintro e wj ⟨Aj,cj,rfl,hj,ej⟩;go_wp2_with fail;exact hK.out _ _ ej (LsV.all hj)
  obtain⟨x72,s72,j72⟩:=hA 31 72;obtain rfl:x72=(.bool true):=j72;obtain⟨x73,s73,j73⟩:=hA 32 73;obtain rfl:x73=(.slice A9 2 c9):=j73;obtain⟨x75,s75,j75⟩:=hA 34 75;replace j75:Mn.p (Mn.ls N 2 exD) x75 wi:=j75;clear hB hA;rw [if_pos (by simp [Region.wanted,yielded,s72])]
  ·obtain⟨Q9,l9,rfl,-⟩:=LsV.form j75;go_simp;refine (jb ((Mn.ls N 2 exD).mono eI J9) j75 (fun i hi=>(q3i i hi).sz (by omega)) (fun _ _=>rfl)).mono ?_;rintro e wj ⟨rfl,ej⟩;go_wp2_with fail;exact hK.out _ _ ej rfl
  obtain⟨x72,s72,j72⟩:=hA 31 72;obtain rfl:x72=(.bool true):=j72;obtain⟨x76,s76,j76⟩:=hA 35 76;obtain rfl:x76=(.bool true):=j76
  rotate_left
  obtain⟨x77,s77,j77⟩:=hA 36 77;obtain rfl:x77=(.bool true):=j77
  rotate_left
  obtain⟨x78,s78,j78⟩:=hA 37 78;obtain rfl:x78=(.bool true):=j78;have o10:=oOf (hB 10) rfl;rw [if_pos (by simp [Region.wanted,yielded,s78])]
  rotate_left
  obtain⟨x78,s78,j78⟩:=hA 37 78;obtain rfl:x78=(.bool true):=j78;clear hB hA;rw [if_pos (by simp [Region.wanted,yielded,s78])]
  ·go_simp;refine qo ?_;intro wj ej hszj BJ;exact hK.out _ _ ej ⟨_,rfl,BJ⟩
  obtain⟨x78,s78,j78⟩:=hA 37 78;obtain rfl:x78=(.bool true):=j78;obtain⟨x80,s80,j80⟩:=hA 39 80;replace j80:Mn.p (Mn.sb 1 #[.int .i64 (-1)] 3) x80 wi:=j80;clear hB hA;rw [if_pos (by simp [Region.wanted,yielded,s78])]
  ·obtain⟨gb,rfl,BB⟩:=j80;go_simp;refine (xH (N:=N) (k:=1) (f:=yg (-1) 0 0) (by have:=eI.size; omega) BB (fun i hi=>by rcases i with _ | i; rfl; omega) (by omega) (fun i _=>by unfold yg; split <;> (try split) <;> omega)).mono ?_;rintro e wj ⟨Aj,cj,rfl,hj,ej⟩;go_wp2_with fail;exact hK.out _ _ ej (LsV.all hj)
  obtain⟨x78,s78,j78⟩:=hA 37 78;obtain rfl:x78=(.bool true):=j78;obtain⟨x79,s79,j79⟩:=hA 38 79;obtain rfl:x79=(.slice A10 1 c10):=j79;obtain⟨x81,s81,j81⟩:=hA 40 81;replace j81:Mn.p (Mn.ls N 1 exK) x81 wi:=j81;clear hB hA;rw [if_pos (by simp [Region.wanted,yielded,s78])]
  ·obtain⟨Q9,l9,rfl,-⟩:=LsV.form j81;go_simp;refine (jb ((Mn.ls N 1 exK).mono eI J10) j81 (fun i hi=>(q5D i hi).sz (by omega)) (fun _ _=>rfl)).mono ?_;rintro e wj ⟨rfl,ej⟩;go_wp2_with fail;exact hK.out _ _ ej rfl
  obtain⟨x78,s78,j78⟩:=hA 37 78;obtain rfl:x78=(.bool true):=j78;obtain⟨x82,s82,j82⟩:=hA 41 82;obtain rfl:x82=(.bool true):=j82
  rotate_left
  obtain⟨x83,s83,j83⟩:=hA 42 83;obtain rfl:x83=(.bool true):=j83
  rotate_left
  all_goals clear hB hA; go_simp; exact q_k hK rfl
 intro vals wz eZ hJ;have J0:vals 43=_:=hJ 43 (by decide) (by decide);clear hJ;simp only [pr,Nat.reduceAdd,J0];clear J0;refine qh (by kernel_rfl) ?_ _;go_wp2;go_ret;exact⟨rfl,hE.trans eZ⟩
end Go.Proofs.YtfmddpahhloleaaGreat
