import Derived.Test.YtphpkhoeplcedaaGreatWb18
set_option linter.all false
set_option maxHeartbeats 8000000
set_option maxRecDepth 100000
namespace Go.Proofs.YtphpkhoeplcedaaGreat
open Go.RowKit
variable {w w':World} {N n lo hi k g i m base c b K:Nat} {v:Value} {G:Grd} {q x:Rat} {z:Int} {A:Option Addr}
theorem Qq {cs:Array Value} {t:TypeId} (h:w.heap[g]?=some (.cells cs t (0,0))) (hv:cs[i]?=some v):w.setCell ⟨g,i,none⟩ v=w:=by
 obtain⟨hg,hge⟩:=Array.getElem?_eq_some_iff.1 h;obtain⟨hi,hie⟩:=Array.getElem?_eq_some_iff.1 hv;unfold World.setCell;have:∀ H:Array Obj,H=w.heap->({ w with heap:=H }:World)=w:=fun H e=>by rw [e]
 refine this _ ?_
 apply Array.ext_getElem?
 intro k;rw [Array.getElem?_modify]
 split
 ·rename_i hk
  subst hk;rw [h]
  show some (Obj.cells (cs.setIfInBounds i v) t (0,0))=_
  congr 2
  apply Array.ext_getElem?
  intro j;rw [Array.getElem?_setIfInBounds]
  by_cases hj:i=j
  ·subst hj; rw [if_pos rfl,if_pos hi,hv]
  ·rw [if_neg hj]
 ·rfl
theorem q4K {t:TypeId} {x0 x1 x2 x3:Value} (h:w.heap[g]?=some (.cells #[x0,x1,x2,x3] t (0,0))):(((w.setCell ⟨g,0,none⟩ x0).setCell ⟨g,1,none⟩ x1).setCell ⟨g,2,none⟩ x2).setCell ⟨g,3,none⟩ x3=w:=by
 rw [Qq h rfl,Qq h rfl,Qq h rfl,Qq h rfl]
def q19 (N:Nat) (w:World) (p q:Rat) (e:Ending) (w':World):Prop:=∃ a b,e=.returned (.tuple #[a,b])/\qm N w' a p/\qm N w' b q/\Ext w w'
structure TOk (G:Grd) (i j z0 z1 z2:Int):Prop where
 i0:0<=i
 i1:i<=64
 j0:0<=j
 j1:j<=64
 a0 : -1048576<=z0
 a1:z0<=1048576
 b0 : -1048576<=z1
 b1:z1<=1048576
 c0 : -1048576<=z2
 c1:z2<=1048576
def Ju (i j:Int) (l:Bool) (z0 z1 z2:Int):Value:=.agg #[.int .i64 i,.int .i64 j,.bool l,.int .i64 z0,.int .i64 z1,.int .i64 z2]
theorem q34 {x0 st i:Int} (h:((st:Int):Rat)≠0):(x - ((x0+i*st:Int):Rat)) / (st:Rat)=kJ x x0 st - (i:Rat):=by
 unfold kJ;rw [Rat.intCast_add,Rat.intCast_mul,Rat.div_def,Rat.div_def];have h1:(st:Rat)*(st:Rat)⁻¹=1:=Rat.mul_inv_cancel _ h
 grind
theorem q1r (hG:GOk G) (hx:Ht K x):Ht (K+39) (sx G x):=((hx.sub (qp (m:=21) (by have:=hG.x0; have:=hG.x1; omega) (by omega))).div (qp (m:=17) (by have:=hG.s0; have:=hG.s1; omega) (by omega))).mono (by omega)
theorem q1q (hG:GOk G) {y:Rat} (hy:Ht K y):Ht (K+39) (sy G y):=((hy.sub (qp (m:=21) (by have:=hG.y0; have:=hG.y1; omega) (by omega))).div (qp (m:=17) (by have:=hG.s0; have:=hG.s1; omega) (by omega))).mono (by omega)
theorem XI {vg vx vy:Value} {i j z0 z1 z2:Int} {l:Bool} {y:Rat} (h:yg N lo hi w vg G) (hG:GOk G) (ht:TOk G i j z0 z1 z2) (hx:qm N w vx x) (hy:qm N w vy y) (hkx:Ht K x) (hky:Ht K y) (hK:K<=1000000) :
  Calls Tryz.prog 105 #[vg,Ju i j l z0 z1 z2,vx,vy] w (q19 N w (sx G x - (i:Rat)) (sy G y - (j:Rat))):=by
 have hN:=hx.le;obtain⟨A,c,rfl,-,-,-⟩:=h.parts;obtain⟨m1,X1,i1,d1,X2,i2,d2,rfl,hm1,gx1,gx2⟩:=hx.parts;obtain⟨m2,Y1,i3,d3,Y2,i4,d4,rfl,hm2,gy1,gy2⟩:=hy.parts;have HX:=q_h hx;have HY:=q_h hy;obtain⟨p,hp⟩:=qf (sx G x - (i:Rat));obtain⟨q,hq⟩:=qf (sy G y - (j:Rat));rw [<-hp.out,<-hq.out];have s0:=hG.s0;have s1:=hG.s1;have x0:=hG.x0;have x1:=hG.x1;have y0:=hG.y0;have y1:=hG.y1;have t0:=ht.i0;have t1:=ht.i1;have t2:=ht.j0;have t3:=ht.j1;obtain⟨pi,hpi⟩:=qf (i*G.st);obtain⟨pj,hpj⟩:=qf (j*G.st);have b0:0<=pi:=by rw [hpi.out]; exact Int.mul_nonneg t0 (by omega)
 have b1:pi<=4194304:=by rw [hpi.out]; exact Int.le_trans (Int.mul_le_mul t1 s1 (by omega) (by omega)) (by decide)
 have b2:0<=pj:=by rw [hpj.out]; exact Int.mul_nonneg t2 (by omega)
 have b3:pj<=4194304:=by rw [hpj.out]; exact Int.le_trans (Int.mul_le_mul t3 s1 (by omega) (by omega)) (by decide)
 have hw1:IntKind.i64.wrap (i*G.st)=pi:=by rw [hpi.out]; exact IntWalk.i64_in _ (by rw [<-hpi.out]; omega)
 have hw2:IntKind.i64.wrap (j*G.st)=pj:=by rw [hpj.out]; exact IntWalk.i64_in _ (by rw [<-hpj.out]; omega)
 have hw3:IntKind.i64.wrap (G.x0+pi)=G.x0+pi:=IntWalk.i64_in _ (by omega);have hw4:IntKind.i64.wrap (G.y0+pj)=G.y0+pj:=IntWalk.i64_in _ (by omega);have HST:Hid (((G.st:Int):Rat)≠0):=by rw [Hid,Ne,Rat.intCast_eq_zero_iff]; omega
 have HSS:Hid (Sz ((G.st:Int):Rat)):=zT (by omega);have HP:Hid ((x - ((G.x0+pi:Int):Rat)) / ((G.st:Int):Rat)=p):=by rw [Hid,hp.out,hpi.out]; exact q34 HST.out
 have HQ:Hid ((y - ((G.y0+pj:Int):Rat)) / ((G.st:Int):Rat)=q):=by rw [Hid,hq.out,hpj.out]; exact q34 HST.out
 have HZX:Hid (Sz x/\Sz (x - ((G.x0+pi:Int):Rat))):=⟨hkx.sz (by omega),(hkx.sub (qp (m:=24) (by omega) (by omega))).sz (by omega)⟩
 have HZY:Hid (Sz y/\Sz (y - ((G.y0+pj:Int):Rat))):=⟨hky.sz (by omega),(hky.sub (qp (m:=24) (by omega) (by omega))).sz (by omega)⟩
 clear h hG ht hx hy hkx hky gx1 gx2 gy1 gy2 hpi hpj;unfold Ju;go_enter Tryz.func105,Tryz.ntmps105;go_upto_region 1 with (fail);refine q5v ?_;intro W hE hsz B0 B1 B2 B3 B4 B5;obtain⟨a0,a1,a2,-,-,-⟩:=qG B0;obtain⟨c0,c1,-,-,-,-⟩:=qG B1;obtain⟨p0,p1,p2,p3,-⟩:=cells4 B2;obtain⟨r0,r1,r2,r3,r4,r5,r6,r7⟩:=cells4 B4;have hRx:=HX.out.ext hE;refine q1J [Mn.rat N (x),Mn.q w.heap.size 0,Mn.i G.x0,Mn.q (w.heap.size+1) 0,Mn.i i,Mn.q w.heap.size 2,Mn.i G.st,Mn.i pi,Mn.i (G.x0+pi),Mn.rat N ((G.x0+pi:Int):Rat),Mn.rat N (x - ((G.x0+pi:Int):Rat)),Mn.q w.heap.size 2,Mn.i G.st,Mn.rat N ((G.st:Int):Rat),Mn.rc N p,Mn.rc N p,Mn.rat N p,Mn.i 0,Mn.any] [some 11,some 12,some 13,some 14,some 15,some 16,some 17,some 18,some 19,some 20,some 21,some 22,some 23,some 24,some 25,some 10,some 26,some 27,none] [18] [17] (rQ 18 1) 1 (by kernel_rfl) ?_ ?_ ?_
 ·show ∀ i,i < 19->_
  iterate 19 refine fs ?_ ?_
  ·exact fz
  all_goals intro hl hs; first | exact absurd hl (by decide) | exact absurd hs (by decide) | (clear hl hs; refine stp rfl ?_; intro ac wi eI hB hA K hK)
  have o6:=oOf (hB 6) rfl;clear hB hA;have cc0:=eI.cell p0;have cc1:=eI.cell p1;have cc2:=eI.cell p2;have cc3:=eI.cell p3
  ·go_simp;exact q_k hK (hRx.ext eI)
  have o4:=oOf (hB 4) rfl
  rotate_left
  obtain⟨_,s12,rfl⟩:=hA 1 12;have cc0:=eI.cell a0
  rotate_left
  have o5:=oOf (hB 5) rfl
  rotate_left
  obtain⟨_,s14,rfl⟩:=hA 3 14;have cc0:=eI.cell c0
  rotate_left
  have o4:=oOf (hB 4) rfl
  rotate_left
  obtain⟨_,s16,rfl⟩:=hA 5 16;have cc0:=eI.cell a2
  rotate_left
  obtain⟨_,s15,rfl⟩:=hA 4 15;obtain⟨_,s17,rfl⟩:=hA 6 17
  rotate_left
  obtain⟨_,s13,rfl⟩:=hA 2 13;obtain⟨_,s18,rfl⟩:=hA 7 18
  rotate_left
  obtain⟨_,s19,rfl⟩:=hA 8 19;clear hB hA
  ·go_simp;refine (qB (q_l (by omega:N<=W.heap.size) eI.size) (G.x0+pi) (by omega) (by omega)).mono ?_;rintro e wj ⟨vj,rfl,hj,ej⟩;go_wp2_with fail;exact hK.out _ _ ej hj
  obtain⟨x11,s11,j11⟩:=hA 0 11;replace j11:Mn.p (Mn.rat N (x)) x11 wi:=j11;obtain⟨x20,s20,j20⟩:=hA 9 20;replace j20:Mn.p (Mn.rat N ((G.x0+pi:Int):Rat)) x20 wi:=j20;clear hB hA
  ·go_simp;refine (jP j11 j20 HZX.out.1 (zT (by omega))).mono ?_;rintro e wj ⟨vj,rfl,hj,ej⟩;go_wp2_with fail;exact hK.out _ _ ej hj
  have o4:=oOf (hB 4) rfl
  rotate_left
  obtain⟨_,s22,rfl⟩:=hA 11 22;have cc0:=eI.cell a2
  rotate_left
  obtain⟨_,s23,rfl⟩:=hA 12 23;clear hB hA
  ·go_simp;refine (qB (q_l (by omega:N<=W.heap.size) eI.size) G.st (by omega) (by omega)).mono ?_;rintro e wj ⟨vj,rfl,hj,ej⟩;go_wp2_with fail;exact hK.out _ _ ej hj
  obtain⟨x21,s21,j21⟩:=hA 10 21;replace j21:Mn.p (Mn.rat N (x - ((G.x0+pi:Int):Rat))) x21 wi:=j21;obtain⟨x24,s24,j24⟩:=hA 13 24;replace j24:Mn.p (Mn.rat N ((G.st:Int):Rat)) x24 wi:=j24;clear hB hA
  ·go_simp;refine (jQ j21 j24 HZX.out.2 HSS.out HST.out).mono ?_;rw [HP.out];rintro e wj ⟨vj,rfl,hj,ej⟩;go_wp2_with fail;exact hK.out _ _ ej ⟨vj,rfl,hj⟩
  obtain⟨x25,s25,j25⟩:=hA 14 25;replace j25:Mn.p (Mn.rc N p) x25 wi:=j25;clear hB hA
  ·go_simp;exact q_k hK j25
  obtain⟨x10,s10,j10⟩:=hA 15 10;replace j10:Mn.p (Mn.rc N p) x10 wi:=j10;clear hB hA
  ·obtain⟨vj,rfl,hj⟩:=j10;go_simp;exact q_k hK hj
  all_goals clear hB hA; go_simp; exact q_k hK rfl
 ·intro i hs;have hi':i=17:=by simpa using hs
  clear hs
  rcases hi' with rfl
  ·refine sft rfl (fun _ _ _ _ h=>h) ?_;intro ac wi eI hB hA;obtain⟨x10,s10,j10⟩:=hA 15 10;replace j10:Mn.p (Mn.rc N p) x10 wi:=j10;clear hB hA;obtain⟨vj,rfl,hj⟩:=j10;refine⟨(.int .i64 0),.inl ⟨rfl,fun w9 _=>?_⟩,rfl⟩;go_simp
 intro vals wz eZ hJ;have J26:Mn.p (Mn.rat N p) (vals 16) wz:=hJ 16 (by decide) (by decide);clear hJ;simp only [pr,Nat.reduceAdd]
 generalize vals 16=z26 at J26 ⊢
 obtain⟨bz,Az,kz,cz,Az',kz',cz',rfl,hbz,gz1,gz2⟩:=qm.parts J26;replace B0:=eZ.block B0;replace B1:=eZ.block B1;replace B3:=eZ.block B3;replace B4:=eZ.block B4;replace B5:=eZ.block B5;clear r0 r1 r2 r3 r4 r5 r6 r7 a0 a1 a2 c0 c1 p0 p1 p2 p3;obtain⟨r0,r1,r2,r3,r4,r5,r6,r7⟩:=cells4 B4;refine qi (i:=18) rfl (by kernel_rfl) (by kernel_rfl) (fun K hK=>?_);go_simp;refine hK.out _ _ ?_;clear hK K;try simp only [nr]
 refine qg (by kernel_rfl) ?_ _;obtain⟨w2,E2,F2,U2⟩:=ex4 B4 (.bool bz) (.slice Az kz cz) (.bool false) (.slice Az' kz' cz');rw [E2];have C2:=U2.chg (NoU.mk B4 (by decide));have hRp:qm N w2 _ p:=qm.mk hbz (gz1.chg C2 (by omega)) (gz2.chg C2 (by omega));replace B0:=U2.blk B0 (by omega);replace B1:=U2.blk B1 (by omega);replace B3:=U2.blk B3 (by omega);replace B5:=U2.blk B5 (by omega);replace hE:=U2.ext (hE.trans eZ) (by omega);have hN2:N<=w2.heap.size:=by have:=hE.size; omega
 clear r0 r1 r2 r3 r4 r5 r6 r7 E2 U2 C2 B4 B2 eZ gz1 gz2 hbz hRx;go_upto_region 2 with (fail);obtain⟨-,a1,a2,-,-,-⟩:=qG B0;obtain⟨-,c1,-,-,-,-⟩:=qG B1;obtain⟨p0,p1,p2,p3,-⟩:=cells4 B3;obtain⟨r0,r1,r2,r3,r4,r5,r6,r7⟩:=cells4 B5;have hRy:=HY.out.ext hE;refine q1J [Mn.rat N (y),Mn.q w.heap.size 1,Mn.i G.y0,Mn.q (w.heap.size+1) 1,Mn.i j,Mn.q w.heap.size 2,Mn.i G.st,Mn.i pj,Mn.i (G.y0+pj),Mn.rat N ((G.y0+pj:Int):Rat),Mn.rat N (y - ((G.y0+pj:Int):Rat)),Mn.q w.heap.size 2,Mn.i G.st,Mn.rat N ((G.st:Int):Rat),Mn.rc N q,Mn.rc N q,Mn.rat N q,Mn.i 0,Mn.any] [some 29,some 30,some 31,some 32,some 33,some 34,some 35,some 36,some 37,some 38,some 39,some 40,some 41,some 42,some 43,some 28,some 44,some 45,none] [18] [17] (rQ 18 1) 1 (by kernel_rfl) ?_ ?_ ?_
 ·show ∀ i,i < 19->_
  iterate 19 refine fs ?_ ?_
  ·exact fz
  all_goals intro hl hs; first | exact absurd hl (by decide) | exact absurd hs (by decide) | (clear hl hs; refine stp rfl ?_; intro ac wi eI hB hA K hK)
  have o7:=oOf (hB 7) rfl;clear hB hA;have cc0:=eI.cell p0;have cc1:=eI.cell p1;have cc2:=eI.cell p2;have cc3:=eI.cell p3
  ·go_simp;exact q_k hK (hRy.ext eI)
  have o4:=oOf (hB 4) rfl
  rotate_left
  obtain⟨_,s30,rfl⟩:=hA 1 30;have cc0:=eI.cell a1
  rotate_left
  have o5:=oOf (hB 5) rfl
  rotate_left
  obtain⟨_,s32,rfl⟩:=hA 3 32;have cc0:=eI.cell c1
  rotate_left
  have o4:=oOf (hB 4) rfl
  rotate_left
  obtain⟨_,s34,rfl⟩:=hA 5 34;have cc0:=eI.cell a2
  rotate_left
  obtain⟨_,s33,rfl⟩:=hA 4 33;obtain⟨_,s35,rfl⟩:=hA 6 35
  rotate_left
  obtain⟨_,s31,rfl⟩:=hA 2 31;obtain⟨_,s36,rfl⟩:=hA 7 36
  rotate_left
  obtain⟨_,s37,rfl⟩:=hA 8 37;clear hB hA
  ·go_simp;refine (qB (q_l hN2 eI.size) (G.y0+pj) (by omega) (by omega)).mono ?_;rintro e wj ⟨vj,rfl,hj,ej⟩;go_wp2_with fail;exact hK.out _ _ ej hj
  obtain⟨x29,s29,j29⟩:=hA 0 29;replace j29:Mn.p (Mn.rat N (y)) x29 wi:=j29;obtain⟨x38,s38,j38⟩:=hA 9 38;replace j38:Mn.p (Mn.rat N ((G.y0+pj:Int):Rat)) x38 wi:=j38;clear hB hA
  ·go_simp;refine (jP j29 j38 HZY.out.1 (zT (by omega))).mono ?_;rintro e wj ⟨vj,rfl,hj,ej⟩;go_wp2_with fail;exact hK.out _ _ ej hj
  have o4:=oOf (hB 4) rfl
  rotate_left
  obtain⟨_,s40,rfl⟩:=hA 11 40;have cc0:=eI.cell a2
  rotate_left
  obtain⟨_,s41,rfl⟩:=hA 12 41;clear hB hA
  ·go_simp;refine (qB (q_l hN2 eI.size) G.st (by omega) (by omega)).mono ?_;rintro e wj ⟨vj,rfl,hj,ej⟩;go_wp2_with fail;exact hK.out _ _ ej hj
  obtain⟨x39,s39,j39⟩:=hA 10 39;replace j39:Mn.p (Mn.rat N (y - ((G.y0+pj:Int):Rat))) x39 wi:=j39;obtain⟨x42,s42,j42⟩:=hA 13 42;replace j42:Mn.p (Mn.rat N ((G.st:Int):Rat)) x42 wi:=j42;clear hB hA
  ·go_simp;refine (jQ j39 j42 HZY.out.2 HSS.out HST.out).mono ?_;rw [HQ.out];rintro e wj ⟨vj,rfl,hj,ej⟩;go_wp2_with fail;exact hK.out _ _ ej ⟨vj,rfl,hj⟩
  obtain⟨x43,s43,j43⟩:=hA 14 43;replace j43:Mn.p (Mn.rc N q) x43 wi:=j43;clear hB hA
  ·go_simp;exact q_k hK j43
  obtain⟨x28,s28,j28⟩:=hA 15 28;replace j28:Mn.p (Mn.rc N q) x28 wi:=j28;clear hB hA
  ·obtain⟨vj,rfl,hj⟩:=j28;go_simp;exact q_k hK hj
  all_goals clear hB hA; go_simp; exact q_k hK rfl
 ·intro i hs;have hi':i=17:=by simpa using hs
  clear hs
  rcases hi' with rfl
  ·refine sft rfl (fun _ _ _ _ h=>h) ?_;intro ac wi eI hB hA;obtain⟨x28,s28,j28⟩:=hA 15 28;replace j28:Mn.p (Mn.rc N q) x28 wi:=j28;clear hB hA;obtain⟨vj,rfl,hj⟩:=j28;refine⟨(.int .i64 0),.inl ⟨rfl,fun w9 _=>?_⟩,rfl⟩;go_simp
 intro vals wz eZ hJ;have J36:vals 7=_:=hJ 7 (by decide) (by decide);have J28:Mn.p (Mn.rc N q) (vals 15) wz:=hJ 15 (by decide) (by decide);have J44:Mn.p (Mn.rat N q) (vals 16) wz:=hJ 16 (by decide) (by decide);clear hJ;simp only [pr,Nat.reduceAdd,J36];clear J36
 generalize vals 15=z28 at J28 ⊢
 generalize vals 16=z44 at J44 ⊢
 obtain⟨by',Ay,ky,cy,Ay',ky',cy',rfl,hby,gy1,gy2⟩:=qm.parts J44;replace B5:=eZ.block B5;replace F2:=eZ.block F2;replace hRp:=hRp.ext eZ;clear r0 r1 r2 r3 r4 r5 r6 r7 a1 a2 c1 p0 p1 p2 p3;obtain⟨r0,r1,r2,r3,r4,r5,r6,r7⟩:=cells4 B5;refine qi (i:=18) rfl (by kernel_rfl) (by kernel_rfl) (fun K hK=>?_);go_simp;refine hK.out _ _ ?_;clear hK K;try simp only [nr]
 refine qg (by kernel_rfl) ?_ _;obtain⟨w3,E3,F3,U3⟩:=ex4 B5 (.bool by') (.slice Ay ky cy) (.bool false) (.slice Ay' ky' cy');rw [E3];have C3:=U3.chg (NoU.mk B5 (by decide));have hRq:qm N w3 _ q:=qm.mk hby (gy1.chg C3 (by omega)) (gy2.chg C3 (by omega));replace hRp:=hRp.chg C3 (by omega);replace F2:=U3.blk F2 (by omega);replace hE:=U3.ext (hE.trans eZ) (by omega);clear r0 r1 r2 r3 r4 r5 r6 r7 E3 U3 C3 B5 B0 B1 B3 eZ gy1 gy2 hby hRy;go_upto_region 3 with (fail);obtain⟨r0,r1,r2,r3,r4,r5,r6,r7⟩:=cells4 F2;obtain⟨u0,u1,u2,u3,u4,u5,u6,u7⟩:=cells4 F3;have eC:=(Ext.refl w3).drew;refine jC (fun w'=>w'.cell? ⟨w.heap.size+1+1+1+1,0,none⟩=some (.bool bz)/\w'.cell? ⟨w.heap.size+1+1+1+1,1,none⟩=some (.slice Az kz cz)/\w'.cell? ⟨w.heap.size+1+1+1+1,2,none⟩=some (.bool false)/\w'.cell? ⟨w.heap.size+1+1+1+1,3,none⟩=some (.slice Az' kz' cz')/\w'.cell? ⟨w.heap.size+1+1+1+1+1,0,none⟩=some (.bool by')/\w'.cell? ⟨w.heap.size+1+1+1+1+1,1,none⟩=some (.slice Ay ky cy)/\w'.cell? ⟨w.heap.size+1+1+1+1+1,2,none⟩=some (.bool false)/\w'.cell? ⟨w.heap.size+1+1+1+1+1,3,none⟩=some (.slice Ay' ky' cy')) [] (by kernel_rfl) (by exact⟨eC.cell r0,eC.cell r1,eC.cell r2,eC.cell r3,eC.cell u0,eC.cell u1,eC.cell u2,eC.cell u3⟩) (fun hHeld=>?_);refine sT 0 (h:=?_);try simp only [nr]
 refine sT 1 (h:=?_);try simp only [nr]
 refine xh (i:=2) rfl (by kernel_rfl) (fun K hK=>?_);go_simp;rw [q4K F2];clear hHeld;refine hK.out _ _ (by exact⟨eC.cell r0,eC.cell r1,eC.cell r2,eC.cell r3,eC.cell u0,eC.cell u1,eC.cell u2,eC.cell u3⟩) fun hHeld=>?_
 clear hK K;try simp only [nr]
 refine xh (i:=3) rfl (by kernel_rfl) (fun K hK=>?_);go_simp;rw [q4K F3];clear hHeld;refine hK.out _ _ (by exact⟨eC.cell r0,eC.cell r1,eC.cell r2,eC.cell r3,eC.cell u0,eC.cell u1,eC.cell u2,eC.cell u3⟩) fun hHeld=>?_
 clear hK K;try simp only [nr]
 refine qg (by kernel_rfl) ?_ _;clear hHeld;have hE9:Ext w w3.drew:=hE.drew;have hP9:qm N w3.drew _ p:=hRp;have hQ9:qm N w3.drew _ q:=hRq;go_wp2;refine bodyPost_ret (v:=.tuple #[.agg #[.bool bz,.slice Az kz cz,.bool false,.slice Az' kz' cz'],.agg #[.bool by',.slice Ay ky cy,.bool false,.slice Ay' ky' cy']]) ?_ rfl ⟨_,_,rfl,hP9,hQ9,hE9⟩;simp [results,Tryz.results105,r0,r1,r2,r3,u0,u1,u2,u3,go_sem]
def trM (l:Bool) (p q:Rat) (k:Nat):Rat :=
 if k=0 then (if l then 1 - p else p) else if k=1 then (if l then q else 1 - q) else (if l then p - q else q - p)
theorem q4B {l:Bool} {p:Rat} (hp:Ht K p) (hq:Ht K q) (k:Nat):Ht (2*K+2) (trM l p q k):=by
 have h1:=(Ht.one.sub hp).mono (m:=2*K+2) (by omega);have h2:=(Ht.one.sub hq).mono (m:=2*K+2) (by omega);have h3:=(hp.sub hq).mono (m:=2*K+2) (by omega);have h4:=(hq.sub hp).mono (m:=2*K+2) (by omega);have h5:=hp.mono (m:=2*K+2) (by omega);have h6:=hq.mono (m:=2*K+2) (by omega);unfold trM
 split
 ·split <;> assumption
 ·split
  ·split <;> assumption
  ·split <;> assumption
def Mn.pt (N:Nat) (p:Nat->Rat):Mn:=⟨fun v w=>∃ cs:Array Value,v=.agg cs/\cs.size=12/\cs.toList.all (·.oneCell')=true/\PtV N w cs 0 p,fun e h=>by
 obtain⟨cs,h0,h1,h2,h3⟩:=h
 exact⟨cs,h0,h1,h2,h3.ext e⟩⟩
theorem yF (x0 x1 x2 x3 y0 y1 y2 y3 z0 z1 z2 z3:Value):Tryz.prog.built 43 [(0,.agg #[x0,x1,x2,x3]),(1,.agg #[y0,y1,y2,y3]),(2,.agg #[z0,z1,z2,z3])]=some #[x0,x1,x2,x3,y0,y1,y2,y3,z0,z1,z2,z3]:=by kernel_rfl
theorem xJ {P:Program} {o:Oper} {a:Act} {K:Act->World->Prop} {Q:Exit->Act->World->Prop} (t:TypeId) (parts:Array (Nat×Operand)) (ho:o.op=.build t parts) {l:List (Nat×Value)} (hl:(parts.map fun (i,x)=>(i,a.eval x)).toList=l) {cells:Array Value} (hb:P.built t l=some cells)
  (h:K (a.put o.dst (.agg cells)) w):o.wp P a w K Q:=by
 refine wp_build t parts ho (by rw [hl,hb]; rfl) ?_;rw [hl,hb];exact h
theorem zO {o:Oper} {a:Act} {K:Act->World->Prop} {Q:Exit->Act->World->Prop} (ty:TypeId) (x y:Operand) (ho:o.op=.store ty x y) {cs old:Array Value} {t:TypeId} (hx:a.eval x=.pointer (some ⟨g,0,none⟩)) (hy:a.eval y=.agg cs)
  (hg:w.heap[g]?=some (.cells old t (0,0))) {sz:Nat} (hi:(Tryz.prog.info? ty).map (·.size)=some sz) (hsz:cs.size=sz) (hold:old.size=cs.size) (h1:cs.toList.all (·.oneCell')=true)
  (h:∀ w',w'.heap[g]?=some (.cells cs t (0,0))->Upd g w w'->K (a.put o.dst undef) w'):o.wp Tryz.prog a w K Q :=
 wp_store_row ty x y ho g _ hx hy t _ hg (by rw [hsz]; exact hi) hold (by rw [<-Array.all_toList]; exact h1) (h _ (setRow_heap w g old cs t (0,0) hg) ⟨rfl,rfl,rfl,by simp [World.setRow],fun k hk=>setRow_other w g k cs hk⟩)
theorem q2N {l:Bool} {p:Rat} {x0 x1 x2 x3 y0 y1 y2 y3 z0 z1 z2 z3:Value} (h0:qm N w (.agg #[x0,x1,x2,x3]) (trM l p q 0)) (h1:qm N w (.agg #[y0,y1,y2,y3]) (trM l p q 1)) (h2:qm N w (.agg #[z0,z1,z2,z3]) (trM l p q 2)):PtV N w #[x0,x1,x2,x3,y0,y1,y2,y3,z0,z1,z2,z3] 0 (trM l p q):=jf h0 h1 h2
theorem QT {vg vx vy:Value} {i j z0 z1 z2:Int} {l:Bool} {y:Rat} (h:yg N lo hi w vg G) (hG:GOk G) (ht:TOk G i j z0 z1 z2) (hx:qm N w vx x) (hy:qm N w vy y) (hkx:Ht K x) (hky:Ht K y) (hK:K<=1000000) :
  Calls Tryz.prog 53 #[vg,Ju i j l z0 z1 z2,vx,vy] w (Jk N w (trM l (sx G x - (i:Rat)) (sy G y - (j:Rat)))):=by
 have hN:=hx.le;have HG:=q_h h;obtain⟨A,c,rfl,-,-,-⟩:=h.parts;obtain⟨m1,X1,i1,d1,X2,i2,d2,rfl,hm1,gx1,gx2⟩:=hx.parts;obtain⟨m2,Y1,i3,d3,Y2,i4,d4,rfl,hm2,gy1,gy2⟩:=hy.parts;have HX:=q_h hx;have HY:=q_h hy;have HC:Hid (∀ (w':World),Ext w w'->Calls Tryz.prog 105 #[_,Ju i j l z0 z1 z2,_,_] w' (q19 N w' (sx G x - (i:Rat)) (sy G y - (j:Rat)))):=fun w' e=>XI (l:=l) (h.ext e) hG ht (hx.ext e) (hy.ext e) hkx hky hK
 have hpk:Ht (K+48) (sx G x - (i:Rat)):=((q1r hG hkx).sub (qp (m:=8) (by have:=ht.i0; have:=ht.i1; omega) (by omega))).mono (by omega);have hqk:Ht (K+48) (sy G y - (j:Rat)):=((q1q hG hky).sub (qp (m:=8) (by have:=ht.j0; have:=ht.j1; omega) (by omega))).mono (by omega);obtain⟨p,hp⟩:=qf (sx G x - (i:Rat));obtain⟨q,hq⟩:=qf (sy G y - (j:Rat));rw [<-hp.out,<-hq.out] at HC ⊢;rw [<-hp.out] at hpk;rw [<-hq.out] at hqk;have HSP:Hid (Sz p):=hpk.sz (by omega);have HSQ:Hid (Sz q):=hqk.sz (by omega);have HS1:Hid (Sz ((1:Int):Rat)):=zT (by decide);unfold Ju at HC ⊢;clear h hG ht hx hy hkx hky gx1 gx2 gy1 gy2 hpk hqk;go_enter Tryz.func53,Tryz.ntmps53;go_wp2_with (go_at_call 105; refine q_o ?_);refine q0W ?_;intro W hE hsz B0 B1 B2 B3 B4;refine (HC.out W hE).mono ?_;rintro e w1 ⟨u,v,rfl,hu,hv,e1⟩;obtain⟨bu,Au,ku,cu,A'u,k'u,c'u,rfl,hbu,gu1,gu2⟩:=hu.parts;obtain⟨bv,Av,kv,cv,A'v,k'v,c'v,rfl,hbv,gv1,gv2⟩:=hv.parts;replace B1:=e1.block B1;replace B4:=e1.block B4;replace hE:=hE.trans e1;go_upto_region 2 with (fail);refine kE ?_;intro w2 e2 hsz2 BU BV;obtain⟨gU,hgU⟩:∃ gU,gU=w1.heap.size:=⟨_,rfl⟩
 rw [<-hgU] at BU BV ⊢;have hRu:=hu.ext e2;have hRv:=hv.ext e2;replace B1:=e2.block B1;replace B4:=e2.block B4;replace hE:=hE.trans e2;clear hgU e1 e2 hu hv gu1 gu2 gv1 gv2 B0 B2 B3 hsz2;have hN2:N<=w2.heap.size:=by have:=hE.size; omega
 have hg4:w.heap.size+1+1+1+1 < w2.heap.size:=qJ B4;obtain⟨-,-,c2,-,-,-⟩:=qG B1;cases l with
 | true =>
  go_upto_region 3 with (fail);clear c2;obtain⟨x0,x1,x2,x3,-⟩:=cells4 BU;obtain⟨y0,y1,y2,y3,-⟩:=cells4 BV;refine xe [Mn.rat N ((1:Int):Rat),Mn.rat N (p),Mn.rat N (1 - p),Mn.rat N (q),Mn.rat N (p),Mn.rat N (q),Mn.rat N (p - q),Mn.pt N (trM true p q),Mn.any] [some 21,some 22,some 23,some 24,some 25,some 26,some 27,some 28,none] [8] (rQ 8 1) 1 (by kernel_rfl) ?_ ?_
  ·show ∀ i,i < 9->_
   iterate 9 refine fs ?_ ?_
   ·exact fz
   all_goals intro hl; first | exact absurd hl (by decide) | (clear hl; refine stp rfl ?_; intro ac wi eI hB hA K hK)
   clear hB hA
   ·go_simp;refine (qB (q_l hN2 eI.size) 1 (by omega) (by omega)).mono ?_;rintro e wj ⟨vj,rfl,hj,ej⟩;go_wp2_with fail;exact hK.out _ _ ej hj
   have o9:=oOf (hB 9) rfl;clear hB hA;have cc0:=eI.cell x0;have cc1:=eI.cell x1;have cc2:=eI.cell x2;have cc3:=eI.cell x3
   ·go_simp;exact q_k hK (hRu.ext eI)
   obtain⟨x21,s21,j21⟩:=hA 0 21;replace j21:Mn.p (Mn.rat N ((1:Int):Rat)) x21 wi:=j21;obtain⟨x22,s22,j22⟩:=hA 1 22;replace j22:Mn.p (Mn.rat N (p)) x22 wi:=j22;clear hB hA
   ·go_simp;refine (jP j21 j22 HS1.out HSP.out).mono ?_;rintro e wj ⟨vj,rfl,hj,ej⟩;go_wp2_with fail;exact hK.out _ _ ej hj
   have o10:=oOf (hB 10) rfl;clear hB hA;have cc0:=eI.cell y0;have cc1:=eI.cell y1;have cc2:=eI.cell y2;have cc3:=eI.cell y3
   ·go_simp;exact q_k hK (hRv.ext eI)
   have o9:=oOf (hB 9) rfl;clear hB hA;have cc0:=eI.cell x0;have cc1:=eI.cell x1;have cc2:=eI.cell x2;have cc3:=eI.cell x3
   ·go_simp;exact q_k hK (hRu.ext eI)
   have o10:=oOf (hB 10) rfl;clear hB hA;have cc0:=eI.cell y0;have cc1:=eI.cell y1;have cc2:=eI.cell y2;have cc3:=eI.cell y3
   ·go_simp;exact q_k hK (hRv.ext eI)
   obtain⟨x25,s25,j25⟩:=hA 4 25;replace j25:Mn.p (Mn.rat N (p)) x25 wi:=j25;obtain⟨x26,s26,j26⟩:=hA 5 26;replace j26:Mn.p (Mn.rat N (q)) x26 wi:=j26;clear hB hA
   ·go_simp;refine (jP j25 j26 HSP.out HSQ.out).mono ?_;rintro e wj ⟨vj,rfl,hj,ej⟩;go_wp2_with fail;exact hK.out _ _ ej hj
   obtain⟨x23,s23,j23⟩:=hA 2 23;replace j23:Mn.p (Mn.rat N (1 - p)) x23 wi:=j23;obtain⟨x24,s24,j24⟩:=hA 3 24;replace j24:Mn.p (Mn.rat N (q)) x24 wi:=j24;obtain⟨x27,s27,j27⟩:=hA 6 27;replace j27:Mn.p (Mn.rat N (p - q)) x27 wi:=j27;clear hB hA
   ·obtain⟨ba,Aa,ka,ca,A'a,k'a,c'a,rfl,-,-,-⟩:=qm.parts j23;obtain⟨bb,Ab,kb,cb,A'b,k'b,c'b,rfl,-,-,-⟩:=qm.parts j24;obtain⟨bd,Ad,kd,cd,A'd,k'd,c'd,rfl,-,-,-⟩:=qm.parts j27;rw [if_pos (by rfl)];refine xJ 43 _ rfl (l:=[(0,.agg #[.bool ba,.slice Aa ka ca,.bool false,.slice A'a k'a c'a]),(1,.agg #[.bool bb,.slice Ab kb cb,.bool false,.slice A'b k'b c'b]),(2,.agg #[.bool bd,.slice Ad kd cd,.bool false,.slice A'd k'd c'd])]) (by simp only [List.map_toArray,List.map_cons,List.map_nil]; simp [Act.eval,s23,s24,s27]) (yF _ _ _ _ _ _ _ _ _ _ _ _) ?_;exact q_k hK ⟨_,rfl,rfl,rfl,q2N (l:=true) j23 j24 j27⟩
  intro vals wz eZ hJ;have J26:Mn.p (Mn.rat N (q)) (vals 5) wz:=hJ 5 (by decide) (by decide);have J28:Mn.p (Mn.pt N (trM true p q)) (vals 7) wz:=hJ 7 (by decide) (by decide);clear hJ;simp only [pr,Nat.reduceAdd]
  generalize vals 5=z26 at J26 ⊢
  generalize vals 7=z28 at J28 ⊢
  obtain⟨cs,rfl,k1,k2,k3⟩:=J28;replace B4:=eZ.block B4;refine qi (i:=8) rfl (by kernel_rfl) (by kernel_rfl) (fun K hK=>?_);rw [if_pos (by rfl)];refine zO 43 _ _ rfl (by rfl) (by rfl) B4 qE k1 (Eq.trans (by rfl:Array.size _=12) k1.symm) k2 ?_;intro w3 D3 U3;refine hK.out _ _ ?_;clear hK K;try simp only [nr]
  refine qg (by kernel_rfl) ?_ _;have C3:=U3.chg (NoU.mk B4 (by decide));have HF:Hid (Jk N w (trM true p q) (.returned (.agg cs)) w3):=⟨cs,rfl,k1,k2,fun i hi=>(k3 i hi).chg C3 (by omega),U3.ext (hE.trans eZ) (by omega)⟩
  have hz:(Tryz.prog.info? 43).map (·.size)=some cs.size:=by rw [k1]; exact qE
  clear k1 k2 k3 U3 C3 B4 x0 x1 x2 x3 y0 y1 y2 y3;go_wp2;exact bodyPost_ret (results_cell_row rfl _ _ _ _ _ _ _ rfl D3 Tryz.underlying43 rfl hz) rfl HF.out
 | false =>
  go_upto_region 4 with (fail);clear c2;obtain⟨x0,x1,x2,x3,-⟩:=cells4 BU;obtain⟨y0,y1,y2,y3,-⟩:=cells4 BV;refine xe [Mn.rat N (p),Mn.rat N ((1:Int):Rat),Mn.rat N (q),Mn.rat N (1 - q),Mn.rat N (q),Mn.rat N (p),Mn.rat N (q - p),Mn.pt N (trM false p q),Mn.any] [some 29,some 30,some 31,some 32,some 33,some 34,some 35,some 36,none] [8] (rQ 8 1) 1 (by kernel_rfl) ?_ ?_
  ·show ∀ i,i < 9->_
   iterate 9 refine fs ?_ ?_
   ·exact fz
   all_goals intro hl; first | exact absurd hl (by decide) | (clear hl; refine stp rfl ?_; intro ac wi eI hB hA K hK)
   have o9:=oOf (hB 9) rfl;clear hB hA;have cc0:=eI.cell x0;have cc1:=eI.cell x1;have cc2:=eI.cell x2;have cc3:=eI.cell x3
   ·go_simp;exact q_k hK (hRu.ext eI)
   clear hB hA
   ·go_simp;refine (qB (q_l hN2 eI.size) 1 (by omega) (by omega)).mono ?_;rintro e wj ⟨vj,rfl,hj,ej⟩;go_wp2_with fail;exact hK.out _ _ ej hj
   have o10:=oOf (hB 10) rfl;clear hB hA;have cc0:=eI.cell y0;have cc1:=eI.cell y1;have cc2:=eI.cell y2;have cc3:=eI.cell y3
   ·go_simp;exact q_k hK (hRv.ext eI)
   obtain⟨x30,s30,j30⟩:=hA 1 30;replace j30:Mn.p (Mn.rat N ((1:Int):Rat)) x30 wi:=j30;obtain⟨x31,s31,j31⟩:=hA 2 31;replace j31:Mn.p (Mn.rat N (q)) x31 wi:=j31;clear hB hA
   ·go_simp;refine (jP j30 j31 HS1.out HSQ.out).mono ?_;rintro e wj ⟨vj,rfl,hj,ej⟩;go_wp2_with fail;exact hK.out _ _ ej hj
   have o10:=oOf (hB 10) rfl;clear hB hA;have cc0:=eI.cell y0;have cc1:=eI.cell y1;have cc2:=eI.cell y2;have cc3:=eI.cell y3
   ·go_simp;exact q_k hK (hRv.ext eI)
   have o9:=oOf (hB 9) rfl;clear hB hA;have cc0:=eI.cell x0;have cc1:=eI.cell x1;have cc2:=eI.cell x2;have cc3:=eI.cell x3
   ·go_simp;exact q_k hK (hRu.ext eI)
   obtain⟨x33,s33,j33⟩:=hA 4 33;replace j33:Mn.p (Mn.rat N (q)) x33 wi:=j33;obtain⟨x34,s34,j34⟩:=hA 5 34;replace j34:Mn.p (Mn.rat N (p)) x34 wi:=j34;clear hB hA
   ·go_simp;refine (jP j33 j34 HSQ.out HSP.out).mono ?_;rintro e wj ⟨vj,rfl,hj,ej⟩;go_wp2_with fail;exact hK.out _ _ ej hj
   obtain⟨x29,s29,j29⟩:=hA 0 29;replace j29:Mn.p (Mn.rat N (p)) x29 wi:=j29;obtain⟨x32,s32,j32⟩:=hA 3 32;replace j32:Mn.p (Mn.rat N (1 - q)) x32 wi:=j32;obtain⟨x35,s35,j35⟩:=hA 6 35;replace j35:Mn.p (Mn.rat N (q - p)) x35 wi:=j35;clear hB hA
   ·obtain⟨ba,Aa,ka,ca,A'a,k'a,c'a,rfl,-,-,-⟩:=qm.parts j29;obtain⟨bb,Ab,kb,cb,A'b,k'b,c'b,rfl,-,-,-⟩:=qm.parts j32;obtain⟨bd,Ad,kd,cd,A'd,k'd,c'd,rfl,-,-,-⟩:=qm.parts j35;rw [if_pos (by rfl)];refine xJ 43 _ rfl (l:=[(0,.agg #[.bool ba,.slice Aa ka ca,.bool false,.slice A'a k'a c'a]),(1,.agg #[.bool bb,.slice Ab kb cb,.bool false,.slice A'b k'b c'b]),(2,.agg #[.bool bd,.slice Ad kd cd,.bool false,.slice A'd k'd c'd])]) (by simp only [List.map_toArray,List.map_cons,List.map_nil]; simp [Act.eval,s29,s32,s35]) (yF _ _ _ _ _ _ _ _ _ _ _ _) ?_;exact q_k hK ⟨_,rfl,rfl,rfl,q2N (l:=false) j29 j32 j35⟩
  intro vals wz eZ hJ;have J36:Mn.p (Mn.pt N (trM false p q)) (vals 7) wz:=hJ 7 (by decide) (by decide);clear hJ;simp only [pr,Nat.reduceAdd]
  generalize vals 7=z36 at J36 ⊢
  obtain⟨cs,rfl,k1,k2,k3⟩:=J36;replace B4:=eZ.block B4;refine qi (i:=8) rfl (by kernel_rfl) (by kernel_rfl) (fun K hK=>?_);rw [if_pos (by rfl)];refine zO 43 _ _ rfl (by rfl) (by rfl) B4 qE k1 (Eq.trans (by rfl:Array.size _=12) k1.symm) k2 ?_;intro w3 D3 U3;refine hK.out _ _ ?_;clear hK K;try simp only [nr]
  refine qg (by kernel_rfl) ?_ _;have C3:=U3.chg (NoU.mk B4 (by decide));have HF:Hid (Jk N w (trM false p q) (.returned (.agg cs)) w3):=⟨cs,rfl,k1,k2,fun i hi=>(k3 i hi).chg C3 (by omega),U3.ext (hE.trans eZ) (by omega)⟩
  have hz:(Tryz.prog.info? 43).map (·.size)=some cs.size:=by rw [k1]; exact qE
  clear k1 k2 k3 U3 C3 B4 x0 x1 x2 x3 y0 y1 y2 y3;go_wp2;exact bodyPost_ret (results_cell_row rfl _ _ _ _ _ _ _ rfl D3 Tryz.underlying43 rfl hz) rfl HF.out
def pkP (l:Bool) (p q:Rat):Rat:=if l then p else q
def pkQ (l:Bool) (p q:Rat):Rat:=if l then q else p
def plV (l:Bool) (p q:Rat) (z0 z1 z2:Int):Rat:=((z0:Int):Rat)+pkP l p q*((z1 - z0:Int):Rat)+pkQ l p q*((z2 - z1:Int):Rat)
theorem q09 {vg vx vy:Value} {i j z0 z1 z2:Int} {l:Bool} {y:Rat} (h:yg N lo hi w vg G) (hG:GOk G) (ht:TOk G i j z0 z1 z2) (hx:qm N w vx x) (hy:qm N w vy y) (hkx:Ht K x) (hky:Ht K y) (hK:K<=1000000) :
  Calls Tryz.prog 55 #[vg,Ju i j l z0 z1 z2,vx,vy] w (yJ N w (plV l (sx G x - (i:Rat)) (sy G y - (j:Rat)) z0 z1 z2)):=by
 have hN:=hx.le;obtain⟨A,c,rfl,-,-,-⟩:=h.parts;obtain⟨m1,X1,i1,d1,X2,i2,d2,rfl,hm1,gx1,gx2⟩:=hx.parts;obtain⟨m2,Y1,i3,d3,Y2,i4,d4,rfl,hm2,gy1,gy2⟩:=hy.parts;have HC:Hid (∀ (w':World),Ext w w'->Calls Tryz.prog 105 #[_,Ju i j l z0 z1 z2,_,_] w' (q19 N w' (sx G x - (i:Rat)) (sy G y - (j:Rat)))):=fun w' e=>XI (l:=l) (h.ext e) hG ht (hx.ext e) (hy.ext e) hkx hky hK
 have hpk:Ht (K+48) (sx G x - (i:Rat)):=((q1r hG hkx).sub (qp (m:=8) (by have:=ht.i0; have:=ht.i1; omega) (by omega))).mono (by omega);have hqk:Ht (K+48) (sy G y - (j:Rat)):=((q1q hG hky).sub (qp (m:=8) (by have:=ht.j0; have:=ht.j1; omega) (by omega))).mono (by omega);obtain⟨p,hp⟩:=qf (sx G x - (i:Rat));obtain⟨q,hq⟩:=qf (sy G y - (j:Rat));rw [<-hp.out,<-hq.out] at HC ⊢;rw [<-hp.out] at hpk;rw [<-hq.out] at hqk;have hPk:Ht (K+48) (pkP l p q):=by unfold pkP; split <;> assumption
 have hQk:Ht (K+48) (pkQ l p q):=by unfold pkQ; split <;> assumption
 obtain⟨r,hr⟩:=qf (plV l p q z0 z1 z2);rw [<-hr.out];obtain⟨P,hP⟩:=qf (pkP l p q);obtain⟨Q,hQ⟩:=qf (pkQ l p q);rw [<-hP.out] at hPk;rw [<-hQ.out] at hQk;have a0:=ht.a0;have a1:=ht.a1;have b0:=ht.b0;have b1:=ht.b1;have c0:=ht.c0;have c1:=ht.c1;have HR:Hid (((z0:Int):Rat)+P*((z1 - z0:Int):Rat)+Q*((z2 - z1:Int):Rat)=r):=by rw [Hid,hr.out,hP.out,hQ.out]; rfl
 have hw1:IntKind.i64.wrap (z1 - z0)=z1 - z0:=IntWalk.i64_in _ (by omega);have hw2:IntKind.i64.wrap (z2 - z1)=z2 - z1:=IntWalk.i64_in _ (by omega);have h1:=hPk.mul (qp (k:=z1 - z0) (m:=22) (by omega) (by omega));have h2:=hQk.mul (qp (k:=z2 - z1) (m:=22) (by omega) (by omega));have h3:=(qp (k:=z0) (m:=22) (by omega) (by omega)).add h1;have HSP:Hid (Sz P/\Sz (P*((z1 - z0:Int):Rat))):=⟨hPk.sz (by omega),h1.sz (by omega)⟩
 have HSQ:Hid (Sz Q/\Sz (Q*((z2 - z1:Int):Rat))):=⟨hQk.sz (by omega),h2.sz (by omega)⟩
 have HS3:Hid (Sz (((z0:Int):Rat)+P*((z1 - z0:Int):Rat))):=h3.sz (by omega);unfold Ju at HC ⊢;clear h hG ht hx hy hkx hky gx1 gx2 gy1 gy2 hpk hqk h1 h2 h3 hPk hQk hr;go_enter Tryz.func55,Tryz.ntmps55;go_wp2_with (go_at_call 105; refine q_o ?_);refine q0W ?_;intro W hE hsz B0 B1 B2 B3 B4;refine (HC.out W hE).mono ?_;rintro e w1 ⟨u,v,rfl,hu,hv,e1⟩;obtain⟨bu,Au,ku,cu,A'u,k'u,c'u,rfl,hbu,gu1,gu2⟩:=hu.parts;obtain⟨bv,Av,kv,cv,A'v,k'v,c'v,rfl,hbv,gv1,gv2⟩:=hv.parts;replace B1:=e1.block B1;replace B4:=e1.block B4;replace hE:=hE.trans e1;go_upto_region 2 with (fail);refine kE ?_;intro w2 e2 hsz2 BU BV;obtain⟨gU,hgU⟩:∃ gU,gU=w1.heap.size:=⟨_,rfl⟩
 rw [<-hgU] at BU BV ⊢;have hg4:w.heap.size+1+1+1+1 < gU:=by have:=qJ B4; omega
 replace B1:=e2.block B1;replace B4:=e2.block B4;replace hE:=hE.trans e2;have hBU:jL N w2 gU p:=jL.mk BU hbu (gu1.ext e2) (gu2.ext e2);have hBV:jL N w2 (gU+1) q:=jL.mk BV hbv (gv1.ext e2) (gv2.ext e2);have yu:=gu1.ext e2;have zu:=gu2.ext e2;have yv:=gv1.ext e2;have zv:=gv2.ext e2;clear hgU e1 e2 hu hv B0 B2 B3 hsz2;have hN2:N<=w2.heap.size:=by have:=hE.size; omega
 obtain⟨-,-,c2,-,-,-⟩:=qG B1
 go_upto_if 22 with (fail)
 clear c2;have HB1:=q_h B1;have HB4:=q_h B4
 go_cut [] (fun wx=>jL N wx gU P/\jL N wx (gU+1) Q/\wx.heap[w.heap.size+1]?=some (.cells #[.int .i64 i,.int .i64 j,.bool l,.int .i64 z0,.int .i64 z1,.int .i64 z2] 109 (0,0))/\wx.heap[w.heap.size+1+1+1+1]?=some (.cells #[.bool false,.slice none 0 0,.bool false,.slice none 0 0] 29 (0,0))/\Ext w wx)
 case first =>
  cases l with
  | true =>
   have HPP:Hid (P=p):=hP.out;have HQQ:Hid (Q=q):=hQ.out;go_wp2_with fail
   go_meet
   rw [HPP.out,HQQ.out];exact⟨hBU,hBV,HB1.out,HB4.out,hE⟩
  | false =>
   have HPP:Hid (P=q):=hP.out;have HQQ:Hid (Q=p):=hQ.out;obtain⟨x0,x1,x2,x3,x4,x5,x6,x7⟩:=cells4 BU;obtain⟨y0,y1,y2,y3,y4,y5,y6,y7⟩:=cells4 BV;go_wp2_with fail
   go_meet
   obtain⟨w4,E4,F4,K4,hs4⟩:=zU (q:=q) BU (by omega) hbv yv zv;rw [E4];obtain⟨w5,E5,F5,K5,hs5⟩:=zU (q:=p) (K4.blk BV (by omega)) (by omega) hbu (yu.chg K4 (by omega)) (zu.chg K4 (by omega));rw [E5,HPP.out,HQQ.out];exact⟨F4.chg K5 (by omega) (by omega),F5,K5.blk (K4.blk HB1.out (by omega)) (by omega),K5.blk (K4.blk HB4.out (by omega)) (by omega),K5.ext (K4.ext hE (by omega)) (by omega)⟩
 obtain⟨hBP,hBQ,B1',B4',hE'⟩:=hcut;obtain⟨w6,hw6⟩:∃ w6,w6=wc:=⟨_,rfl⟩
 subst hw6;clear hBU hBV BU BV HB1 HB4 B1 B4 hE yu zu yv zv gu1 gu2 gv1 gv2 hN2;have hN6:N<=w6.heap.size:=by have:=hE'.size; omega
 go_upto_region 4 with (fail);obtain⟨-,-,-,c3,c4,c5⟩:=qG B1';have hBP0:=hBP;obtain⟨nx,Ax,kx,cx,A'x,k'x,c'x,Bx,hbx,yx,zx⟩:=hBP;obtain⟨x0,x1,x2,x3,-⟩:=cells4 Bx;have hRx:qm N w6 (.agg #[.bool nx,.slice Ax kx cx,.bool false,.slice A'x k'x c'x]) (P):=qm.mk hbx yx zx;refine xe [Mn.q (w.heap.size+1) 3,Mn.q (w.heap.size+1) 3,Mn.i z0,Mn.rat N ((z0:Int):Rat),Mn.rat N (P),Mn.q (w.heap.size+1) 3,Mn.q (w.heap.size+1) 4,Mn.i z1,Mn.q (w.heap.size+1) 3,Mn.q (w.heap.size+1) 3,Mn.i z0,Mn.i (z1 - z0),Mn.rat N ((z1 - z0:Int):Rat),Mn.rat N (P*((z1 - z0:Int):Rat)),Mn.rat N (((z0:Int):Rat)+P*((z1 - z0:Int):Rat)),Mn.blk w6.heap.size (.cells #[.bool false,.slice none 0 0,.bool false,.slice none 0 0] 29 (0,0)),Mn.any] [some 25,some 26,some 27,some 28,some 29,some 30,some 31,some 32,some 33,some 34,some 35,some 36,some 37,some 38,some 39,some 11,none] [16] (rQ 16 1) 1 (by kernel_rfl) ?_ ?_
 ·show ∀ i,i < 17->_
  iterate 17 refine fs ?_ ?_
  ·exact fz
  all_goals intro hl; first | exact absurd hl (by decide) | (clear hl; refine stp rfl ?_; intro ac wi eI hB hA K hK)
  have o5:=oOf (hB 5) rfl
  rotate_left
  obtain⟨_,s25,rfl⟩:=hA 0 25
  rotate_left
  obtain⟨_,s26,rfl⟩:=hA 1 26;have cc0:=eI.cell c3
  rotate_left
  obtain⟨_,s27,rfl⟩:=hA 2 27;clear hB hA
  ·go_simp;refine (qB (q_l hN6 eI.size) z0 (by omega) (by omega)).mono ?_;rintro e wj ⟨vj,rfl,hj,ej⟩;go_wp2_with fail;exact hK.out _ _ ej hj
  have o9:=oOf (hB 9) rfl;clear hB hA;have cc0:=eI.cell x0;have cc1:=eI.cell x1;have cc2:=eI.cell x2;have cc3:=eI.cell x3
  ·go_simp;exact q_k hK (hRx.ext eI)
  have o5:=oOf (hB 5) rfl
  rotate_left
  obtain⟨_,s30,rfl⟩:=hA 5 30
  rotate_left
  obtain⟨_,s31,rfl⟩:=hA 6 31;have cc0:=eI.cell c4
  rotate_left
  have o5:=oOf (hB 5) rfl
  rotate_left
  obtain⟨_,s33,rfl⟩:=hA 8 33
  rotate_left
  obtain⟨_,s34,rfl⟩:=hA 9 34;have cc0:=eI.cell c3
  rotate_left
  obtain⟨_,s32,rfl⟩:=hA 7 32;obtain⟨_,s35,rfl⟩:=hA 10 35
  rotate_left
  obtain⟨_,s36,rfl⟩:=hA 11 36;clear hB hA
  ·go_simp;refine (qB (q_l hN6 eI.size) (z1 - z0) (by omega) (by omega)).mono ?_;rintro e wj ⟨vj,rfl,hj,ej⟩;go_wp2_with fail;exact hK.out _ _ ej hj
  obtain⟨x29,s29,j29⟩:=hA 4 29;replace j29:Mn.p (Mn.rat N (P)) x29 wi:=j29;obtain⟨x37,s37,j37⟩:=hA 12 37;replace j37:Mn.p (Mn.rat N ((z1 - z0:Int):Rat)) x37 wi:=j37;clear hB hA
  ·go_simp;refine (Zn j29 j37 HSP.out.1 (zT (by omega))).mono ?_;rintro e wj ⟨vj,rfl,hj,ej⟩;go_wp2_with fail;exact hK.out _ _ ej hj
  obtain⟨x28,s28,j28⟩:=hA 3 28;replace j28:Mn.p (Mn.rat N ((z0:Int):Rat)) x28 wi:=j28;obtain⟨x38,s38,j38⟩:=hA 13 38;replace j38:Mn.p (Mn.rat N (P*((z1 - z0:Int):Rat))) x38 wi:=j38;clear hB hA
  ·go_simp;refine (QK j28 j38 (zT (by omega)) HSP.out.2).mono ?_;rintro e wj ⟨vj,rfl,hj,ej⟩;go_wp2_with fail;exact hK.out _ _ ej hj
  clear hB hA
  ·go_simp;refine ql ?_;intro wj ej hszj BJ;exact hK.out _ _ ej ⟨_,rfl,eI.size,BJ⟩
  all_goals clear hB hA; go_simp; exact q_k hK rfl
 intro vals wz eZ hJ;have J39:Mn.p (Mn.rat N (((z0:Int):Rat)+P*((z1 - z0:Int):Rat))) (vals 14) wz:=hJ 14 (by decide) (by decide);have J11:Mn.p (Mn.blk w6.heap.size (.cells #[.bool false,.slice none 0 0,.bool false,.slice none 0 0] 29 (0,0))) (vals 15) wz:=hJ 15 (by decide) (by decide);clear hJ;simp only [pr,Nat.reduceAdd]
 generalize vals 14=z39 at J39 ⊢
 generalize vals 15=z11 at J11 ⊢
 obtain⟨gH,rfl,hgH,BH⟩:=J11;obtain⟨bz,Az,kz,cz,Az',kz',cz',rfl,hbz,gz1,gz2⟩:=qm.parts J39;obtain⟨y0,y1,y2,y3,y4,y5,y6,y7⟩:=cells4 BH;refine qi (i:=16) rfl (by kernel_rfl) (by kernel_rfl) (fun K hK=>?_);go_simp;refine hK.out _ _ ?_;clear hK K;try simp only [nr]
 refine qg (by kernel_rfl) ?_ _;obtain⟨w7,E7,hBH,K7,hs7⟩:=zU (q:=((z0:Int):Rat)+P*((z1 - z0:Int):Rat)) BH (by omega) hbz gz1 gz2;rw [E7];have e67:Ext w6 w7:=K7.ext eZ hgH;replace hBQ:=hBQ.ext e67;replace B1':=e67.block B1';replace B4':=e67.block B4';replace hE':=hE'.trans e67;replace hN6:=q_l hN6 e67.size;clear c3 c4 c5 x0 x1 x2 x3 hbx yx zx Bx hRx y0 y1 y2 y3 y4 y5 y6 y7 E7 K7 BH hs7 hbz gz1 gz2 hBP0 eZ e67;go_upto_region 5 with (fail);obtain⟨-,-,-,c3,c4,c5⟩:=qG B1';obtain⟨nx,Ax,kx,cx,A'x,k'x,c'x,Bx,hbx,yx,zx⟩:=hBQ;obtain⟨x0,x1,x2,x3,-⟩:=cells4 Bx;have hRx:qm N w7 (.agg #[.bool nx,.slice Ax kx cx,.bool false,.slice A'x k'x c'x]) (Q):=qm.mk hbx yx zx;obtain⟨ns,As,ks,cs,A's,k's,c's,Bs,hbs,ys,zs⟩:=hBH;obtain⟨s0,s1,s2,s3,-⟩:=cells4 Bs;have hRs:qm N w7 (.agg #[.bool ns,.slice As ks cs,.bool false,.slice A's k's c's]) (((z0:Int):Rat)+P*((z1 - z0:Int):Rat)):=qm.mk hbs ys zs;obtain⟨r0,r1,r2,r3,r4,r5,r6,r7⟩:=cells4 B4';refine xe [Mn.rat N (((z0:Int):Rat)+P*((z1 - z0:Int):Rat)),Mn.rat N (Q),Mn.q (w.heap.size+1) 3,Mn.q (w.heap.size+1) 5,Mn.i z2,Mn.q (w.heap.size+1) 3,Mn.q (w.heap.size+1) 4,Mn.i z1,Mn.i (z2 - z1),Mn.rat N ((z2 - z1:Int):Rat),Mn.rat N (Q*((z2 - z1:Int):Rat)),Mn.rat N r,Mn.any] [some 40,some 41,some 42,some 43,some 44,some 45,some 46,some 47,some 48,some 49,some 50,some 51,none] [12] (rQ 12 1) 1 (by kernel_rfl) ?_ ?_
 ·show ∀ i,i < 13->_
  iterate 13 refine fs ?_ ?_
  ·exact fz
  all_goals intro hl; first | exact absurd hl (by decide) | (clear hl; refine stp rfl ?_; intro ac wi eI hB hA K hK)
  have o11:=oOf (hB 11) rfl;clear hB hA;have cc0:=eI.cell s0;have cc1:=eI.cell s1;have cc2:=eI.cell s2;have cc3:=eI.cell s3
  ·go_simp;exact q_k hK (hRs.ext eI)
  have o10:=oOf (hB 10) rfl;clear hB hA;have cc0:=eI.cell x0;have cc1:=eI.cell x1;have cc2:=eI.cell x2;have cc3:=eI.cell x3
  ·go_simp;exact q_k hK (hRx.ext eI)
  have o5:=oOf (hB 5) rfl
  rotate_left
  obtain⟨_,s42,rfl⟩:=hA 2 42
  rotate_left
  obtain⟨_,s43,rfl⟩:=hA 3 43;have cc0:=eI.cell c5
  rotate_left
  have o5:=oOf (hB 5) rfl
  rotate_left
  obtain⟨_,s45,rfl⟩:=hA 5 45
  rotate_left
  obtain⟨_,s46,rfl⟩:=hA 6 46;have cc0:=eI.cell c4
  rotate_left
  obtain⟨_,s44,rfl⟩:=hA 4 44;obtain⟨_,s47,rfl⟩:=hA 7 47
  rotate_left
  obtain⟨_,s48,rfl⟩:=hA 8 48;clear hB hA
  ·go_simp;refine (qB (q_l hN6 eI.size) (z2 - z1) (by omega) (by omega)).mono ?_;rintro e wj ⟨vj,rfl,hj,ej⟩;go_wp2_with fail;exact hK.out _ _ ej hj
  obtain⟨x41,s41,j41⟩:=hA 1 41;replace j41:Mn.p (Mn.rat N (Q)) x41 wi:=j41;obtain⟨x49,s49,j49⟩:=hA 9 49;replace j49:Mn.p (Mn.rat N ((z2 - z1:Int):Rat)) x49 wi:=j49;clear hB hA
  ·go_simp;refine (Zn j41 j49 HSQ.out.1 (zT (by omega))).mono ?_;rintro e wj ⟨vj,rfl,hj,ej⟩;go_wp2_with fail;exact hK.out _ _ ej hj
  obtain⟨x40,s40,j40⟩:=hA 0 40;replace j40:Mn.p (Mn.rat N (((z0:Int):Rat)+P*((z1 - z0:Int):Rat))) x40 wi:=j40;obtain⟨x50,s50,j50⟩:=hA 10 50;replace j50:Mn.p (Mn.rat N (Q*((z2 - z1:Int):Rat))) x50 wi:=j50;clear hB hA
  ·go_simp;refine (QK j40 j50 HS3.out HSQ.out.2).mono ?_;rw [HR.out];rintro e wj ⟨vj,rfl,hj,ej⟩;go_wp2_with fail;exact hK.out _ _ ej hj
  all_goals clear hB hA; go_simp; exact q_k hK rfl
 intro vals wz eZ hJ;have J51:Mn.p (Mn.rat N r) (vals 11) wz:=hJ 11 (by decide) (by decide);clear hJ;simp only [pr,Nat.reduceAdd]
 generalize vals 11=z51 at J51 ⊢
 obtain⟨bz,Az,kz,cz,Az',kz',cz',rfl,hbz,gz1,gz2⟩:=qm.parts J51;replace B4':=eZ.block B4';clear r0 r1 r2 r3 r4 r5 r6 r7;obtain⟨r0,r1,r2,r3,r4,r5,r6,r7⟩:=cells4 B4';refine qi (i:=12) rfl (by kernel_rfl) (by kernel_rfl) (fun K hK=>?_);go_simp;refine hK.out _ _ ?_;clear hK K;try simp only [nr]
 refine qg (by kernel_rfl) ?_ _;go_wp2;exact qO rfl rfl rfl (hE'.trans eZ) B4' (by omega) hN gz1 gz2 hbz
structure Tri where
 i:Int
 j:Int
 l:Bool
 z0:Int
 z1:Int
 z2:Int
def Tri.cells (t:Tri):List Value:=[.int .i64 t.i,.int .i64 t.j,.bool t.l,.int .i64 t.z0,.int .i64 t.z1,.int .i64 t.z2]
def Tri.full (t:Tri):Bool:=decide (t.z0≠zK) && (decide (t.z1≠zK) && decide (t.z2≠zK))
def xU (base:Nat) (w:World) (v:Value) (ts:List Tri):Prop:=base<=w.heap.size/\w.ownsRow base 109 6 v ts.length (ts.flatMap Tri.cells)
theorem flat_get:∀ (ts:List Tri) (k:Nat) (t:Tri) (r:Nat),ts[k]?=some t->r < 6->(ts.flatMap Tri.cells)[k*6+r]?=t.cells[r]?
 | [],_,_,_,h,_=>by simp at h
 | a :: ts,0,t,r,h,hr=>by
  simp only [List.getElem?_cons_zero,Option.some.injEq] at h;subst h;rw [List.flatMap_cons,Nat.zero_mul,Nat.zero_add,List.getElem?_append_left (by show r < 6; exact hr)]
 | a :: ts,k+1,t,r,h,hr=>by
  rw [List.getElem?_cons_succ] at h;rw [List.flatMap_cons,List.getElem?_append_right (by show 6<=_; omega)];have:=flat_get ts k t r h hr;rw [<-this]
  show (ts.flatMap Tri.cells)[(k+1)*6+r - 6]?=_
  congr 1
  omega
theorem xU.nil (h:base<=w.heap.size):xU base w (.slice none 0 0) []:=⟨h,by simp,.inl ⟨rfl,rfl⟩⟩
theorem xU.form {ts:List Tri} (h:xU base w v ts):∃ A c,v=.slice A ts.length c:=by
 rcases h.2.2 with ⟨rfl,h0⟩ | ⟨g,cap,cur,rfl,_⟩
 ·exact⟨_,_,by rw [h0]⟩
 ·exact⟨_,_,rfl⟩
theorem xU.ext {ts:List Tri} (h:xU base w v ts) (e:Ext w w'):xU base w' v ts:=by
 refine⟨q_l h.1 e.size,h.2.1,?_⟩
 rcases h.2.2 with h0 | ⟨g,cap,cur,hv,hb,hh,h1,h2,h3,h4⟩
 ·exact .inl h0
 ·exact .inr ⟨g,cap,cur,hv,hb,e.block hh,h1,h2,h3,h4⟩
theorem xU.own_lt {ts:List Tri} (h:xU base w v ts):∀ k,v.ownBlock=some k->base<=k/\k < w.heap.size:=by
 rcases h.2.2 with ⟨rfl,h0⟩ | ⟨g,cap,cur,rfl,hb,hh,-⟩
 ·intro k hk; simp [Value.ownBlock] at hk
 ·intro k hk;obtain rfl:g=k:=by simpa [Value.ownBlock] using hk
  exact⟨hb,qJ hh⟩
theorem q26:(Tryz.prog.info? 109).map (fun i=>(i.zero,i.size,i.bytes))=some (some (.agg #[.int .i64 0,.int .i64 0,.bool false,.int .i64 0,.int .i64 0,.int .i64 0]),6,48):=by kernel_rfl
theorem QD {ts:List Tri} {ops:Array Oper} {rest:List Oper} {o:Oper} {a:Act} {Q:Exit->Act->World->Prop} (hgd:o.guard=none) (s x:Operand) (t:TypeId) (ht:Tryz.prog.underlying t=some (.slice 109))
  (ho:o.op=.call { callee:=.builtin .append,args:=#[s,x],argTypes:=#[t,t] }) (hs:a.eval s=v) (h:xU base w v ts) (hx:a.eval x=.slice (some ⟨b,0,none⟩) 1 1) {q:Tri} {fr:Nat×Nat} (hb:w.heap[b]?=some (.cells q.cells.toArray 109 fr)) (hn:ts.length < 1000000000)
  (hK:∀ g cap w' g',xU base w' (.slice (some ⟨g,0,none⟩) (ts.length+1) cap) (ts ++ [q])->base<=g'->Chg g' (g'+1) w w'->(v.ownBlock=some g'\/g'=w.heap.size)->(v.ownBlock=some g\/g=w.heap.size)->wpList Tryz.prog ops Q rest (a.put o.dst (.slice (some ⟨g,0,none⟩) (ts.length+1) cap)) w'):wpList Tryz.prog ops Q (o :: rest) a w:=by
 obtain⟨i0,hi0,hz0,hz1,hz2⟩:=info_parts q26;obtain⟨hb0,hown⟩:=h
 obtain⟨g,cap,w',hrun,hO,hgr,hat,hlt⟩:=run_append_lies (P:=Tryz.prog) w t o.type base 109 i0 _ 6 48 ht hi0 hz0 hz1 hz2 rfl (by omega) v ts.length (ts.flatMap Tri.cells) hown ⟨b,0,none⟩ 1 1 q.cells (by rfl)
  (fun j u hj=>by rw [Qy,qh hb,Nat.zero_add]; simpa using hj) (fun u hu=>by unfold Tri.cells at hu; simp at hu; rcases hu with rfl | rfl | rfl | rfl | rfl | rfl <;> rfl) (by omega) (by unfold maxLen; omega)
  (by omega) hb0 w.heap.size rfl
 refine wpList_plain hgd fun _ hK'=>?_
 unfold Oper.wp;simp only [execOp,ho,resolve,invoke,builtin,Sem.run_bind,Sem.run_pure,Result.andThen_ok,List.map_toArray,List.map_cons,List.map_nil,hs,hx,hrun];have hG:xU base w' (.slice (some ⟨g,0,none⟩) (ts.length+1) cap) (ts ++ [q]):=⟨q_l hb0 hgr.size,by rw [List.length_append,List.flatMap_append,List.flatMap_cons,List.flatMap_nil,List.append_nil]; exact hO⟩
 have hT:NoU w w.heap.size:=fun cs fr h=>by rw [Array.getElem?_eq_none (q_r)] at h; cases h
 rcases hown.2 with ⟨rfl,h0⟩ | ⟨g0,cap0,cur,rfl,hbb,hh,_⟩
 ·exact hK' _ _ (hK g cap w' w.heap.size hG hb0 (kD hgr (fun k hk=>by simp [Value.ownBlock] at hk) hT) (.inr rfl) hat)
 ·have hT0:NoU w g0:=NoU.mk hh (by decide);exact hK' _ _ (hK g cap w' g0 hG hbb (kD hgr (fun k hk=>by simpa [Value.ownBlock] using hk.symm) hT0) (.inl rfl) hat)
def sqE (G:Grd) (i j:Int) (m:Nat):Tri:=⟨i,j,decide (m=0),zAt G i j,thR G i j m,zAt G (i+1) (j+1)⟩
def sqN (G:Grd) (i j:Int) (m:Nat):List Tri:=((List.range m).map (sqE G i j)).filter Tri.full
def ZV (G:Grd) (j:Int) (n:Nat):List Tri:=(List.range n).flatMap fun i:Nat=>sqN G (i:Int) j 2
def Zd (G:Grd) (h:Nat):List Tri:=(List.range h).flatMap fun j:Nat=>ZV G (j:Int) (G.wd - 1).toNat
def Xc (G:Grd):List Tri:=Zd G (G.ht - 1).toNat
theorem q1w (G:Grd) (i j:Int) (m:Nat):sqN G i j (m+1)=sqN G i j m ++ if (sqE G i j m).full then [sqE G i j m] else []:=by
 unfold sqN;rw [List.range_succ,List.map_append,List.filter_append]
 congr 1
 cases h:(sqE G i j m).full <;> simp [h]
theorem Xp (G:Grd) (j:Int) (n:Nat):ZV G j (n+1)=ZV G j n ++ sqN G n j 2:=by
 unfold ZV;rw [List.range_succ,List.flatMap_append]
 simp
theorem Xh (G:Grd) (h:Nat):Zd G (h+1)=Zd G h ++ ZV G h (G.wd - 1).toNat:=by
 unfold Zd;rw [List.range_succ,List.flatMap_append]
 simp
theorem Wy (G:Grd) (i j:Int) (m:Nat):(sqN G i j m).length<=m:=by
 unfold sqN;exact q_l (List.length_filter_le _ _) (by simp)
theorem Yw (G:Grd) (j:Int) (n:Nat):(ZV G j n).length<=2*n:=by
 induction n with
 | zero=>simp [ZV]
 | succ n ih=>rw [Xp,List.length_append]; have:=Wy G n j 2; omega
theorem Yl (G:Grd) (hw:G.wd<=64) (h:Nat):(Zd G h).length<=126*h:=by
 induction h with
 | zero=>simp [Zd]
 | succ h ih=>rw [Xh,List.length_append]; have:=Yw G h (G.wd - 1).toNat; omega
def RetTs (w:World) (ts:List Tri) (e:Ending) (w':World):Prop:=∃ A c,e=.returned (.slice A ts.length c)/\xU w.heap.size w' (.slice A ts.length c) ts/\Ext w w'
theorem xU.mono {base':Nat} {ts:List Tri} (h:xU base w v ts) (hb:base'<=base):xU base' w v ts:=by
 refine⟨q_l hb h.1,h.2.1,?_⟩
 rcases h.2.2 with h0 | ⟨g,cap,cur,hv,hB,hh,h1,h2,h3,h4⟩
 ·exact .inl h0
 ·exact .inr ⟨g,cap,cur,hv,q_l hb hB,hh,h1,h2,h3,h4⟩
theorem q1m {i j:Int} {l:Bool} {z0 z1 z2:Int} (h0:z0≠-2147483648) (h1:z1≠-2147483648) (h2:z2≠-2147483648):(Tri.mk i j l z0 z1 z2).full=true:=by
 unfold Tri.full zK;rw [q_t h0,q_t h1,q_t h2]
 rfl
theorem Jr {i j:Int} {l:Bool} {z0 z1 z2:Int} (h:z0 = -2147483648\/z1 = -2147483648\/z2 = -2147483648):(Tri.mk i j l z0 z1 z2).full=false:=by
 unfold Tri.full zK
 rcases h with h | h | h <;> subst h <;> simp
theorem Kw {vg:Value} (h:yg N lo hi w vg G) (hG:GOk G):Calls Tryz.prog 52 #[vg] w (RetTs w (Xc G)):=by
 obtain⟨A,c,rfl,hnc,hcm,hz⟩:=h.parts;have g1:=hG.w0;have g2:=hG.w1;have g3:=hG.h0;have g4:=hG.h1;have HN:=q_h hG.n;have h3:G.wd*G.ht<=64*64:=Int.mul_le_mul g2 g4 (by omega) (by omega);have hn4:G.n<=4096:=by have:=hG.n; omega
 obtain⟨H,hH⟩:∃ H:Nat,(H:Int)=G.ht - 1:=⟨(G.ht - 1).toNat,by omega⟩
 obtain⟨M,hM⟩:∃ M:Nat,(M:Int)=G.wd - 1:=⟨(G.wd - 1).toNat,by omega⟩
 have hHn:(G.ht - 1).toNat=H:=by omega
 have hMn:(G.wd - 1).toNat=M:=by omega
 have HL:Hid (Xc G=Zd G H):=by rw [Hid]; unfold Xc; rw [hHn]
 have HS:Hid (∀ k,Zd G (k+1)=Zd G k ++ ZV G k M):=fun k=>by rw [Xh,hMn]
 rw [HL.out];have hwx:IntKind.i64.wrap (G.wd - 1)=(M:Int):=by rw [hM]; exact IntWalk.i64_in _ (by omega)
 have hwy:IntKind.i64.wrap (G.ht - 1)=(H:Int):=by rw [hH]; exact IntWalk.i64_in _ (by omega)
 obtain⟨bz,oz,rfl,hzc⟩:=hz.addr (by have:0 < G.wd*G.ht:=Int.mul_pos (by omega) (by omega); have:=hG.n; omega);have HZ:=q_h hzc;clear h hG hz h3 hzc hHn hMn;go_enter Tryz.func52,Tryz.ntmps52;go_upto_region 1 with (fail);refine ql ?_;intro W hE hsz B0;obtain⟨-,-,-,a3,a4,-⟩:=qG B0;go_wp2_with fail
 go_loopw [12,3] (fun jv lv wr=>∃ h:Nat,h<=H/\jv=.int .i64 (h:Int)/\xU W.heap.size wr lv (Zd G h)/\Ext W wr) (fun jv _ _=>H - (intOf jv).toNat)
 case atStart=>exact⟨0,Nat.zero_le _,rfl,xU.nil (q_r),Ext.refl _⟩
 case round =>
  obtain⟨h,hh,rfl,HG1,hE1⟩:=hrel;obtain⟨A1,c1,rfl⟩:=HG1.form;replace a3:=hE1.cell a3;replace a4:=hE1.cell a4
  by_cases hlt:h < H
  case neg =>
   have hhe:h=H:=by omega
   subst hhe;have t1:decide ((h:Int) < (h:Int))=false:=q_f (by omega);go_wp2;go_ret;exact⟨A1,c1,rfl,HG1.mono (by omega),hE.trans hE1⟩
  have t1:decide ((h:Int) < (H:Int))=true:=q_t (by omega);have HG1':=q_h HG1;go_wp2_with fail
  go_loopw [18,3] (fun iv lv wr=>∃ n:Nat,n<=M/\iv=.int .i64 (n:Int)/\xU W.heap.size wr lv (Zd G h ++ ZV G h n)/\Ext W wr) (fun iv _ _=>M - (intOf iv).toNat)
  case atStart=>exact⟨0,Nat.zero_le _,rfl,(List.append_nil (Zd G h)).symm ▸ HG1'.out,hE1⟩
  case round =>
   clear HG1 HG1' hE1 a3 a4;obtain⟨n,hn,rfl,HG2,hE2⟩:=hrel;obtain⟨A2,c2,rfl⟩:=HG2.form;replace B0:=hE2.block B0;obtain⟨-,-,-,a3,a4,a5⟩:=qG B0
   by_cases hl2:n < M
   case neg =>
    have hne:n=M:=by omega
    subst hne;have t2:decide ((n:Int) < (n:Int))=false:=q_f (by omega);go_wp2;go_roundw
    case rel=>exact⟨h+1,by omega,by go_num,by rw [HS.out]; exact HG2,hE2⟩
    case measure=>simp [intOf]; omega
   have t2:decide ((n:Int) < (M:Int))=true:=q_t (by omega);have HG2':=q_h HG2;obtain⟨m0,hm0⟩:=qf (h*G.wd.toNat+n);have hwd:(G.wd.toNat:Int)=G.wd:=by omega
   have hmz:(m0:Int)=(h:Int)*G.wd+n:=by rw [hm0.out,Int.natCast_add,Int.natCast_mul,hwd]
   have hmb:(m0:Int)+G.wd+1 < G.n:=by
    have:((h:Int)+1+1)*G.wd<=G.ht*G.wd:=Int.mul_le_mul_of_nonneg_right (by omega) (by omega);rw [HN.out,Int.mul_comm G.wd,hmz];rw [Int.add_mul,Int.add_mul,Int.one_mul] at this;omega
   obtain⟨pz,hpr⟩:=qf ((h:Int)*G.wd);have hpr0:(m0:Int)=pz+n:=by rw [hpr.out]; exact hmz
   obtain⟨m1,hm1⟩:∃ m1:Nat,m1=m0+1:=⟨_,rfl⟩
   obtain⟨m2,hm2⟩:∃ m2:Nat,(m2:Int)=(m0:Int)+G.wd:=⟨m0+G.wd.toNat,by omega⟩
   obtain⟨m3,hm3⟩:∃ m3:Nat,m3=m2+1:=⟨_,rfl⟩
   have hw0:IntKind.i64.wrap ((h:Int)*G.wd)=pz:=by rw [hpr.out]; exact IntWalk.i64_in _ (by rw [<-hpr.out]; omega)
   have hw1:IntKind.i64.wrap (pz+(n:Int))=(m0:Int):=by rw [hpr0]; exact IntWalk.i64_in _ (by omega)
   have hw2:IntKind.i64.wrap ((m0:Int)+1)=(m1:Int):=by rw [hm1]; exact IntWalk.i64_in _ (by omega)
   have hw3:IntKind.i64.wrap ((m0:Int)+G.wd)=(m2:Int):=by rw [hm2]; exact IntWalk.i64_in _ (by omega)
   have hw4:IntKind.i64.wrap ((m2:Int)+1)=(m3:Int):=by rw [hm3]; exact IntWalk.i64_in _ (by omega)
   have b0:m0 < G.n:=by omega
   have b1:m1 < G.n:=by omega
   have b2:m2 < G.n:=by omega
   have b3:m3 < G.n:=by omega
   obtain⟨z0,hz0⟩:=qf (G.z m0);obtain⟨z1,hz1⟩:=qf (G.z m1);obtain⟨z2,hz2⟩:=qf (G.z m2);obtain⟨z3,hz3⟩:=qf (G.z m3);have p0:=(hE.trans hE2).cell (HZ.out m0 b0);have p1:=(hE.trans hE2).cell (HZ.out m1 b1);have p2:=(hE.trans hE2).cell (HZ.out m2 b2);have p3:=(hE.trans hE2).cell (HZ.out m3 b3);rw [<-hz0.out] at p0;rw [<-hz1.out] at p1;rw [<-hz2.out] at p2;rw [<-hz3.out] at p3
   have HQ:Hid (∀ m,m < 2->sqE G n h m=⟨n,h,decide (m=0),z0,if m=0 then z1 else z2,z3⟩):=by
    intro m hm;unfold sqE;have e0:zAt G n h=z0:=by unfold zAt; rw [hz0.out,<-hmz]; rfl
    have e1:zAt G (n+1) h=z1:=by unfold zAt; rw [hz1.out,show (h:Int)*G.wd+((n:Int)+1)=(m1:Int) by rw [hm1,<-hpr.out]; omega]; rfl
    have e2:zAt G n (h+1)=z2:=by unfold zAt; rw [hz2.out,show ((h:Int)+1)*G.wd+(n:Int)=(m2:Int) by rw [Int.add_mul,Int.one_mul,<-hpr.out]; omega]; rfl
    have e3:zAt G (n+1) (h+1)=z3:=by unfold zAt; rw [hz3.out,show ((h:Int)+1)*G.wd+((n:Int)+1)=(m3:Int) by rw [Int.add_mul,Int.one_mul,<-hpr.out]; omega]; rfl
    rw [e0,e3]
    congr 1
    unfold thR
    split
    ·exact e1
    ·exact e2
   clear hm0 hwd hmz hmb hpr0 hz0 hz1 hz2 hz3 hpr hm1 hm2 hm3;go_wp2_with fail;obtain⟨w8,hw8⟩:∃ w8,w8=wr:=⟨_,rfl⟩
   subst hw8;have HB0:=q_h B0;clear B0;refine xe [Mn.i (n:Int),Mn.i (h:Int),Mn.q w.heap.size 5,Mn.eq (.slice (some ⟨bz,oz,none⟩) G.n c),Mn.i (m0:Int),Mn.q bz (oz+m0),Mn.i z0,Mn.q w.heap.size 5,Mn.eq (.slice (some ⟨bz,oz,none⟩) G.n c),Mn.i (m0:Int),Mn.i (m1:Int),Mn.q bz (oz+m1),Mn.i z1,Mn.q w.heap.size 5,Mn.eq (.slice (some ⟨bz,oz,none⟩) G.n c),Mn.i (m0:Int),Mn.q w.heap.size 3,Mn.i G.wd,Mn.i (m2:Int),Mn.i (m3:Int),Mn.q bz (oz+m3),Mn.i z3,Mn.eq (.agg #[.int .i64 z0,.int .i64 z1,.int .i64 z3]),Mn.eq (.agg #[.int .i64 (n:Int),.int .i64 (h:Int),.bool true,.int .i64 z0,.int .i64 z1,.int .i64 z3]),Mn.i (n:Int),Mn.i (h:Int),Mn.q w.heap.size 5,Mn.eq (.slice (some ⟨bz,oz,none⟩) G.n c),Mn.i (m0:Int),Mn.q bz (oz+m0),Mn.i z0,Mn.q w.heap.size 5,Mn.eq (.slice (some ⟨bz,oz,none⟩) G.n c),Mn.i (m0:Int),Mn.q w.heap.size 3,Mn.i G.wd,Mn.i (m2:Int),Mn.q bz (oz+m2),Mn.i z2,Mn.q w.heap.size 5,Mn.eq (.slice (some ⟨bz,oz,none⟩) G.n c),Mn.i (m0:Int),Mn.q w.heap.size 3,Mn.i G.wd,Mn.i (m2:Int),Mn.i (m3:Int),Mn.q bz (oz+m3),Mn.i z3,Mn.eq (.agg #[.int .i64 z0,.int .i64 z2,.int .i64 z3]),Mn.eq (.agg #[.int .i64 (n:Int),.int .i64 (h:Int),.bool false,.int .i64 z0,.int .i64 z2,.int .i64 z3]),Mn.bks w8.heap.size 2 (.cells #[.int .i64 (n:Int),.int .i64 (h:Int),.bool true,.int .i64 z0,.int .i64 z1,.int .i64 z3,.int .i64 (n:Int),.int .i64 (h:Int),.bool false,.int .i64 z0,.int .i64 z2,.int .i64 z3] 109 (0,0)),Mn.i 2,Mn.i 0] (sM [27,28,29,30,31,32,33,34,35,36,37,38,39,40,41,42,43,44,45,46,47,48,49,50,51,52,53,54,55,56,57,58,59,60,61,62,63,64,65,66,67,68,69,70,71,72,73,74,75,76,77,78,79]) [] (rQ 53 0) 0 (by kernel_rfl) ?_ ?_
   ·show ∀ i,i < 53->_
    iterate 53 refine fs ?_ ?_
    ·exact fz
    all_goals intro hl; clear hl; refine stp rfl ?_; intro ac wi eI hB hA K hK
    have o5:=oOf (hB 5) rfl
    rotate_left
    have o4:=oOf (hB 4) rfl
    rotate_left
    have o1:=oOf (hB 1) rfl
    rotate_left
    obtain⟨_,s29,rfl⟩:=hA 2 29;have cc0:=eI.cell a5
    rotate_left
    have o6:=oOf (hB 6) rfl
    rotate_left
    obtain⟨_,s30,rfl⟩:=hA 3 30;obtain⟨_,s31,rfl⟩:=hA 4 31
    rotate_left
    obtain⟨_,s32,rfl⟩:=hA 5 32;have cc0:=eI.cell p0
    rotate_left
    have o1:=oOf (hB 1) rfl
    rotate_left
    obtain⟨_,s34,rfl⟩:=hA 7 34;have cc0:=eI.cell a5
    rotate_left
    have o6:=oOf (hB 6) rfl
    rotate_left
    obtain⟨_,s36,rfl⟩:=hA 9 36
    rotate_left
    obtain⟨_,s35,rfl⟩:=hA 8 35;obtain⟨_,s37,rfl⟩:=hA 10 37
    rotate_left
    obtain⟨_,s38,rfl⟩:=hA 11 38;have cc0:=eI.cell p1
    rotate_left
    have o1:=oOf (hB 1) rfl
    rotate_left
    obtain⟨_,s40,rfl⟩:=hA 13 40;have cc0:=eI.cell a5
    rotate_left
    have o6:=oOf (hB 6) rfl
    rotate_left
    have o1:=oOf (hB 1) rfl
    rotate_left
    obtain⟨_,s43,rfl⟩:=hA 16 43;have cc0:=eI.cell a3
    rotate_left
    obtain⟨_,s42,rfl⟩:=hA 15 42;obtain⟨_,s44,rfl⟩:=hA 17 44
    rotate_left
    obtain⟨_,s45,rfl⟩:=hA 18 45
    rotate_left
    obtain⟨_,s41,rfl⟩:=hA 14 41;obtain⟨_,s46,rfl⟩:=hA 19 46
    rotate_left
    obtain⟨_,s47,rfl⟩:=hA 20 47;have cc0:=eI.cell p3
    rotate_left
    obtain⟨_,s33,rfl⟩:=hA 6 33;obtain⟨_,s39,rfl⟩:=hA 12 39;obtain⟨_,s48,rfl⟩:=hA 21 48
    rotate_left
    obtain⟨_,s27,rfl⟩:=hA 0 27;obtain⟨_,s28,rfl⟩:=hA 1 28;obtain⟨_,s49,rfl⟩:=hA 22 49
    rotate_left
    have o5:=oOf (hB 5) rfl
    rotate_left
    have o4:=oOf (hB 4) rfl
    rotate_left
    have o1:=oOf (hB 1) rfl
    rotate_left
    obtain⟨_,s53,rfl⟩:=hA 26 53;have cc0:=eI.cell a5
    rotate_left
    have o6:=oOf (hB 6) rfl
    rotate_left
    obtain⟨_,s54,rfl⟩:=hA 27 54;obtain⟨_,s55,rfl⟩:=hA 28 55
    rotate_left
    obtain⟨_,s56,rfl⟩:=hA 29 56;have cc0:=eI.cell p0
    rotate_left
    have o1:=oOf (hB 1) rfl
    rotate_left
    obtain⟨_,s58,rfl⟩:=hA 31 58;have cc0:=eI.cell a5
    rotate_left
    have o6:=oOf (hB 6) rfl
    rotate_left
    have o1:=oOf (hB 1) rfl
    rotate_left
    obtain⟨_,s61,rfl⟩:=hA 34 61;have cc0:=eI.cell a3
    rotate_left
    obtain⟨_,s60,rfl⟩:=hA 33 60;obtain⟨_,s62,rfl⟩:=hA 35 62
    rotate_left
    obtain⟨_,s59,rfl⟩:=hA 32 59;obtain⟨_,s63,rfl⟩:=hA 36 63
    rotate_left
    obtain⟨_,s64,rfl⟩:=hA 37 64;have cc0:=eI.cell p2
    rotate_left
    have o1:=oOf (hB 1) rfl
    rotate_left
    obtain⟨_,s66,rfl⟩:=hA 39 66;have cc0:=eI.cell a5
    rotate_left
    have o6:=oOf (hB 6) rfl
    rotate_left
    have o1:=oOf (hB 1) rfl
    rotate_left
    obtain⟨_,s69,rfl⟩:=hA 42 69;have cc0:=eI.cell a3
    rotate_left
    obtain⟨_,s68,rfl⟩:=hA 41 68;obtain⟨_,s70,rfl⟩:=hA 43 70
    rotate_left
    obtain⟨_,s71,rfl⟩:=hA 44 71
    rotate_left
    obtain⟨_,s67,rfl⟩:=hA 40 67;obtain⟨_,s72,rfl⟩:=hA 45 72
    rotate_left
    obtain⟨_,s73,rfl⟩:=hA 46 73;have cc0:=eI.cell p3
    rotate_left
    obtain⟨_,s57,rfl⟩:=hA 30 57;obtain⟨_,s65,rfl⟩:=hA 38 65;obtain⟨_,s74,rfl⟩:=hA 47 74
    rotate_left
    obtain⟨_,s51,rfl⟩:=hA 24 51;obtain⟨_,s52,rfl⟩:=hA 25 52;obtain⟨_,s75,rfl⟩:=hA 48 75
    rotate_left
    obtain⟨_,s50,rfl⟩:=hA 23 50;obtain⟨_,s76,rfl⟩:=hA 49 76;clear hB hA
    ·go_simp;refine ql ?_;intro wj ej hszj BJ;exact hK.out _ _ ej ⟨_,rfl,eI.size,BJ⟩
    obtain⟨x77,s77,j77⟩:=hA 50 77;replace j77:Mn.p (Mn.bks w8.heap.size 2 (.cells #[.int .i64 (n:Int),.int .i64 (h:Int),.bool true,.int .i64 z0,.int .i64 z1,.int .i64 z3,.int .i64 (n:Int),.int .i64 (h:Int),.bool false,.int .i64 z0,.int .i64 z2,.int .i64 z3] 109 (0,0))) x77 wi:=j77;clear hB hA
    ·obtain⟨gj,rfl,hgj,BJ⟩:=j77;go_simp;exact q_k hK rfl
    rotate_left
    all_goals clear hB hA; go_simp; exact q_k hK rfl
   intro vals wz eZ hJ;have J77:Mn.p (Mn.bks w8.heap.size 2 (.cells #[.int .i64 (n:Int),.int .i64 (h:Int),.bool true,.int .i64 z0,.int .i64 z1,.int .i64 z3,.int .i64 (n:Int),.int .i64 (h:Int),.bool false,.int .i64 z0,.int .i64 z2,.int .i64 z3] 109 (0,0))) (vals 50) wz:=hJ 50 (by decide) (by decide);have J78:vals 51=_:=hJ 51 (by decide) (by decide);have J79:vals 52=_:=hJ 52 (by decide) (by decide);clear hJ;simp only [pr,Nat.reduceAdd,J78,J79];clear J78 J79
   generalize vals 50=z77 at J77 ⊢
   obtain⟨gL,rfl,hgL,BL⟩:=J77;refine qg (by kernel_rfl) ?_ _;have hgl:=qJ BL;have hE3:=hE2.trans eZ;have hs8:=hE2.size
   have hN2:∀ k,(Value.slice A2 (Zd G h ++ ZV G h n).length c2).ownBlock=some k->k≠gL:=fun k hk=>by
    have:=(HG2'.out.own_lt k hk).2;omega
   have HG3:=q_h (HG2'.out.ext eZ);have HBL:=q_h BL
   have hln:(Zd G h ++ ZV G h n).length<=126*h+2*n:=by
    rw [List.length_append];have:=Yl G g2 h;have:=Yw G h n;omega
   clear HG2 HG2' hE2 BL a3 a4 a5 p0 p1 p2 p3 b0 b1 b2 b3 hw0 hw1 hw2 hw3 hw4;go_wp2_with fail
   go_loopw [79,3] (fun mv lv wr=>∃ m:Nat,m<=2/\mv=.int .i64 (m:Int)/\xU W.heap.size wr lv (Zd G h ++ ZV G h n ++ sqN G n h m)/\(∀ k,lv.ownBlock=some k->k≠gL)/\wr.heap[gL]?=wz.heap[gL]?/\gL < wr.heap.size/\Ext W wr) (fun mv _ _=>2 - (intOf mv).toNat)
   case atStart=>exact⟨0,Nat.zero_le _,rfl,(List.append_nil (Zd G h ++ ZV G h n)).symm ▸ HG3.out,hN2,rfl,hgl,hE3⟩
   case round =>
    clear hE3 eZ HG3 hN2;obtain⟨m,hm,rfl,HG4,hN4,hBL,hgl2,hE4⟩:=hrel;obtain⟨A4,c4,rfl⟩:=HG4.form
    by_cases hl3:m < 2
    case neg =>
     have hme:m=2:=by omega
     subst hme;go_wp2;go_roundw
     case rel=>exact⟨n+1,by omega,by go_num,by rw [Xp,<-List.append_assoc]; exact HG4,hE4⟩
     case measure=>simp [intOf]; omega
    have hbl:=hBL.trans HBL.out;obtain⟨tl,htl⟩:=qf (decide (m=0));obtain⟨y1,hy1⟩:=qf (if m=0 then z1 else z2);have HTQ:Hid (sqE G n h m=⟨n,h,tl,z0,y1,z3⟩):=by rw [Hid,HQ.out m hl3,htl.out,hy1.out]
    have hm2:m=0\/m=1:=by omega
    have x0:wr.cell? ⟨gL,m*6,none⟩=some (.int .i64 (n:Int)):=by rw [qh hbl]; rcases hm2 with rfl | rfl <;> rfl
    have x1:wr.cell? ⟨gL,m*6+1,none⟩=some (.int .i64 (h:Int)):=by rw [qh hbl]; rcases hm2 with rfl | rfl <;> rfl
    have x2:wr.cell? ⟨gL,m*6+2,none⟩=some (.bool tl):=by rw [qh hbl,htl.out]; rcases hm2 with rfl | rfl <;> rfl
    have x3:wr.cell? ⟨gL,m*6+3,none⟩=some (.int .i64 z0):=by rw [qh hbl]; rcases hm2 with rfl | rfl <;> rfl
    have x4:wr.cell? ⟨gL,m*6+4,none⟩=some (.int .i64 y1):=by rw [qh hbl,hy1.out]; rcases hm2 with rfl | rfl <;> rfl
    have x5:wr.cell? ⟨gL,m*6+5,none⟩=some (.int .i64 z3):=by rw [qh hbl]; rcases hm2 with rfl | rfl <;> rfl
    have HG4':=q_h HG4;clear HG4 hbl htl hy1 hm2 HB0;go_upto_region 12 with (fail);refine ql ?_;intro w9 e9 hsz9 B9;have B9':w9.heap[wr.heap.size]?=some (.cells #[.int .i64 (n:Int),.int .i64 (h:Int),.bool tl,.int .i64 z0,.int .i64 y1,.int .i64 z3] 109 (0,0)):=B9;obtain⟨g9,hg9⟩:∃ g9,g9=wr.heap.size:=⟨_,rfl⟩
    rw [<-hg9] at B9' ⊢;have hg9a:wr.heap.size<=g9:=by omega
    clear B9 x0 x1 x2 x3 x4 x5 hg9;obtain⟨-,-,-,b3,b4,b5⟩:=qG B9';obtain⟨tf,htf⟩:=qf (sqE G n h m).full
    go_cut [98] (fun v wx=>v=.bool tf/\wx=w9)
    case first =>
     by_cases d1:z0 = -2147483648
     case pos =>
      have HB:Hid (false=tf):=by rw [Hid,htf.out,HTQ.out,Jr (.inl d1)]
      have q1:(z0 != -2147483648)=false:=by simpa using d1
      clear d1;go_wp2_with fail
      go_meet
      exact⟨by rw [<-HB.out],rfl⟩
     have q1:(z0 != -2147483648)=true:=by simpa using d1
     by_cases d2:y1 = -2147483648
     case pos =>
      have HB:Hid (false=tf):=by rw [Hid,htf.out,HTQ.out,Jr (.inr (.inl d2))]
      have q2:(y1 != -2147483648)=false:=by simpa using d2
      clear d2;go_wp2_with fail
      go_meet
      exact⟨by rw [<-HB.out],rfl⟩
     have q2:(y1 != -2147483648)=true:=by simpa using d2
     by_cases d3:z3 = -2147483648
     case pos =>
      have HB:Hid (false=tf):=by rw [Hid,htf.out,HTQ.out,Jr (.inr (.inr d3))]
      have q3:(z3 != -2147483648)=false:=by simpa using d3
      clear d3;go_wp2_with fail
      go_meet
      exact⟨by rw [<-HB.out],rfl⟩
     have q3:(z3 != -2147483648)=true:=by simpa using d3
     have HB:Hid (true=tf):=by rw [Hid,htf.out,HTQ.out,q1m d1 d2 d3]
     go_wp2_with fail
     go_meet
     exact⟨by rw [<-HB.out],rfl⟩
    obtain⟨rfl,rfl⟩:=hcut;obtain⟨w9,hw9⟩:∃ w9,w9=wc:=⟨_,rfl⟩
    subst hw9;have hNX:Hid (sqN G n h (m+1)=sqN G n h m ++ if tf then [⟨n,h,tl,z0,y1,z3⟩] else []):=by rw [Hid,q1w,<-htf.out,HTQ.out]
    have hsqn:(sqN G n h m).length<=m:=Wy G n h m;have hl4:(Zd G h ++ ZV G h n ++ sqN G n h m).length < 1000000000:=by rw [List.length_append]; omega
    have hgl9:gL < w9.heap.size:=Nat.lt_of_lt_of_le hgl2 e9.size;have HL9:=q_h hBL;cases tf with
    | false =>
     have HG9:=q_h (HG4'.out.ext e9);have hNX':sqN G n h (m+1)=sqN G n h m:=by rw [hNX.out]; simp
     go_wp2;go_roundw
     case rel=>exact⟨m+1,by omega,by go_num,by rw [hNX']; exact HG9.out,hN4,(Below.block e9 gL hgl2).trans HL9.out,hgl9,hE4.trans e9⟩
     case measure=>simp [intOf]; omega
    | true =>
     rename (h:Int) < G.ht - 1=>hq1
     rename (n:Int) < G.wd - 1=>hq2
     rename (m:Int) < 2=>hq3
     clear hq1 hq2 hq3 t1 t2;have hNX2:Hid (Zd G h ++ ZV G h n ++ sqN G n h m ++ [⟨n,h,tl,z0,y1,z3⟩]=Zd G h ++ ZV G h n ++ sqN G n h (m+1)):=by rw [Hid,hNX.out,<-List.append_assoc]; rfl
     obtain⟨L,hL⟩:=qf (Zd G h ++ ZV G h n ++ sqN G n h m);rw [<-hL.out] at hNX2 hN4 hl4 HG4' ⊢;obtain⟨x0,x1,x2,-,-,-⟩:=qG B9';go_wp2_with (at_builtin; refine q_o ?_);refine ql ?_;intro w10 e10 hsz10 BX;have hg10:g9 < w9.heap.size:=qJ B9';refine QD rfl _ _ 105 Tryz.underlying105 rfl rfl ((HG4'.out.ext e9).ext e10) rfl (q:=⟨n,h,tl,z0,y1,z3⟩) BX (by omega) ?_;rintro g' cap w11 gp hG11 hlo11 C11 hp11 ho11;have hs9:=e9.size;have hs10:=e10.size
     have hpl:gp≠gL:=by
      rcases hp11 with hp | rfl
      ·exact hN4 _ hp
      ·omega
     have hgl':g'≠gL:=by
      rcases ho11 with hp | rfl
      ·exact hN4 _ hp
      ·omega
     have hbl11:w11.heap[gL]?=wz.heap[gL]?:=by
      rw [C11.block gL (by omega) (by omega),Below.block e10 gL (by omega),Below.block e9 gL hgl2];exact HL9.out
     have hs11:=C11.size;have hE11:=C11.ext ((hE4.trans e9).trans e10) hlo11;have HG11:=q_h hG11;clear hG11 C11 hp11 ho11 BX x0 x1 x2 b3 b4 b5 B9';go_wp2;go_roundw
     case rel =>
      refine⟨m+1,by omega,by go_num,?_,fun k hk=>?_,hbl11,by omega,hE11⟩
      ·rw [<-hNX2.out];exact HG11.out
      ·obtain rfl:g'=k:=by simpa [Value.ownBlock] using hk
       exact hgl'
     case measure=>simp [intOf]; omega
def YT (G:Grd) (x y:Rat) (t:Tri) (k:Nat):Rat:=trM t.l (sx G x - (t.i:Rat)) (sy G y - (t.j:Rat)) k
def inT (G:Grd) (x y:Rat) (t:Tri):Bool:=decide (0<=(YT G x y t 0).num.sign) && (decide (0<=(YT G x y t 1).num.sign) && decide (0<=(YT G x y t 2).num.sign))
def hzT (G:Grd) (x y:Rat) (t:Tri):Rat:=plV t.l (sx G x - (t.i:Rat)) (sy G y - (t.j:Rat)) t.z0 t.z1 t.z2
theorem z_bd (hG:GOk G) {i j:Int} (hi0:0<=i) (hi1:i < G.wd) (hj0:0<=j) (hj1:j < G.ht) (h:zAt G i j≠zK) : -1048576<=zAt G i j/\zAt G i j<=1048576:=by
 rcases hG.z _ (zidx hi0 hi1 hj0 hj1 hG.n).2.1 with h0 | h0
 ·exact absurd h0 h
 ·exact h0
theorem Zx {t:Tri} (h:t.full=true):t.z0≠zK/\t.z1≠zK/\t.z2≠zK:=by
 unfold Tri.full at h;simp only [Bool.and_eq_true,decide_eq_true_eq] at h;exact h
theorem q4Z {i j:Int} {t:Tri} (h:t∈sqN G i j m):∃ r,r < m/\t=sqE G i j r/\t.full=true:=by
 unfold sqN at h;rw [List.mem_filter] at h;obtain⟨h1,h2⟩:=h;rw [List.mem_map] at h1;obtain⟨r,hr,rfl⟩:=h1;exact⟨r,List.mem_range.1 hr,rfl,h2⟩
theorem q03 {t:Tri} (h:t∈Xc G):∃ i j r:Nat,i < (G.wd - 1).toNat/\j < (G.ht - 1).toNat/\r < 2/\t=sqE G i j r/\t.full=true:=by
 unfold Xc Zd at h;rw [List.mem_flatMap] at h;obtain⟨j,hj,h⟩:=h;unfold ZV at h;rw [List.mem_flatMap] at h;obtain⟨i,hi,h⟩:=h;obtain⟨r,hr,e,hf⟩:=q4Z h;exact⟨i,j,r,List.mem_range.1 hi,List.mem_range.1 hj,hr,e,hf⟩
theorem q4A (hG:GOk G) {t:Tri} (h:t∈Xc G):TOk G t.i t.j t.z0 t.z1 t.z2:=by
 obtain⟨i,j,r,hi,hj,hr,rfl,hf⟩:=q03 h;obtain⟨f0,f1,f2⟩:=Zx hf;have w0:=hG.w0;have w1:=hG.w1;have h0:=hG.h0;have h1:=hG.h1;have a:=z_bd hG (i:=(i:Int)) (j:=(j:Int)) (by omega) (by omega) (by omega) (by omega) f0;have c:=z_bd hG (i:=(i:Int)+1) (j:=(j:Int)+1) (by omega) (by omega) (by omega) (by omega) f2
 have b : -1048576<=thR G i j r/\thR G i j r<=1048576:=by
  have f1':thR G i j r≠zK:=f1;unfold thR at f1' ⊢
  split at f1' <;> rename_i hr0
  ·rw [if_pos hr0];exact z_bd hG (by omega) (by omega) (by omega) (by omega) f1'
  ·rw [if_neg hr0];exact z_bd hG (by omega) (by omega) (by omega) (by omega) f1'
 show TOk G (i:Int) (j:Int) (zAt G i j) (thR G i j r) (zAt G (i+1) (j+1))
 exact⟨by omega,by omega,by omega,by omega,a.1,a.2,b.1,b.2,c.1,c.2⟩
theorem q1p (hG:GOk G):(Xc G).length<=10000:=by
 have:=Yl G hG.w1 (G.ht - 1).toNat;have:=hG.h1;unfold Xc;omega
theorem xU.cell {ts:List Tri} (h:xU base w (.slice A n c) ts) {t:Tri} (ht:ts[k]?=some t):∃ g,A=some ⟨g,0,none⟩/\∀ r,r < 6->w.cell? ⟨g,k*6+r,none⟩=t.cells[r]?:=by
 have hk:=(List.getElem?_eq_some_iff.1 ht).1
 rcases h.2.2 with ⟨-,h⟩ | ⟨g,cap,cur,hv,hb,hg,hnc,hcm,hcs,htk⟩
 ·omega
 ·injection hv with e1 e2 e3
  refine⟨g,e1,fun r hr=>?_⟩;rw [qh hg,<-flat_get ts k t r ht hr,<-htk];rw [List.getElem?_take,if_pos (by omega)]
  simp
theorem yY {x:Rat}:0<=x.num.sign↔0<=x:=by
 rw [<-Rat.num_nonneg]
 constructor
 ·intro h
  rcases Int.lt_trichotomy x.num 0 with h1 | h1 | h1
  ·rw [Int.sign_eq_neg_one_of_neg h1] at h; omega
  ·omega
  ·omega
 ·intro h
  rcases Int.lt_trichotomy x.num 0 with h1 | h1 | h1
  ·omega
  ·rw [h1]; decide
  ·rw [Int.sign_eq_one_of_pos h1]; omega
theorem q0g {y:Rat} {i j:Int} {r:Nat} (hr:r < 2) (i0:0<=i) (i1:i < G.wd - 1) (j0:0<=j) (j1:j < G.ht - 1) (hf:(sqE G i j r).full=true):inT G x y (sqE G i j r)=true↔InT G (sx G x) (sy G y) i j r:=by
 obtain⟨f0,f1,f2⟩:=Zx hf;unfold inT;simp only [Bool.and_eq_true,decide_eq_true_eq,yY];have hr':r=0\/r=1:=by omega
 unfold YT trM
 rcases hr' with rfl | rfl
 ·simp only [sqE,decide_true,if_true,Nat.one_ne_zero,if_false,show ((2:Nat)=0)=False by simp,show ((2:Nat)=1)=False by simp]
  constructor
  ·rintro⟨a,b,c⟩;exact⟨i0,i1,j0,j1,by grind,by grind,by grind,by grind,fun _=>by grind,fun h=>absurd h (by decide),f0,f1,f2⟩
  ·intro h;have h1:=h.a1;have h2:=h.b0;have h3:=h.d0 rfl;exact⟨by grind,by grind,by grind⟩
 ·simp only [sqE,Nat.one_ne_zero,decide_false,if_true,if_false,show ((2:Nat)=0)=False by simp,show ((2:Nat)=1)=False by simp,Bool.false_eq_true]
  constructor
  ·rintro⟨a,b,c⟩;exact⟨i0,i1,j0,j1,by grind,by grind,by grind,by grind,fun h=>absurd h (by decide),fun _=>by grind,f0,f1,f2⟩
  ·intro h;have h1:=h.a0;have h2:=h.b1;have h3:=h.d1 rfl;exact⟨by grind,by grind,by grind⟩
theorem q3a {y:Rat} {i j:Int} {r:Nat} (hr:r < 2):hzT G x y (sqE G i j r)=plT G (sx G x) (sy G y) i j r:=by
 have hr':r=0\/r=1:=by omega
 rcases hr' with rfl | rfl <;> rfl
theorem q4F {i j:Int} {r:Nat} (hr:r < 2) (i0:0<=i) (i1:i < G.wd - 1) (j0:0<=j) (j1:j < G.ht - 1) (hf:(sqE G i j r).full=true):sqE G i j r∈Xc G:=by
 obtain⟨a,rfl⟩:∃ a:Nat,i=(a:Int):=⟨i.toNat,by omega⟩
 obtain⟨b,rfl⟩:∃ b:Nat,j=(b:Int):=⟨j.toNat,by omega⟩
 unfold Xc Zd;rw [List.mem_flatMap];refine⟨b,List.mem_range.2 (by omega),?_⟩;unfold ZV;rw [List.mem_flatMap];refine⟨a,List.mem_range.2 (by omega),?_⟩;unfold sqN;rw [List.mem_filter,List.mem_map];exact⟨⟨r,List.mem_range.2 hr,rfl⟩,hf⟩
theorem full_of {i j:Int} {r:Nat} (h0:zAt G i j≠zK) (h1:thR G i j r≠zK) (h2:zAt G (i+1) (j+1)≠zK):(sqE G i j r).full=true:=by
 unfold Tri.full sqE;simp only [Bool.and_eq_true,decide_eq_true_eq];exact⟨h0,h1,h2⟩
def G49:Grd:=⟨0,0,2,3,2,6,fun k=>if k=1\/k=4 then 6 else 0⟩
def sp3 (x y z:Int) (i:Nat):Rat:=if i=0 then (x:Rat) else if i=1 then (y:Rat) else (z:Rat)
theorem vO:zh G49=0:=by decide
theorem q2i (x:Rat):sx G49 x=x / 2:=by
 show (x - ((0:Int):Rat)) / ((2:Int):Rat)=x / 2
 have h0:((0:Int):Rat)=0:=rfl;have h2:((2:Int):Rat)=2:=rfl;rw [h0,h2]
 grind
theorem q0v:sy G49 0=0:=by decide +kernel
theorem g49_a:XN G49 1 0=some 3:=by
 refine Qn ⟨0,0,0,by omega,⟨by decide,by decide,by decide,by decide,?_,?_,?_,?_,?_,?_,by decide,by decide,by decide⟩,?_⟩ <;> decide +kernel
theorem g49_b:XN G49 2 0=some 6:=by
 refine Qn ⟨0,0,0,by omega,⟨by decide,by decide,by decide,by decide,?_,?_,?_,?_,?_,?_,by decide,by decide,by decide⟩,?_⟩ <;> decide +kernel
theorem q49:¬ q1h G49 (sp3 0 0 0) (sp3 4 0 8):=by
 intro h
 have h1:=h (1 / 2) (by decide +kernel) (by decide +kernel) 2 (by
  unfold exF;rw [show lin (sp3 0 0 0 0) (sp3 4 0 8 0) (1 / 2)=2 by decide +kernel,show lin (sp3 0 0 0 1) (sp3 4 0 8 1) (1 / 2)=0 by decide +kernel,g49_b]
  decide +kernel)
 exact absurd h1 (by decide +kernel)
theorem q5k {X h:Rat} (hs:q4n G49 X 0 h) (h0:0<=X):h<=6*X:=by
 obtain⟨i,j,r,hr,hI,hp⟩:=hs;have i0:=hI.i0;have i1:=hI.i1;have j0:=hI.j0;have j1:=hI.j1;replace i1:i < 2:=i1;replace j1:j < 1:=j1;obtain rfl:j=0:=by omega
 have hi:i=0\/i=1:=by omega
 have hr':r=0\/r=1:=by omega
 have c0:((0:Int):Rat)=0:=rfl;have c1:((1:Int):Rat)=1:=rfl;have c6:((6:Int):Rat)=6:=rfl;have e00:zAt G49 0 0=0:=by decide
 have e10:zAt G49 1 0=6:=by decide
 have e20:zAt G49 2 0=0:=by decide
 have a0:=hI.a0;have d1:=hI.d1
 rcases hr' with rfl | rfl
 ·rw [pl0] at hp
  rcases hi with rfl | rfl
  ·rw [show (0:Int)+1=1 from rfl,e00,e10] at hp
   grind
  ·rw [show (1:Int)+1=2 from rfl,e10,e20] at hp
   grind
 ·rw [pl1] at hp;have d:=d1 rfl
  rcases hi with rfl | rfl
  ·rw [e00] at hp;have:X=0:=by grind
   grind
  ·rw [e10] at hp;have:X=1:=by grind
   rw [this,c1,show (1:Rat) - 1=0 by decide +kernel,show (0:Rat) - ((0:Int):Rat)=0 by decide +kernel,Rat.zero_mul,Rat.zero_mul] at hp
   grind
theorem q4b (t:Rat):¬ VV G49 (sp3 0 0 0) (sp3 4 0 12) t:=by
 rintro⟨h0,h1,x,hx,h2⟩;unfold exF at hx;rw [Option.map_eq_some_iff] at hx;obtain⟨h,hh,rfl⟩:=hx;have e0:lin (sp3 0 0 0 0) (sp3 4 0 12 0) t=4*t:=by show (0:Rat)+t*(4 - 0)=_; grind
 have e1:lin (sp3 0 0 0 1) (sp3 4 0 12 1) t=0:=by show (0:Rat)+t*(0 - 0)=_; grind
 have e2:lin (sp3 0 0 0 2) (sp3 4 0 12 2) t=12*t:=by show (0:Rat)+t*(12 - 0)=_; grind
 rw [e0,e1] at hh;rw [e2] at h2;have hs:=vN hh
 have hs':q4n G49 (2*t) 0 h:=by
  have:=hs;rw [show kJ (4*t) G49.x0 G49.st=2*t by have:=q2i (4*t); unfold sx at this; rw [this]; grind,show kJ 0 G49.y0 G49.st=0 from q0v] at this;exact this
 have:=q5k hs' (by grind)
 grind
theorem q2S {x y:Int} (h:4<=K) (hx:0<=x/\x<=15) (hy:0<=y/\y<=15) (hz:0<=z/\z<=15) (i:Nat):Ht K (sp3 x y z i):=by
 unfold sp3
 split
 ·exact (qp (m:=4) (by omega) (by omega)).mono (by omega)
 ·split
  ·exact (qp (m:=4) (by omega) (by omega)).mono (by omega)
  ·exact (qp (m:=4) (by omega) (by omega)).mono (by omega)
theorem q2T {x y:Int} (hx:0<=x/\x<=15) (hy:0<=y/\y<=15) (hz:0<=z/\z<=15) (i:Nat) : -100000000<=sp3 x y z i/\sp3 x y z i<=100000000:=by
 have h:∀ n:Int,0<=n/\n<=15->-100000000<=(n:Rat)/\(n:Rat)<=100000000:=fun n hn=>by
  have h1:((-100000000:Int):Rat)<=(n:Rat):=Rat.intCast_le_intCast.2 (by omega);have h2:(n:Rat)<=((100000000:Int):Rat):=Rat.intCast_le_intCast.2 (by omega);exact⟨h1,h2⟩
 unfold sp3
 split
 ·exact h x hx
 ·split
  ·exact h y hy
  ·exact h z hz
theorem Y7 {c:Int} (hc:0<=c/\c<=15):SOk G49 4 (sp3 0 0 0) (sp3 4 0 c) :=
 ⟨q3c vO,fun i _=>q2S (by omega) (by omega) (by omega) (by omega) i,fun i _=>q2S (by omega) (by omega) (by omega) hc i,fun i _=>q2T (by omega) (by omega) (by omega) i,fun i _=>q2T (by omega) (by omega) hc i⟩
theorem q2w {a b:Nat->Rat} {t:Rat} (h:VV G a b t):yT G a b t=0:=by
 obtain⟨h0,h1,x,hx,h2⟩:=h;unfold yT;rw [if_pos ⟨h0,h1⟩,hx]
 show (if 0 < x then (0:Int) else 12)=0
 rw [if_pos h2]
theorem Xk {x y:Int} {x0 x1 x2 x3 y0 y1 y2 y3 z0 z1 z2 z3:Value} (h0:qm N w (.agg #[x0,x1,x2,x3]) (x:Rat)) (h1:qm N w (.agg #[y0,y1,y2,y3]) (y:Rat)) (h2:qm N w (.agg #[z0,z1,z2,z3]) (z:Rat)):PtV N w #[x0,x1,x2,x3,y0,y1,y2,y3,z0,z1,z2,z3] 0 (sp3 x y z):=jf h0 h1 h2
theorem yD (hN:N<=w.heap.size) (x y z:Int) (hx : -1000000000<=x/\x<=1000000000) (hy : -1000000000<=y/\y<=1000000000) (hz : -1000000000<=z/\z<=1000000000) :
  Calls Tryz.prog 25 #[.int .i64 x,.int .i64 y,.int .i64 z] w (Jk N w (sp3 x y z)):=by
 go_enter Tryz.func25,Tryz.ntmps25;go_upto_region 1 with (fail);refine ql ?_;intro W hE hsz B0;refine wp_region_lit ?_;go_wp2_with (go_at_call 45; refine q_o ?_);refine (qB (N:=N) (by omega) x (by omega) (by omega)).mono ?_;rintro e w1 ⟨v,rfl,hv,e1⟩;obtain⟨ba,Aa,ka,ca,A'a,k'a,c'a,rfl,-,-,-⟩:=hv.parts;have hs1:=e1.size;go_wp2_with (go_at_call 45; refine q_o ?_);refine (qB (N:=N) (by omega) y (by omega) (by omega)).mono ?_;rintro e w2 ⟨v,rfl,hv2,e2⟩;obtain⟨bb,Ab,kb,cb,A'b,k'b,c'b,rfl,-,-,-⟩:=hv2.parts;have hs2:=e2.size;go_wp2_with (go_at_call 45; refine q_o ?_);refine (qB (N:=N) (by omega) z (by omega) (by omega)).mono ?_;rintro e w3 ⟨v,rfl,hv3,e3⟩;obtain⟨bd,Ad,kd,cd,A'd,k'd,c'd,rfl,-,-,-⟩:=hv3.parts
 rename_i K9 hK9
 refine hK9 _ _ ?_;clear hK9 K9;try simp only [nr]
 replace hE:=((hE.trans e1).trans e2).trans e3;replace B0:=e3.block (e2.block (e1.block B0));have hPT:=Xk ((hv.ext e2).ext e3) (hv2.ext e3) hv3;clear hv hv2 hv3 e1 e2 e3;refine kW rfl _ _ rfl (l:=[(0,.agg #[.bool ba,.slice Aa ka ca,.bool false,.slice A'a k'a c'a]),(1,.agg #[.bool bb,.slice Ab kb cb,.bool false,.slice A'b k'b c'b]),(2,.agg #[.bool bd,.slice Ad kd cd,.bool false,.slice A'd k'd c'd])]) (by simp only [List.map_toArray,List.map_cons,List.map_nil]; rfl) (yF _ _ _ _ _ _ _ _ _ _ _ _) ?_;obtain⟨cs,hcs⟩:=qf (#[.bool ba,.slice Aa ka ca,.bool false,.slice A'a k'a c'a,.bool bb,.slice Ab kb cb,.bool false,.slice A'b k'b c'b,.bool bd,.slice Ad kd cd,.bool false,.slice A'd k'd c'd]:Array Value);have k1:cs.size=12:=by rw [hcs.out]; rfl
 have k2:cs.toList.all (·.oneCell')=true:=by rw [hcs.out]; rfl
 rw [<-hcs.out] at hPT ⊢;have KK:=q_h k1;clear hcs k1;refine qY rfl 43 _ _ rfl (by rfl) (by rfl) B0 qE KK.out (Eq.trans ((by rfl:Array.size _=12)) (Eq.symm (KK.out))) k2 ?_;try simp only [nr]
 intro w4 D4 U4;have C4:=U4.chg (NoU.mk B0 (by decide));have HF:Hid (Jk N w (sp3 x y z) (.returned (.agg cs)) w4):=⟨cs,rfl,KK.out,k2,fun i hi=>(hPT i hi).chg C4 (by omega),U4.ext hE (by omega)⟩
 have hz:(Tryz.prog.info? 43).map (·.size)=some cs.size:=by rw [KK.out]; exact qE
 clear hPT U4 C4 B0 k2;refine wpList_nil ?_;go_wp2;exact bodyPost_ret (results_cell_row rfl _ _ _ _ _ _ _ rfl D4 Tryz.underlying43 rfl hz) rfl HF.out
def Mn.pl (N:Nat) (x y:Rat):Mn:=⟨fun v w=>PlV N w v (raw x) (raw y),fun e h=>by
 obtain⟨x0,x1,x2,x3,y0,y1,y2,y3,h0,h1,h2⟩:=h
 exact⟨x0,x1,x2,x3,y0,y1,y2,y3,h0,h1.ext e,h2.ext e⟩⟩
def Mn.bl (N:Nat) (G:Grd) (a b:Nat->Rat) (K:Nat):Mn:=⟨fun v w=>∃ u t,v=.tuple #[.bool false,u,.int .i64 0]/\qm N w u t/\Ht K t/\VV G a b t,fun e h=>by
 obtain⟨u,t,h0,h1,h2⟩:=h
 exact⟨u,t,h0,h1.ext e,h2⟩⟩
def Mn.blt (N:Nat) (G:Grd) (a b:Nat->Rat) (K:Nat):Mn:=⟨fun v w=>∃ t,qm N w v t/\Ht K t/\VV G a b t,fun e h=>by
 obtain⟨t,h1,h2⟩:=h
 exact⟨t,h1.ext e,h2⟩⟩
def Mn.cl (N:Nat):Mn:=⟨fun v w=>∃ u,v=.tuple #[.bool true,u,.int .i64 0]/\qm N w u 0,fun e h=>by
 obtain⟨u,h0,h1⟩:=h
 exact⟨u,h0,h1.ext e⟩⟩
theorem VI {vg vp:Value} (h:yg N lo hi w vg G49) (hp:PlV N w vp (raw ((1:Int):Rat)) (raw ((0:Int):Rat))) (hN:N<=w.heap.size) :
  Calls Tryz.prog 12 #[vg,vp] w (fun e w'=>∃ v,e=.returned (.tuple #[v,.int .i64 0])/\qm N w' v ((3:Int):Rat)/\Ext w w'):=by
 have hh:=q1V (K:=4) h vO hp hN (qp (m:=1) (by decide) (by decide) |>.mono (by omega)) (qp (m:=1) (by decide) (by decide) |>.mono (by omega)) (by omega) (by decide +kernel) (by decide +kernel);have e:XN G49 ((1:Int):Rat) ((0:Int):Rat)=some ((3:Int):Rat):=g49_a;rw [e] at hh;exact hh
theorem q57 {vg:Value} {ca cb:Array Value} (h:yg N lo hi w vg G49) (hN:N<=w.heap.size) (a2:ca.size=12) (a3:ca.toList.all (·.oneCell')=true) (a4:PtV N w ca 0 (sp3 0 0 0)) (b2:cb.size=12) (b3:cb.toList.all (·.oneCell')=true) (b4:PtV N w cb 0 (sp3 4 0 8)) :
  Calls Tryz.prog 20 #[vg,.agg ca,.agg cb] w (fun e w'=>∃ u t,e=.returned (.tuple #[.bool false,u,.int .i64 0])/\qm N w' u t/\Ht (456*4+24000) t/\VV G49 (sp3 0 0 0) (sp3 4 0 8) t/\Ext w w'):=by
 refine (WT h vO (Y7 (c:=8) (by omega)) (by omega) hN ⟨a4,a2,a3⟩ ⟨b4,b2,b3⟩).mono ?_;rintro e w' ⟨is,v,t,rfl,hv,hk,h1,h2,e'⟩;cases is with
 | true=>exact absurd (h1 rfl).1 q49
 | false=>exact⟨v,t,rfl,hv,hk,h2 rfl,e'⟩
theorem q56 {vg:Value} {ca cb:Array Value} (h:yg N lo hi w vg G49) (hN:N<=w.heap.size) (a2:ca.size=12) (a3:ca.toList.all (·.oneCell')=true) (a4:PtV N w ca 0 (sp3 0 0 0)) (b2:cb.size=12) (b3:cb.toList.all (·.oneCell')=true) (b4:PtV N w cb 0 (sp3 4 0 12)) :
  Calls Tryz.prog 20 #[vg,.agg ca,.agg cb] w (fun e w'=>∃ u,e=.returned (.tuple #[.bool true,u,.int .i64 0])/\qm N w' u 0/\Ext w w'):=by
 refine (WT h vO (Y7 (c:=12) (by omega)) (by omega) hN ⟨a4,a2,a3⟩ ⟨b4,b2,b3⟩).mono ?_;rintro e w' ⟨is,v,t,rfl,hv,hk,h1,h2,e'⟩;cases is with
 | true =>
  have:=(h1 rfl).2;subst this;exact⟨v,rfl,hv,e'⟩
 | false=>exact absurd (h2 rfl) (q4b t)
theorem JW {vg vt:Value} {ca cb:Array Value} {t:Rat} (h:yg N lo hi w vg G49) (a2:ca.size=12) (a3:ca.toList.all (·.oneCell')=true) (a4:PtV N w ca 0 (sp3 0 0 0)) (b2:cb.size=12) (b3:cb.toList.all (·.oneCell')=true) (b4:PtV N w cb 0 (sp3 4 0 8)) (ht:qm N w vt t) (hk:Ht (456*4+24000) t) (hb:VV G49 (sp3 0 0 0) (sp3 4 0 8) t) :
  Calls Tryz.prog 18 #[vg,.agg ca,.agg cb,vt] w (zX w (.int .i64 0)):=by
 have h0:=WU h vO ((Y7 (c:=8) (by omega)).mono (K':=456*4+24000) (by omega)) hk (by omega) ⟨a4,a2,a3⟩ ⟨b4,b2,b3⟩ ht;rw [q2w hb] at h0;exact h0
end Go.Proofs.YtphpkhoeplcedaaGreat
