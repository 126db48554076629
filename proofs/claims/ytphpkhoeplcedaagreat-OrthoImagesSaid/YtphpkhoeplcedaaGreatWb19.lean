import Derived.Test.YtphpkhoeplcedaaGreatWb18
set_option linter.all false
set_option maxHeartbeats 8000000
set_option maxRecDepth 100000
namespace Go.Proofs.YtphpkhoeplcedaaGreat
open Go.RowKit
variable {w w':World} {N n lo hi k g i base c b K:Nat} {v:Value} {G:Grd} {q x:Rat} {z:Int} {R:Raw} {A:Option Addr}
theorem q34 {b:Bool} (hb:Hid (b=decide (z < 0))) (h:Gs N w (.slice A n c) (dg z.natAbs)):okB b (dg z.natAbs)=true:=by
 have h1:=kT ((z:Int):Rat);unfold okR raw at h1;simp only [Bool.and_eq_true] at h1;have h2:=h1.1.1.1;rw [Rat.num_intCast] at h2;rw [hb.out];exact h2
theorem XJ {b:Bool} (hb:Hid (b=decide (z < 0))) (h:Gs N w (.slice A n c) (dg z.natAbs)) :
  Calls Tryz.prog 211 #[.agg #[.bool b,.slice A n c]] w (zG w (.agg #[.bool b,.slice A n c])):=by
 have hI:=h;have HB:=q_h (q34 hb h);clear h hb;go_enter Tryz.func211,Tryz.ntmps211;go_wp2_with (go_at_call 147; refine q_o ?_);refine kL ?_;intro W hE hsz B0 B1;refine (Kt (hI.ext hE)).mono ?_;rintro e w1 ⟨rfl,e1⟩;rw [HB.out];replace hE:=hE.trans e1;replace B0:=e1.block B0;replace B1:=e1.block B1;obtain⟨a0,a1,-,-⟩:=cells2 B0;obtain⟨b0,b1,b2,b3⟩:=cells2 B1;go_wp2;obtain⟨w12,E12,F2,U⟩:=ex2 B1 (.bool b) (.slice A n c);rw [E12];obtain⟨z0,z1,-,-⟩:=cells2 F2;refine bodyPost_ret (v:=.agg #[.bool b,.slice A n c]) ?_ rfl ⟨rfl,U.ext hE (by omega)⟩;simp [results,Tryz.results211,z0,z1,go_sem]
theorem f_new {v':Value} {x y:Int} (h:qU N w v x) (h':qU N w v' y) (hy:y≠0) (hL:ln x.natAbs<=10000000000) (hL':ln y.natAbs<=10000000000) :
  Calls Tryz.prog 171 #[v,v'] w (XZ N w (Rat.divInt x y)):=by
 obtain⟨q,hq⟩:=qf (Rat.divInt x y);rw [<-hq.out];have hI:=h;have hI':=h';obtain⟨n1,A1,k1,c1,rfl,Hn1,hs,-⟩:=h.parts;obtain⟨n2,A2,k2,c2,rfl,Hn2,hs',-⟩:=h'.parts;have hN:=hs.le;have HY:=q_h hy;have HLx:=q_h hL;have HLy:=q_h hL';obtain⟨sy,hsy⟩:=qf y.sign
 have t1:(sy == 0)=false:=by
  have:sy≠0:=by rw [hsy.out]; intro e; exact hy (Int.sign_eq_zero_iff_zero.1 e)
  simpa using this
 clear hy hL hL' h h';go_enter Tryz.func171,Tryz.ntmps171;go_upto_region 1 with (fail);refine zK ?_;intro W hE hsz B0 B1 B2;obtain⟨a0,a1,a2,a3⟩:=cells2 B0;obtain⟨b0,b1,b2,b3⟩:=cells2 B1;refine jE [Mn.eq (.agg #[.bool n1,.slice A1 k1 c1]),Mn.eq (.agg #[.bool n1,.slice A1 k1 c1]),Mn.eq (.agg #[.bool n2,.slice A2 k2 c2]),Mn.eq (.agg #[.bool n2,.slice A2 k2 c2]),Mn.any,Mn.any] [some 6,some 7,some 8,some 9,none,none] [4,5] (rQ 4 2) 2 (by kernel_rfl) ?_ ?_
 ·show ∀ i,i < 6->_
  iterate 6 refine fs ?_ ?_
  ·exact fz
  all_goals intro hl; first | exact absurd hl (by decide) | (clear hl; refine stp rfl ?_; intro ac wi eI hB hA K hK)
  have o2:=oOf (hB 2) rfl;have cc0:=eI.cell a0;have cc1:=eI.cell a1
  rotate_left
  obtain⟨_,s6,rfl⟩:=hA 0 6;clear hB hA
  ·go_simp;refine (XJ Hn1 ((hs.ext hE).ext eI)).mono ?_;rintro e wj ⟨rfl,ej⟩;go_wp2_with fail;exact hK.out _ _ ej rfl
  have o3:=oOf (hB 3) rfl;have cc0:=eI.cell b0;have cc1:=eI.cell b1
  rotate_left
  obtain⟨_,s8,rfl⟩:=hA 2 8;clear hB hA
  ·go_simp;refine (XJ Hn2 ((hs'.ext hE).ext eI)).mono ?_;rintro e wj ⟨rfl,ej⟩;go_wp2_with fail;exact hK.out _ _ ej rfl
  all_goals clear hB hA; go_simp; exact q_k hK rfl
 intro vals wz eZ hJ;have J7:vals 1=_:=hJ 1 (by decide) (by decide);have J9:vals 3=_:=hJ 3 (by decide) (by decide);clear hJ;simp only [pr,Nat.reduceAdd,J7,J9];clear J7 J9;replace B0:=eZ.block B0;replace B1:=eZ.block B1;replace B2:=eZ.block B2;clear a0 a1 a2 a3 b0 b1 b2 b3;obtain⟨a0,a1,a2,a3⟩:=cells2 B0;obtain⟨b0,b1,b2,b3⟩:=cells2 B1;refine qh (i:=4) rfl (by kernel_rfl) (by kernel_rfl) (fun K hK=>?_);go_simp;refine hK.out _ _ ?_;clear hK K;try simp only [nr]
 refine qh (i:=5) rfl (by kernel_rfl) (by kernel_rfl) (fun K hK=>?_);go_simp;refine hK.out _ _ ?_;clear hK K;try simp only [nr]
 refine qi (by kernel_rfl) ?_ _;obtain⟨w3,E3,F0,U3⟩:=ex2 B0 (.bool n1) (.slice A1 k1 c1);rw [E3];obtain⟨w4,E4,F1,U4⟩:=ex2 (U3.blk B1 (by omega)) (.bool n2) (.slice A2 k2 c2);rw [E4];replace F0:=U4.blk F0 (by omega);replace B2:=U4.blk (U3.blk B2 (by omega)) (by omega);replace hE:=U4.ext (U3.ext (hE.trans eZ) (by omega)) (by omega);clear E3 E4 U3 U4 B0 B1 a0 a1 a2 a3 b0 b1 b2 b3 eZ;obtain⟨a0,a1,a2,a3⟩:=cells2 F0;obtain⟨b0,b1,b2,b3⟩:=cells2 F1;go_wp2_with (go_at_call 110; refine q_o ?_);refine (QO (hI'.ext hE)).mono ?_;rintro e w1 ⟨rfl,e1⟩;rw [<-hsy.out];replace hE:=hE.trans e1;replace F0:=e1.block F0;replace F1:=e1.block F1;replace B2:=e1.block B2;clear a0 a1 a2 a3 b0 b1 b2 b3;obtain⟨a0,a1,-⟩:=cells2 F0;obtain⟨b0,b1,-⟩:=cells2 F1;go_wp2_with (go_at_call 199; refine q_o ?_);refine (jK (hI.ext hE) (hI'.ext hE) HY.out HLx.out HLy.out).mono ?_;rw [<-hq.out];intro e w2 hh;obtain⟨n3,A3,k3,c3,A4,k4,c4,rfl,hb3,g3,g4,e2⟩:=hh.form;replace hE:=hE.trans e2;replace B2:=e2.block B2;obtain⟨r0,r1,r2,r3,r4,r5,r6,r7⟩:=cells4 B2;go_wp2;obtain⟨w12,E12,F2,U⟩:=ex4 B2 (.bool n3) (.slice A3 k3 c3) (.bool false) (.slice A4 k4 c4);rw [E12];obtain⟨z0,z1,z2,z3,-⟩:=cells4 F2;refine bodyPost_ret (v:=.tuple #[.agg #[.bool n3,.slice A3 k3 c3,.bool false,.slice A4 k4 c4],.int .i64 0]) ?_ rfl ⟨_,rfl,qp.mk hb3 (g3.upd U (by omega) (NoU.mk B2 (by decide))) (g4.upd U (by omega) (NoU.mk B2 (by decide))),U.ext hE (by omega)⟩
 simp [results,Tryz.results171,z0,z1,z2,z3,go_sem]
theorem YB {n:Int} (h1 : -9223372036854775808<=n) (h2:n<=9223372036854775807):ln n.natAbs<=10000000000 :=
 q_l (qG (k:=3) (by unfold bs; show n.natAbs < 1000000000000000000000000000; omega)) (by omega)
theorem r2_of (hN:N<=w.heap.size) (n d:Int) (h1 : -9223372036854775808<=n) (h2:n<=9223372036854775807) (h3 : -9223372036854775808<=d) (h4:d<=9223372036854775807) (hd:d≠0) :
  Calls Tryz.prog 22 #[.int .i64 n,.int .i64 d] w (XZ N w (Rat.divInt n d)):=by
 obtain⟨q,hq⟩:=qf (Rat.divInt n d);rw [<-hq.out];have HD:=q_h hd;clear hd;go_enter Tryz.func22,Tryz.ntmps22;go_wp2_with (go_at_call 65; refine q_o ?_);refine qF ?_;intro W hE hsz B0;refine (yT (N:=N) (by omega) n h1 h2).mono ?_;rintro e w1 ⟨v1,rfl,i1,e1⟩;obtain⟨b5,A5,k5,c5,rfl,hb5,g5,-⟩:=i1.parts;go_wp2_with (go_at_call 65; refine q_o ?_);refine (yT (N:=N) (by have:=e1.size; omega) d h3 h4).mono ?_;rintro e w2 ⟨v2,rfl,i2,e2⟩;obtain⟨b6,A6,k6,c6,rfl,hb6,g6,-⟩:=i2.parts;go_wp2_with (go_at_call 64; refine q_o ?_);refine (q2i (i1.ext e2) i2 HD.out (YB h1 h2) (YB h3 h4)).mono ?_;rw [<-hq.out];rintro e w3 ⟨v3,rfl,hv3,e3⟩;obtain⟨n3,A3,k3,c3,A4,k4,c4,rfl,hb3,g3,g4⟩:=qp.parts hv3;replace hE:=((hE.trans e1).trans e2).trans e3;have B2:=e3.block (e2.block (e1.block B0));obtain⟨r0,r1,r2,r3,r4,r5,r6,r7⟩:=cells4 B2;go_wp2;obtain⟨w12,E12,F2,U⟩:=ex4 B2 (.bool n3) (.slice A3 k3 c3) (.bool false) (.slice A4 k4 c4);rw [E12];obtain⟨z0,z1,z2,z3,-⟩:=cells4 F2;refine bodyPost_ret (v:=.tuple #[.agg #[.bool n3,.slice A3 k3 c3,.bool false,.slice A4 k4 c4],.int .i64 0]) ?_ rfl ⟨_,rfl,qp.mk hb3 (g3.upd U (by omega) (NoU.mk B2 (by decide))) (g4.upd U (by omega) (NoU.mk B2 (by decide))),U.ext hE (by omega)⟩;simp [results,Tryz.results22,z0,z1,z2,z3,go_sem]
theorem f_of (hN:N<=w.heap.size) (n d:Int) (h1 : -9223372036854775808<=n) (h2:n<=9223372036854775807) (h3 : -9223372036854775808<=d) (h4:d<=9223372036854775807) (hd:d≠0) :
  Calls Tryz.prog 117 #[.int .i64 n,.int .i64 d] w (XZ N w (Rat.divInt n d)):=by
 obtain⟨q,hq⟩:=qf (Rat.divInt n d);rw [<-hq.out];have HD:=q_h hd;clear hd;go_enter Tryz.func117,Tryz.ntmps117;go_wp2_with (go_at_call 149; refine q_o ?_);refine qF ?_;intro W hE hsz B0;refine (q4v (N:=N) (by omega) n h1 h2).mono ?_;rintro e w1 ⟨v1,rfl,i1,e1⟩;obtain⟨b5,A5,k5,c5,rfl,hb5,g5,-⟩:=i1.parts;go_wp2_with (go_at_call 149; refine q_o ?_);refine (q4v (N:=N) (by have:=e1.size; omega) d h3 h4).mono ?_;rintro e w2 ⟨v2,rfl,i2,e2⟩;obtain⟨b6,A6,k6,c6,rfl,hb6,g6,-⟩:=i2.parts;go_wp2_with (go_at_call 171; refine q_o ?_);refine (f_new (i1.ext e2) i2 HD.out (YB h1 h2) (YB h3 h4)).mono ?_;rw [<-hq.out];rintro e w3 ⟨v3,rfl,hv3,e3⟩;obtain⟨n3,A3,k3,c3,A4,k4,c4,rfl,hb3,g3,g4⟩:=qp.parts hv3;replace hE:=((hE.trans e1).trans e2).trans e3;have B2:=e3.block (e2.block (e1.block B0));obtain⟨r0,r1,r2,r3,r4,r5,r6,r7⟩:=cells4 B2;go_wp2;obtain⟨w12,E12,F2,U⟩:=ex4 B2 (.bool n3) (.slice A3 k3 c3) (.bool false) (.slice A4 k4 c4);rw [E12];obtain⟨z0,z1,z2,z3,-⟩:=cells4 F2;refine bodyPost_ret (v:=.tuple #[.agg #[.bool n3,.slice A3 k3 c3,.bool false,.slice A4 k4 c4],.int .i64 0]) ?_ rfl ⟨_,rfl,qp.mk hb3 (g3.upd U (by omega) (NoU.mk B2 (by decide))) (g4.upd U (by omega) (NoU.mk B2 (by decide))),U.ext hE (by omega)⟩;simp [results,Tryz.results117,z0,z1,z2,z3,go_sem]
theorem SOk.mono {K':Nat} {a b:Nat->Rat} (h:SOk G K a b) (hk:K<=K'):SOk G K' a b:=⟨h.g,fun i hi=>(h.ka i hi).mono hk,fun i hi=>(h.kb i hi).mono hk,h.ba,h.bb⟩
def RetBl (N:Nat) (w:World) (G:Grd) (K:Nat) (a b:Nat->Rat) (e:Ending) (w':World):Prop :=
 (∃ v t,e=.returned (.tuple #[v,.bool true])/\qp N w' v t/\q0q G a b t/\Ht (456*K+24000) t/\Ext w w')\/(e=.returned (.tuple #[jd,.bool false])/\clrF G a b/\Ext w w')
def q3Z (G:Grd) (a b:Nat->Rat) (s:Rat):Prop:=∀ t,0 < t->t < s->t < 1->∀ x,exF G a b t=some x->x<=0
def PtC (G:Grd) (a b:Nat->Rat) (s:Rat):Prop:=0 < s->s < 1->∀ x,exF G a b s=some x->x<=0
theorem q3Z.next {a b:Nat->Rat} {s e:Rat} (h:q3Z G a b s) (hp:PtC G a b s) (h':ClrB G a b s e):q3Z G a b e:=q1S (q4U h hp) h'
theorem q2y {o:Nat} {x0 x1 x2 x3:Value} (h:qp N w (.agg #[x0,x1,x2,x3]) q) (h0:w.cell? ⟨b,o,none⟩=some x0) (h1:w.cell? ⟨b,o+1,none⟩=some x1) (h2:w.cell? ⟨b,o+2,none⟩=some x2) (h3:w.cell? ⟨b,o+3,none⟩=some x3):At4 N w b o (raw q):=by
 obtain⟨s,t,e,g1,g2⟩:=h;injection e with e
 simp only [Array.mk.injEq,List.cons.injEq,and_true] at e;obtain⟨rfl,rfl,rfl,rfl⟩:=e;exact⟨_,_,h0,h1,h2,h3,g1,g2⟩
theorem q4A (c m x f:Rat):c+1 / 2*(x / (x - f))*(m - c)=JV c m x f:=rfl
theorem q42 {f:Rat} (h:0 < x) (h':f<=0):x - f≠0:=by grind
theorem q4j {s e m:Rat} (h:s < e) (hm:m=1 / 2*(s+e)):s < m/\m < e:=by constructor <;> grind
theorem le_lt {a b c:Rat} (h:a<=b) (h':b < c):a < c:=by grind
theorem lt_le {a b c:Rat} (h:a < b) (h':b<=c):a < c:=by grind
theorem lt_nn {a b c:Rat} (h:a<=b) (h':b < c):a<=c:=by grind
theorem q3s:Rat.divInt 1 2=(1 / 2:Rat):=by decide +kernel
theorem Kw:Ht 2 (1 / 2:Rat):=by constructor <;> decide +kernel
theorem q38 {ca:Array Value} {a b:Nat->Rat} (hs:q0K N lo hi w ca G a b) (hok:SOk G K a b) (hK:K<=150) :
  Calls Tryz.prog 63 #[.agg ca] w (RetBl N w G K a b):=by
 have hN:=hs.le;have HS:=q_h hs;have HO:=q_h hok;have SZ:=q_h hs.size;clear hs hok;go_enter Tryz.func63,Tryz.ntmps63;go_upto_region 1 with (fail);refine zT ?_;intro W hE hsz B0 B1;refine wp_region_lit ?_;refine wpList_load_row rfl 116 _ rfl _ (by rfl) _ ca _ _ B0 Tryz.underlying116 rfl (by rw [SZ.out]; exact vk) ?_;try simp only [nr]
 go_wp2_with (go_at_call 116; refine q_o ?_);refine (JH (HS.out.ext hE) HO.out (by omega)).mono ?_;rintro e w1 ⟨g,cap,n,l,rfl,hrow,hcm,hn4,hcrs,hlk,e1⟩
 rename_i K9 hK9
 refine hK9 _ _ ?_;clear hK9 K9;try simp only [nr]
 have HROW:=q_h hrow;have HCR:=q_h hcrs;have HLK:=q_h hlk;have hn2:=hcrs.n2;have hncap:=hrow.2.1;unfold maxLen at hcm;replace B0:=e1.block B0;replace B1:=e1.block B1;replace hE:=hE.trans e1;have hs1:w.heap.size+2<=w1.heap.size:=q_l hsz e1.size;clear hrow hcrs hlk e1 hsz;refine wpList_plain rfl (fun K hK=>?_);go_simp;refine hK _ _ ?_;clear hK K;try simp only [nr]
 refine wpList_nil ?_;go_wp2_with (go_at_call 117; refine q_o ?_);refine (f_of (N:=N) (by omega) 1 2 (by omega) (by omega) (by omega) (by omega) (by decide)).mono ?_;rintro e w2 ⟨v2,rfl,hv2,e2⟩;obtain⟨b3,A3,k3,c3,A4,k4,c4,rfl,hb3,gw5,gw6⟩:=qp.parts hv2;go_upto_region 3 with (fail);refine ql ?_;intro w3 e3 hsz3 BH;obtain⟨gH,hgH⟩:∃ gH,gH=w2.heap.size:=⟨_,rfl⟩
 rw [<-hgH] at BH ⊢;have hgH1:w.heap.size+2<=gH:=by have:=e2.size; omega
 have HBH:Hid (Ji N w3 gH (1 / 2)):=by rw [Hid,<-q3s]; exact Ji.mk BH hb3 (gw5.ext e3) (gw6.ext e3)
 replace HROW:Hid (xG N w3 g cap n l):=(HROW.out.ext e2).ext e3;have HB0:=q_h (e3.block (e2.block B0));have HB1:=q_h (e3.block (e2.block B1));replace hE:=(hE.trans e2).trans e3;have hN3:N<=w3.heap.size:=by have:=hE.size; omega
 clear hgH BH gw5 gw6 hb3 e2 e3 hv2 B0 B1 hs1 hsz3;go_wp2
 go_loopw [27] (fun iv wr=>∃ i:Nat,i < n/\iv=.int .i64 (i:Int)/\Hid (q3Z G a b (l i))/\Ext w3 wr) (fun iv _=>n - (intOf iv).toNat)
 case atStart=>exact⟨0,by omega,rfl,fun t h0 h1=>absurd h1 (by rw [HCR.out.first]; grind),Ext.refl _⟩
 case round =>
  obtain⟨i,hin,rfl,HPRE,hEr⟩:=hrel;have t1:decide ((i:Int) < (n:Int))=true:=q_t (by omega);have hsr:=hEr.size;obtain⟨np,Ap,kp,cp,A'p,k'p,c'p,p0,p1,p2,p3,hRp⟩:=((HROW.out.ext hEr).2.2.2 i hin).opn;obtain⟨li,hli⟩:=qf (l i);rw [<-hli.out] at hRp HPRE;go_upto_region 6 with (fail);refine ql ?_;intro w5 e5 hsz5 B8;obtain⟨g8,hg8⟩:∃ g8,g8=wr.heap.size:=⟨_,rfl⟩
  rw [<-hg8] at B8 ⊢;have hg8l:w3.heap.size<=g8:=by omega
  have hR8:=hRp.ext e5;have hE5:Ext w3 w5:=hEr.trans e5;have hg85:g8 < w5.heap.size:=qI B8;have HB8:=q_h B8;have HR8:=q_h hR8;clear p0 p1 p2 p3 hg8 B8 hRp e5 hsz5 t1 hR8 hsr hEr;have HLI:Hid (Ht (6*K+300) li):=by rw [hli.out]; exact HLK.out i hin
  have HL01:Hid (0<=li/\li<=1):=by
   rw [hli.out];have h0:=HCR.out.mono (i:=0) (j:=i) (by omega) hin;have h1:=HCR.out.mono (i:=i) (j:=n - 1) (by omega) (by omega);rw [HCR.out.first] at h0;rw [HCR.out.last] at h1;exact⟨h0,h1⟩
  have hwn:IntKind.i64.wrap ((n:Int) - 1)=(n:Int) - 1:=IntWalk.i64_in _ (by omega);have HKM:=q_h (HO.out.mono (K':=12*K+603) (by omega))
  go_cut [40] (fun v wx=>v=.bool (decide (0 < i/\i+1 < n))/\wx=w5)
  case first =>
   by_cases hi0:0 < i
   ·have q1:decide (0 < (i:Int))=true:=q_t (by omega)
    by_cases hi1:i+1 < n
    ·have q2:decide ((i:Int) < (n:Int) - 1)=true:=q_t (by omega);have q3:decide (0 < i/\i+1 < n)=true:=decide_eq_true ⟨hi0,hi1⟩;go_wp2_with fail
     go_meet
     exact⟨by rw [q3],rfl⟩
    ·have q2:decide ((i:Int) < (n:Int) - 1)=false:=q_f (by omega);have q3:decide (0 < i/\i+1 < n)=false:=q_f (fun h=>hi1 h.2);go_wp2_with fail
     go_meet
     exact⟨by rw [q3],rfl⟩
   ·have q1:decide (0 < (i:Int))=false:=q_f (by omega);have q3:decide (0 < i/\i+1 < n)=false:=q_f (fun h=>hi0 h.1);go_wp2_with fail
    go_meet
    exact⟨by rw [q3],rfl⟩
  obtain⟨rfl,rfl⟩:=hcut;obtain⟨tb,htb⟩:=qf (decide (0 < i/\i+1 < n));rw [<-htb.out];obtain⟨w5,hw5⟩:∃ w5,w5=wc:=⟨_,rfl⟩
  subst hw5
  go_upto_if 40 with (fail)
  go_cut [] (fun wx=>Ext w5 wx/\Hid (PtC G a b li))
  case first =>
   cases tb with
   | false =>
    have HPT:Hid (PtC G a b li):=by
     intro h0 h1
     exfalso
     have h2:=of_decide_eq_false htb.out.symm
     rcases Nat.eq_zero_or_pos i with h3 | h3
     ·rw [hli.out,h3,HCR.out.first] at h0;exact absurd h0 (by decide)
     ·have h4:i=n - 1:=by omega
      rw [hli.out,h4,HCR.out.last] at h1;exact absurd h1 (by decide)
    clear htb;go_wp2_with fail
    go_meet
    exact⟨Ext.refl _,HPT⟩
   | true =>
    have hib:=of_decide_eq_true htb.out.symm;have HLP:Hid (0 < li/\li < 1):=by rw [hli.out]; exact⟨HCR.out.pos hib.1 hin,HCR.out.lt1 hib.2⟩
    clear htb hib;go_upto_region 7 with (fail);obtain⟨o,ho⟩:=qf (exF G a b li);have B0c:=hE5.block HB0.out;obtain⟨x0,x1,x2,x3,-⟩:=cells4 HB8.out;refine wp_region_lit ?_;refine wpList_load_row rfl 116 _ rfl _ (by rfl) _ ca _ _ B0c Tryz.underlying116 rfl (by rw [SZ.out]; exact vk) ?_;try simp only [nr]
    go_wp2_with (go_at_call 62; refine q_o ?_);refine (Qq (HS.out.ext (hE.trans hE5)) (HR8.out) HKM.out ((HLI.out.mono (by omega))) (by omega) (HL01.out.1) (HL01.out.2)).mono ?_;rw [<-ho.out];rintro e w7 ⟨v7,q7,rfl,hq7,hv7,e7⟩;have HQ:=q_h hq7;obtain⟨bv,Av,kv,cv,A'v,k'v,c'v,rfl,hbv,yv,zv⟩:=qp.parts hv7;clear hq7 x0 x1 x2 x3 B0c;go_upto_region 8 with (fail);refine ql ?_;intro w9 e9 hsz9 B9;obtain⟨g9,hg9⟩:∃ g9,g9=w7.heap.size:=⟨_,rfl⟩
    rw [<-hg9] at B9 ⊢;have HV:=q_h (hv7.ext e9);clear hg9 hv7 yv zv hsz9;cases o with
    | none =>
     have HPT:Hid (PtC G a b li):=fun _ _ x hx=>by rw [<-ho.out] at hx; cases hx
     clear ho HV B9;go_wp2_with fail
     go_meet
     exact⟨e7.trans e9,HPT⟩
    | some x =>
     obtain rfl:=HQ.out x rfl;have hxk:=q1I HO.out.g HKM.out.ka HKM.out.kb (HLI.out.mono (by omega)) ho.out.symm;have HXZ:Hid (Sz x):=hxk.sz (by omega);obtain⟨sx',hsx⟩:=qf x.num.sign;obtain⟨y0,y1,y2,y3,-⟩:=cells4 B9
     by_cases hx0:0 < x
     ·have p1:decide (0 < sx')=true:=q_t (by rw [hsx.out]; exact zi.2 hx0);have HBK:Hid (q0q G a b li):=⟨HLP.out.1,HLP.out.2,x,ho.out.symm,hx0⟩
      go_wp2_with (go_at_call 59; refine q_o ?_);refine (kY HV.out HXZ.out).mono ?_;rw [<-hsx.out];rintro e wA ⟨rfl,eA⟩;clear y0 y1 y2 y3;have hEA:=((hE5.trans e7).trans e9).trans eA;have B8A:=((e7.trans e9).trans eA).block HB8.out;have B1A:=hEA.block HB1.out;obtain⟨x0,x1,x2,x3,-⟩:=cells4 B8A;obtain⟨z0,z1,z2,z3,z4,z5,z6,z7⟩:=cells4 B1A;go_wp2;obtain⟨wR,ER,FR,UR⟩:=ex4 B1A (.bool np) (.slice Ap kp cp) (.bool false) (.slice A'p k'p c'p);rw [ER];have hTR:=NoU.mk B1A (by decide);obtain⟨v0,v1,v2,v3,-⟩:=cells4 FR;refine bodyPost_ret (v:=.tuple #[.agg #[.bool np,.slice Ap kp cp,.bool false,.slice A'p k'p c'p],.bool true]) ?_ rfl ?_
      ·simp [results,Tryz.results63,v0,v1,v2,v3,go_sem]
      exact .inl ⟨_,li,rfl,(HR8.out.ext ((e7.trans e9).trans eA)).upd UR (by omega) hTR,HBK.out,HLI.out.mono (by omega),UR.ext (hE.trans hEA) (by omega)⟩
     ·have p1:decide (0 < sx')=false:=q_f (by rw [hsx.out]; exact fun h=>hx0 (zi.1 h))
      have HPT:Hid (PtC G a b li):=fun _ _ z hz=>by
       rw [<-ho.out] at hz;cases hz
       exact Rat.not_lt.1 hx0
      clear hx0;go_wp2_with (go_at_call 59; refine q_o ?_);refine (kY HV.out HXZ.out).mono ?_;rw [<-hsx.out];rintro e wA ⟨rfl,eA⟩;clear y0 y1 y2 y3;go_wp2_with fail
      go_meet
      exact⟨(e7.trans e9).trans eA,HPT⟩
  obtain⟨e6,HPT⟩:=hcut;obtain⟨w6,hw6⟩:∃ w6,w6=wc:=⟨_,rfl⟩
  subst hw6;have hE6:Ext w3 w6:=hE5.trans e6;clear htb
  by_cases hlast:i+1=n
  case pos =>
   have q1:((i:Int) == (n:Int) - 1)=true:=beq_iff_eq.2 (by omega)
   have HCL:Hid (clrF G a b):=by
    intro t h0 h1;refine HPRE.out t h0 ?_ h1;rw [hli.out,show i=n - 1 by omega,HCR.out.last];exact h1
   have B1A:=hE6.block HB1.out;obtain⟨z0,z1,z2,z3,z4,z5,z6,z7⟩:=cells4 B1A;have HE6:=q_h hE6;clear hlast hE6 e6;go_wp2;obtain⟨wR,ER,FR,UR⟩:=ex4 B1A (.bool false) (.slice none 0 0) (.bool false) (.slice none 0 0);rw [ER];obtain⟨v0,v1,v2,v3,-⟩:=cells4 FR;refine bodyPost_ret (v:=.tuple #[jd,.bool false]) ?_ rfl ?_
   ·simp [results,Tryz.results63,v0,v1,v2,v3,go_sem,jd]
   exact .inr ⟨rfl,HCL.out,UR.ext (hE.trans HE6.out) (by omega)⟩
  have q1:((i:Int) == (n:Int) - 1)=false:=beq_eq_false_iff_ne.2 (by omega);have hi1:i+1 < n:=by omega
  obtain⟨i1,hi1'⟩:∃ i1,i1=i+1:=⟨_,rfl⟩
  have HI1:=q_h hi1';have hi1n:i1 < n:=by omega
  have hwi:IntKind.i64.wrap ((i:Int)+1)=(i1:Int):=by rw [show (i:Int)+1=(i1:Int) by omega]; exact IntWalk.i64_in _ (by omega)
  clear hlast hi1';obtain⟨l1,hl1⟩:=qf (l i1);have HASC:Hid (li < l1):=by rw [hli.out,hl1.out,HI1.out]; exact HCR.out.asc i hi1
  have HL1:Hid (Ht (6*K+300) l1):=by rw [hl1.out]; exact HLK.out i1 hi1n
  have HL11:Hid (0<=l1/\l1<=1):=by
   have h1:=HCR.out.mono (i:=i1) (j:=n - 1) (by omega) (by omega);rw [HCR.out.last] at h1;rw [Hid,hl1.out];refine⟨?_,h1⟩;rw [<-hl1.out];exact lt_nn HL01.out.1 HASC.out
  have HQI:Hid (Ja G a b li l1):=by rw [hli.out,hl1.out,HI1.out]; exact HCR.out.quiet i hi1
  obtain⟨mi,hmi⟩:=qf (1 / 2*(li+l1));have HMB:Hid (li < mi/\mi < l1):=q4j HASC.out hmi.out;have hsk:Ht (12*K+601) (li+l1):=(HLI.out.add HL1.out).mono (by omega);have hmk:Ht (12*K+603) mi:=by rw [hmi.out]; exact (Kw.mul hsk).mono (by omega)
  have HMK:=q_h hmk;have HSS:Hid (Sz (li+l1)):=hsk.sz (by omega);have HM01:Hid (0 < mi/\mi < 1):=⟨le_lt HL01.out.1 HMB.out.1,lt_le HMB.out.2 HL11.out.2⟩
  have hS1:Hid (Sz li/\Sz l1):=⟨HLI.out.sz (by omega),HL1.out.sz (by omega)⟩
  clear hsk hmk;go_upto_region 11 with (fail);obtain⟨nq,Aq,kq,cq,A'q,k'q,c'q,q0,q1,q2,q3,hRq⟩:=((HROW.out.ext hE6).2.2.2 i1 hi1n).opn;rw [<-hl1.out] at hRq;have hBH:=HBH.out.ext hE6;obtain⟨nr,Ar,kr,cr,A'r,k'r,c'r,Br,hbr,yr,zr⟩:=hBH;obtain⟨r0,r1,r2,r3,-⟩:=cells4 Br;have hRr:qp N w6 (.agg #[.bool nr,.slice Ar kr cr,.bool false,.slice A'r k'r c'r]) (1 / 2):=qp.mk hbr yr zr;obtain⟨x0,x1,x2,x3,-⟩:=cells4 (e6.block HB8.out);have hR8:=HR8.out.ext e6;refine jE [Mn.rat N (1 / 2),Mn.rat N (li),Mn.eq (.slice (some ⟨g,0,none⟩) n cap),Mn.i (i:Int),Mn.i (i1:Int),Mn.q g (i1*4),Mn.rat N (l1),Mn.rat N (li+l1),Mn.rat N mi,Mn.blk w6.heap.size (.cells #[.bool false,.slice none 0 0,.bool false,.slice none 0 0] 29 (0,0)),Mn.any] [some 59,some 60,some 61,some 62,some 63,some 64,some 65,some 66,some 67,some 11,none] [10] (rQ 10 1) 1 (by kernel_rfl) ?_ ?_
  ·show ∀ i,i < 11->_
   iterate 11 refine fs ?_ ?_
   ·exact fz
   all_goals intro hl; first | exact absurd hl (by decide) | (clear hl; refine stp rfl ?_; intro ac wi eI hB hA K hK)
   have o5:=oOf (hB 5) rfl;clear hB hA;have cc0:=eI.cell r0;have cc1:=eI.cell r1;have cc2:=eI.cell r2;have cc3:=eI.cell r3
   ·go_simp;exact q_k hK (hRr.ext eI)
   have o8:=oOf (hB 8) rfl;clear hB hA;have cc0:=eI.cell x0;have cc1:=eI.cell x1;have cc2:=eI.cell x2;have cc3:=eI.cell x3
   ·go_simp;exact q_k hK (hR8.ext eI)
   have o4:=oOf (hB 4) rfl
   rotate_left
   have o7:=oOf (hB 7) rfl
   rotate_left
   obtain⟨_,s62,rfl⟩:=hA 3 62
   rotate_left
   obtain⟨_,s61,rfl⟩:=hA 2 61;obtain⟨_,s63,rfl⟩:=hA 4 63
   rotate_left
   obtain⟨_,s64,rfl⟩:=hA 5 64;clear hB hA;have cc0:=eI.cell q0;have cc1:=eI.cell q1;have cc2:=eI.cell q2;have cc3:=eI.cell q3
   ·go_simp;exact q_k hK (hRq.ext eI)
   obtain⟨x60,s60,j60⟩:=hA 1 60;replace j60:Mn.p (Mn.rat N (li)) x60 wi:=j60;obtain⟨x65,s65,j65⟩:=hA 6 65;replace j65:Mn.p (Mn.rat N (l1)) x65 wi:=j65;clear hB hA
   ·go_simp;refine (Xy j60 j65 hS1.out.1 hS1.out.2).mono ?_;rintro e wj ⟨vj,rfl,hj,ej⟩;go_wp2_with fail;exact hK.out _ _ ej hj
   obtain⟨x59,s59,j59⟩:=hA 0 59;replace j59:Mn.p (Mn.rat N (1 / 2)) x59 wi:=j59;obtain⟨x66,s66,j66⟩:=hA 7 66;replace j66:Mn.p (Mn.rat N (li+l1)) x66 wi:=j66;clear hB hA
   ·go_simp;refine (ZW j59 j66 (Kw.sz (by omega)) HSS.out).mono ?_;rw [show (1 / 2:Rat)*(li+l1)=mi from hmi.out.symm];rintro e wj ⟨vj,rfl,hj,ej⟩;go_wp2_with fail;exact hK.out _ _ ej hj
   clear hB hA
   ·go_simp;refine ql ?_;intro wj ej hszj BJ;exact hK.out _ _ ej ⟨_,rfl,eI.size,BJ⟩
   all_goals clear hB hA; go_simp; exact q_k hK rfl
  intro vals wz eZ hJ;have J67:Mn.p (Mn.rat N mi) (vals 8) wz:=hJ 8 (by decide) (by decide);have J11:Mn.p (Mn.blk w6.heap.size (.cells #[.bool false,.slice none 0 0,.bool false,.slice none 0 0] 29 (0,0))) (vals 9) wz:=hJ 9 (by decide) (by decide);clear hJ;simp only [pr,Nat.reduceAdd]
  generalize vals 8=z67 at J67 ⊢
  generalize vals 9=z11 at J11 ⊢
  obtain⟨gM,rfl,hgM,BM⟩:=J11;obtain⟨bz,Az,kz,cz,Az',kz',cz',rfl,hbz,gz1,gz2⟩:=qp.parts J67;obtain⟨y0,y1,y2,y3,y4,y5,y6,y7⟩:=cells4 BM;refine qh (i:=10) rfl (by kernel_rfl) (by kernel_rfl) (fun K hK=>?_);go_simp;refine hK.out _ _ ?_;clear hK K;try simp only [nr]
  refine qi (by kernel_rfl) ?_ _;have hNM:N<=gM:=by have:=hE6.size; omega
  obtain⟨wM,EM,hBM,KM,hsM⟩:=kN (q:=mi) BM hNM hbz gz1 gz2;rw [EM];have e6M:Ext w6 wM:=KM.ext eZ hgM;have hE7:Ext w3 wM:=hE6.trans e6M;have hgM3:w3.heap.size<=gM:=by have:=hE6.size; omega
  have HBM:=q_h hBM;have e5M:Ext w5 wM:=e6.trans e6M;clear q0 q1 q2 q3 r0 r1 r2 r3 x0 x1 x2 x3 y0 y1 y2 y3 y4 y5 y6 y7 hbz gz1 gz2 hbr yr zr Br hRr hRq hR8 EM KM BM hsM eZ hE6 e6 e6M hBM hgM;obtain⟨wN,hwN⟩:∃ wN,wN=wM:=⟨_,rfl⟩
  subst hwN;go_upto_region 12 with (fail);obtain⟨o,ho⟩:=qf (exF G a b mi);have B0c:=hE7.block HB0.out;have hBM2:=HBM.out;obtain⟨nm,Am,km,cm,A'm,k'm,c'm,Bm,hbm,ym,zm⟩:=hBM2;obtain⟨m0,m1,m2,m3,-⟩:=cells4 Bm;have hRm:qp N wN (.agg #[.bool nm,.slice Am km cm,.bool false,.slice A'm k'm c'm]) (mi):=qp.mk hbm ym zm;clear hbm ym zm;have HRM:=q_h hRm;have HBm:=q_h Bm;clear hRm Bm;refine wp_region_lit ?_;refine wpList_load_row rfl 116 _ rfl _ (by rfl) _ ca _ _ B0c Tryz.underlying116 rfl (by rw [SZ.out]; exact vk) ?_;try simp only [nr]
  go_wp2_with (go_at_call 62; refine q_o ?_);refine (Qq (HS.out.ext (hE.trans hE7)) (HRM.out) HKM.out (HMK.out) (by omega) (Rat.le_of_lt HM01.out.1) (Rat.le_of_lt HM01.out.2)).mono ?_;rw [<-ho.out];rintro e w7 ⟨v7,q7,rfl,hq7,hv7,e7⟩;have HQ:=q_h hq7;obtain⟨bv,Av,kv,cv,A'v,k'v,c'v,rfl,hbv,yv,zv⟩:=qp.parts hv7;clear hq7 m0 m1 m2 m3 B0c;go_upto_region 13 with (fail);refine ql ?_;intro w9 e9 hsz9 B9;obtain⟨g9,hg9⟩:∃ g9,g9=w7.heap.size:=⟨_,rfl⟩
  rw [<-hg9] at B9 ⊢;have HV:=q_h (hv7.ext e9);clear hg9 hv7 yv zv hsz9;have hE9:Ext w3 w9:=(hE7.trans e7).trans e9;have e59:Ext w5 w9:=(e5M.trans e7).trans e9;have eM9:Ext wN w9:=e7.trans e9;have HB9:=q_h B9;clear B9 e5M e7 e9;cases o with
  | none =>
   have HNX:Hid (q3Z G a b l1):=HPRE.out.next HPT.out (q3i HQI.out HMB.out.1 HMB.out.2 ho.out.symm);rw [hl1.out] at HNX;clear ho;go_wp2;go_roundw
   case rel=>exact⟨i1,hi1n,rfl,HNX,hE9⟩
   case measure=>have:=HI1.out; simp [intOf]; omega
  | some f =>
  obtain rfl:=HQ.out f rfl;have hfk:=q1I HO.out.g HKM.out.ka HKM.out.kb HMK.out ho.out.symm;have HFK:=q_h hfk;have HFZ:Hid (Sz f):=hfk.sz (by omega);obtain⟨sf,hsf⟩:=qf f.num.sign;clear hfk;obtain⟨y0,y1,y2,y3,-⟩:=cells4 HB9.out
  by_cases hf0:0 < f
  case pos =>
   have p1:decide (0 < sf)=true:=q_t (by rw [hsf.out]; exact zi.2 hf0);have HBK:Hid (q0q G a b mi):=⟨HM01.out.1,HM01.out.2,f,ho.out.symm,hf0⟩
   clear hf0;go_wp2_with (go_at_call 59; refine q_o ?_);refine (kY HV.out HFZ.out).mono ?_;rw [<-hsf.out];rintro e wA ⟨rfl,eA⟩;clear y0 y1 y2 y3;have hEA:=hE9.trans eA;have BMA:=(eM9.trans eA).block HBm.out;have B1A:=hEA.block HB1.out;obtain⟨x0,x1,x2,x3,-⟩:=cells4 BMA;obtain⟨z0,z1,z2,z3,z4,z5,z6,z7⟩:=cells4 B1A;go_wp2;obtain⟨wR,ER,FR,UR⟩:=ex4 B1A (.bool nm) (.slice Am km cm) (.bool false) (.slice A'm k'm c'm);rw [ER];have hTR:=NoU.mk B1A (by decide);obtain⟨v0,v1,v2,v3,-⟩:=cells4 FR;refine bodyPost_ret (v:=.tuple #[.agg #[.bool nm,.slice Am km cm,.bool false,.slice A'm k'm c'm],.bool true]) ?_ rfl ?_
   ·simp [results,Tryz.results63,v0,v1,v2,v3,go_sem]
   exact .inl ⟨_,mi,rfl,(HRM.out.ext (eM9.trans eA)).upd UR (by omega) hTR,HBK.out,HMK.out.mono (by omega),UR.ext (hE.trans hEA) (by omega)⟩
  have p1:decide (0 < sf)=false:=q_f (by rw [hsf.out]; exact fun h=>hf0 (zi.1 h));have HF0:Hid (f<=0):=Rat.not_lt.1 hf0;clear hf0;go_wp2_with (go_at_call 59; refine q_o ?_);refine (kY HV.out HFZ.out).mono ?_;rw [<-hsf.out];rintro e wA ⟨rfl,eA⟩;clear y0 y1 y2 y3;have hEA:=hE9.trans eA;have e5A:=e59.trans eA;have eMA:=eM9.trans eA;go_upto_region 16 with (fail);obtain⟨nq,Aq,kq,cq,A'q,k'q,c'q,q0,q1,q2,q3,hRq⟩:=((HROW.out.ext hEA).2.2.2 i1 hi1n).opn;rw [<-hl1.out] at hRq;obtain⟨x0,x1,x2,x3,-⟩:=cells4 (e5A.block HB8.out);have hR8:=HR8.out.ext e5A;refine jE [Mn.eq (.agg #[.bool np,.slice Ap kp cp,.bool false,.slice A'p k'p c'p]),Mn.eq (.slice (some ⟨g,0,none⟩) n cap),Mn.i (i:Int),Mn.i (i1:Int),Mn.q g (i1*4),Mn.eq (.agg #[.bool nq,.slice Aq kq cq,.bool false,.slice A'q k'q c'q]),Mn.bks wA.heap.size 2 (.cells #[.bool np,.slice Ap kp cp,.bool false,.slice A'p k'p c'p,.bool nq,.slice Aq kq cq,.bool false,.slice A'q k'q c'q] 29 (0,0)),Mn.i 2,Mn.i 0] (sM [80,81,82,83,84,85,86,87,88]) [] (rQ 9 0) 0 (by kernel_rfl) ?_ ?_
  ·show ∀ i,i < 9->_
   iterate 9 refine fs ?_ ?_
   ·exact fz
   all_goals intro hl; clear hl; refine stp rfl ?_; intro ac wi eI hB hA K hK
   have o8:=oOf (hB 8) rfl;have cc0:=eI.cell x0;have cc1:=eI.cell x1;have cc2:=eI.cell x2;have cc3:=eI.cell x3;have cc4:=eI.cell q0;have cc5:=eI.cell q1;have cc6:=eI.cell q2;have cc7:=eI.cell q3
   rotate_left
   have o4:=oOf (hB 4) rfl
   rotate_left
   have o7:=oOf (hB 7) rfl
   rotate_left
   obtain⟨_,s82,rfl⟩:=hA 2 82
   rotate_left
   obtain⟨_,s81,rfl⟩:=hA 1 81;obtain⟨_,s83,rfl⟩:=hA 3 83
   rotate_left
   obtain⟨_,s84,rfl⟩:=hA 4 84;have cc0:=eI.cell x0;have cc1:=eI.cell x1;have cc2:=eI.cell x2;have cc3:=eI.cell x3;have cc4:=eI.cell q0;have cc5:=eI.cell q1;have cc6:=eI.cell q2;have cc7:=eI.cell q3
   rotate_left
   obtain⟨_,s80,rfl⟩:=hA 0 80;obtain⟨_,s85,rfl⟩:=hA 5 85;clear hB hA
   ·go_simp;refine ql ?_;intro wj ej hszj BJ;exact hK.out _ _ ej ⟨_,rfl,eI.size,BJ⟩
   obtain⟨x86,s86,j86⟩:=hA 6 86;replace j86:Mn.p (Mn.bks wA.heap.size 2 (.cells #[.bool np,.slice Ap kp cp,.bool false,.slice A'p k'p c'p,.bool nq,.slice Aq kq cq,.bool false,.slice A'q k'q c'q] 29 (0,0))) x86 wi:=j86;clear hB hA
   ·obtain⟨gj,rfl,hgj,BJ⟩:=j86;go_simp;exact q_k hK rfl
   rotate_left
   all_goals clear hB hA; go_simp; exact q_k hK rfl
  intro vals wz eZ hJ;have J86:Mn.p (Mn.bks wA.heap.size 2 (.cells #[.bool np,.slice Ap kp cp,.bool false,.slice A'p k'p c'p,.bool nq,.slice Aq kq cq,.bool false,.slice A'q k'q c'q] 29 (0,0))) (vals 6) wz:=hJ 6 (by decide) (by decide);have J87:vals 7=_:=hJ 7 (by decide) (by decide);have J88:vals 8=_:=hJ 8 (by decide) (by decide);clear hJ;simp only [pr,Nat.reduceAdd,J87,J88];clear J87 J88
  generalize vals 6=z86 at J86 ⊢
  obtain⟨gL,rfl,hgL,BL⟩:=J86;refine qi (by kernel_rfl) ?_ _;have hEZ:Ext w3 wz:=hEA.trans eZ;have e5Z:=e5A.trans eZ;have eMZ:=eMA.trans eZ;have e9Z:=eA.trans eZ
  have HCC:Hid (∀ j,j < 2->At4 N wz gL (j*4) (raw (fiR li l1 j))):=by
   intro j hj;have hj':j=0\/j=1:=by omega
   rcases hj' with rfl | rfl
   ·exact q2y (hR8.ext eZ) (by rw [qg BL]; rfl) (by rw [qg BL]; rfl) (by rw [qg BL]; rfl) (by rw [qg BL]; rfl)
   ·exact q2y (hRq.ext eZ) (by rw [qg BL]; rfl) (by rw [qg BL]; rfl) (by rw [qg BL]; rfl) (by rw [qg BL]; rfl)
  have HCK:Hid (∀ j,Ht (6*K+300) (fiR li l1 j)/\0<=fiR li l1 j/\fiR li l1 j<=1/\(fiR li l1 j=li\/fiR li l1 j=l1)):=by
   intro j;unfold fiR
   split
   ·exact⟨HLI.out,HL01.out.1,HL01.out.2,.inl rfl⟩
   ·exact⟨HL1.out,HL11.out.1,HL11.out.2,.inr rfl⟩
  have HOM:=ho;have HVF:Hid (qp N wz _ f):=HV.out.ext e9Z;obtain⟨gF,hgF⟩:∃ gF,g9=gF:=⟨_,rfl⟩
  subst hgF;have HBF:=q_h (e9Z.block HB9.out);have HB15:=q_h (e5Z.block HB8.out);have HBMZ:=q_h (eMZ.block HBm.out);have HRMZ:=q_h (HRM.out.ext eMZ);clear q0 q1 q2 q3 x0 x1 x2 x3 hRq hR8 BL HV HB9 ho HQ eZ e5A eMA hEA eA e59 eM9 hE9 e9Z e5Z eMZ;go_wp2
  go_loopw [88] (fun jv wr=>∃ j:Nat,j<=2/\jv=.int .i64 (j:Int)/\Hid (∀ s,s < j->∀ x,exF G a b (fiR li l1 s)=some x->x<=0)/\Ext wz wr) (fun jv _=>2 - (intOf jv).toNat)
  case atStart=>exact⟨0,by omega,rfl,fun s hs=>absurd hs (by omega),Ext.refl _⟩
  case round =>
   obtain⟨j,hj2,rfl,HNO,hEr⟩:=hrel
   by_cases hlt:j < 2
   case neg =>
    have t2:decide ((j:Int) < 2)=false:=q_f (by omega);have HNX:Hid (q3Z G a b l1):=HPRE.out.next HPT.out (q1s HQI.out (HNO.out 0 (by omega)) (HNO.out 1 (by omega)));rw [hl1.out] at HNX;have hE9:=hEZ.trans hEr;go_wp2;go_roundw
    case rel=>exact⟨i1,hi1n,rfl,HNX,hE9⟩
    case measure=>have:=HI1.out; simp [intOf]; omega
   have t2:decide ((j:Int) < 2)=true:=q_t (by omega);have hjw:IntKind.i64.wrap ((j:Int)+1)=(j:Int)+1:=IntWalk.i64_in _ (by omega);obtain⟨nq,Aq,kq,cq,A'q,k'q,c'q,q0,q1,q2,q3,hRq⟩:=((HCC.out j hlt).ext hEr).opn;obtain⟨c,hc⟩:=qf (fiR li l1 j);have HCJ:=HCK.out j;rw [<-hc.out] at hRq HCJ;have HCJ':=q_h HCJ;clear HCJ;go_upto_region 19 with (fail);refine ql ?_;intro wB eB hszB BC;obtain⟨gC,hgC⟩:∃ gC,gC=wr.heap.size:=⟨_,rfl⟩
   rw [<-hgC] at BC ⊢;have hEB:=hEr.trans eB;have HRC:=q_h (hRq.ext eB);have HBC:=q_h BC;clear q0 q1 q2 q3 hgC BC hRq hszB t2 hEr eB;obtain⟨o,ho⟩:=qf (exF G a b c);have B0c:=(hEZ.trans hEB).block HB0.out;obtain⟨x0,x1,x2,x3,-⟩:=cells4 HBC.out;refine wp_region_lit ?_;refine wpList_load_row rfl 116 _ rfl _ (by rfl) _ ca _ _ B0c Tryz.underlying116 rfl (by rw [SZ.out]; exact vk) ?_;try simp only [nr]
   go_wp2_with (go_at_call 62; refine q_o ?_);refine (Qq (HS.out.ext (hE.trans (hEZ.trans hEB))) (HRC.out) HKM.out ((HCJ'.out.1.mono (by omega))) (by omega) (HCJ'.out.2.1) (HCJ'.out.2.2.1)).mono ?_;rw [<-ho.out];rintro e w7 ⟨v7,q7,rfl,hq7,hv7,e7⟩;have HQ:=q_h hq7;obtain⟨bv,Av,kv,cv,A'v,k'v,c'v,rfl,hbv,yv,zv⟩:=qp.parts hv7;clear hq7 x0 x1 x2 x3 B0c;go_upto_region 20 with (fail);refine ql ?_;intro w9 e9 hsz9 B9;obtain⟨g9,hg9⟩:∃ g9,g9=w7.heap.size:=⟨_,rfl⟩
   rw [<-hg9] at B9 ⊢;have HV:=q_h (hv7.ext e9);clear hg9 hv7 yv zv hsz9;have hE9:Ext wz w9:=(hEB.trans e7).trans e9;have eB9:Ext wB w9:=e7.trans e9;have HB9:=q_h B9;clear B9 e7 e9;cases o with
   | none =>
    have HN2:Hid (∀ s,s < j+1->∀ x,exF G a b (fiR li l1 s)=some x->x<=0):=xP (p:=fun s=>∀ x,exF G a b (fiR li l1 s)=some x->x<=0) HNO.out (fun x hx=>by rw [<-hc.out,<-ho.out] at hx; cases hx);clear ho;go_wp2;go_roundw
    case rel=>exact⟨j+1,by omega,by go_num,HN2,hE9⟩
    case measure=>simp [intOf]; omega
   | some x =>
   obtain rfl:=HQ.out x rfl;have hxk:=q1I HO.out.g HKM.out.ka HKM.out.kb (HCJ'.out.1.mono (by omega)) ho.out.symm;have HXK:=q_h hxk;have HXZ:Hid (Sz x):=hxk.sz (by omega);obtain⟨sx',hsx⟩:=qf x.num.sign;clear hxk;obtain⟨y0,y1,y2,y3,-⟩:=cells4 HB9.out
   by_cases hx0:0 < x
   case neg =>
    have p2:decide (sx'<=0)=true:=q_t (by have h9:¬ 0 < x.num.sign:=fun h=>hx0 (zi.1 h); rw [hsx.out]; omega);have HN2:Hid (∀ s,s < j+1->∀ x,exF G a b (fiR li l1 s)=some x->x<=0):=xP (p:=fun s=>∀ x,exF G a b (fiR li l1 s)=some x->x<=0) HNO.out (fun z hz=>by rw [<-hc.out,<-ho.out] at hz; cases hz; exact Rat.not_lt.1 hx0);clear hx0;go_wp2_with (go_at_call 59; refine q_o ?_);refine (kY HV.out HXZ.out).mono ?_;rw [<-hsx.out];rintro e wC ⟨rfl,eC⟩;clear y0 y1 y2 y3;have hEC:=hE9.trans eC;go_wp2;go_roundw
    case rel=>exact⟨j+1,by omega,by go_num,HN2,hEC⟩
    case measure=>simp [intOf]; omega
   have p2:decide (sx'<=0)=false:=q_f (by have:=zi.2 hx0; rw [hsx.out]; omega);have HX0:=q_h hx0;clear hx0;go_wp2_with (go_at_call 59; refine q_o ?_);refine (kY HV.out HXZ.out).mono ?_;rw [<-hsx.out];rintro e wC ⟨rfl,eC⟩;clear y0 y1 y2 y3;have hEC:=hE9.trans eC;have eBC:=eB9.trans eC;have HNE:Hid (x - f≠0):=q42 HX0.out HF0.out;have hdk:Ht (2*(12*(12*K+603)+300)+1) (x - f):=(HXK.out.sub HFK.out).mono (by omega);have HDZ:Hid (Sz (x - f)):=hdk.sz (by omega);have hqk:Ht (3*(12*(12*K+603)+300)+1) (x / (x - f)):=(HXK.out.div hdk).mono (by omega);have HQZ:Hid (Sz (x / (x - f))):=hqk.sz (by omega);have hpk:Ht (3*(12*(12*K+603)+300)+3) (1 / 2*(x / (x - f))):=(Kw.mul hqk).mono (by omega);have HPZ:Hid (Sz (1 / 2*(x / (x - f)))):=hpk.sz (by omega);have hmk:Ht (18*K+904) (mi - c):=(HMK.out.sub HCJ'.out.1).mono (by omega);have HMZ:Hid (Sz (mi - c)):=hmk.sz (by omega);have htk:=hpk.mul hmk;have HTZ:Hid (Sz (1 / 2*(x / (x - f))*(mi - c))):=htk.sz (by omega);have HRK:Hid (Ht (456*K+24000) (JV c mi x f)):=(HCJ'.out.1.add htk).mono (by omega);have HCZ:Hid (Sz c/\Sz mi):=⟨HCJ'.out.1.sz (by omega),HMK.out.sz (by omega)⟩
   have HBK:Hid (q0q G a b (JV c mi x f)):=q4s HQI.out HMB.out.1 HMB.out.2 HL01.out.1 HL11.out.2 HCJ'.out.2.2.2 HOM.out.symm HF0.out ho.out.symm HX0.out;clear hdk hqk hpk hmk htk;go_upto_region 21 with (fail);have hBH:=HBH.out.ext (hEZ.trans hEC);obtain⟨nr,Ar,kr,cr,A'r,k'r,c'r,Br,hbr,yr,zr⟩:=hBH;obtain⟨r0,r1,r2,r3,-⟩:=cells4 Br;have hRr:qp N wC (.agg #[.bool nr,.slice Ar kr cr,.bool false,.slice A'r k'r c'r]) (1 / 2):=qp.mk hbr yr zr;obtain⟨y0,y1,y2,y3,-⟩:=cells4 (eC.block HB9.out);obtain⟨z0,z1,z2,z3,-⟩:=cells4 (hEC.block HBF.out);have hRX:=HV.out.ext eC;have hRF:=HVF.out.ext hEC;refine jE [Mn.rat N (1 / 2),Mn.rat N (x),Mn.rat N (x),Mn.rat N (f),Mn.rat N (x - f),Mn.rat N (x / (x - f)),Mn.rat N (1 / 2*(x / (x - f))),Mn.blk wC.heap.size (.cells #[.bool false,.slice none 0 0,.bool false,.slice none 0 0] 29 (0,0)),Mn.any] [some 105,some 106,some 107,some 108,some 109,some 110,some 111,some 18,none] [8] (rQ 8 1) 1 (by kernel_rfl) ?_ ?_
   ·show ∀ i,i < 9->_
    iterate 9 refine fs ?_ ?_
    ·exact fz
    all_goals intro hl; first | exact absurd hl (by decide) | (clear hl; refine stp rfl ?_; intro ac wi eI hB hA K hK)
    have o5:=oOf (hB 5) rfl;clear hB hA;have cc0:=eI.cell r0;have cc1:=eI.cell r1;have cc2:=eI.cell r2;have cc3:=eI.cell r3
    ·go_simp;exact q_k hK (hRr.ext eI)
    have o16:=oOf (hB 16) rfl;clear hB hA;have cc0:=eI.cell y0;have cc1:=eI.cell y1;have cc2:=eI.cell y2;have cc3:=eI.cell y3
    ·go_simp;exact q_k hK (hRX.ext eI)
    have o16:=oOf (hB 16) rfl;clear hB hA;have cc0:=eI.cell y0;have cc1:=eI.cell y1;have cc2:=eI.cell y2;have cc3:=eI.cell y3
    ·go_simp;exact q_k hK (hRX.ext eI)
    have o12:=oOf (hB 12) rfl;clear hB hA;have cc0:=eI.cell z0;have cc1:=eI.cell z1;have cc2:=eI.cell z2;have cc3:=eI.cell z3
    ·go_simp;exact q_k hK (hRF.ext eI)
    obtain⟨x107,s107,j107⟩:=hA 2 107;replace j107:Mn.p (Mn.rat N (x)) x107 wi:=j107;obtain⟨x108,s108,j108⟩:=hA 3 108;replace j108:Mn.p (Mn.rat N (f)) x108 wi:=j108;clear hB hA
    ·go_simp;refine (yY j107 j108 HXZ.out HFZ.out).mono ?_;rintro e wj ⟨vj,rfl,hj,ej⟩;go_wp2_with fail;exact hK.out _ _ ej hj
    obtain⟨x106,s106,j106⟩:=hA 1 106;replace j106:Mn.p (Mn.rat N (x)) x106 wi:=j106;obtain⟨x109,s109,j109⟩:=hA 4 109;replace j109:Mn.p (Mn.rat N (x - f)) x109 wi:=j109;clear hB hA
    ·go_simp;refine (QI j106 j109 HXZ.out HDZ.out HNE.out).mono ?_;rintro e wj ⟨vj,rfl,hj,ej⟩;go_wp2_with fail;exact hK.out _ _ ej hj
    obtain⟨x105,s105,j105⟩:=hA 0 105;replace j105:Mn.p (Mn.rat N (1 / 2)) x105 wi:=j105;obtain⟨x110,s110,j110⟩:=hA 5 110;replace j110:Mn.p (Mn.rat N (x / (x - f))) x110 wi:=j110;clear hB hA
    ·go_simp;refine (ZW j105 j110 (Kw.sz (by omega)) HQZ.out).mono ?_;rintro e wj ⟨vj,rfl,hj,ej⟩;go_wp2_with fail;exact hK.out _ _ ej hj
    clear hB hA
    ·go_simp;refine ql ?_;intro wj ej hszj BJ;exact hK.out _ _ ej ⟨_,rfl,eI.size,BJ⟩
   intro vals wz eZ hJ;have J111:Mn.p (Mn.rat N (1 / 2*(x / (x - f)))) (vals 6) wz:=hJ 6 (by decide) (by decide);have J18:Mn.p (Mn.blk wC.heap.size (.cells #[.bool false,.slice none 0 0,.bool false,.slice none 0 0] 29 (0,0))) (vals 7) wz:=hJ 7 (by decide) (by decide);clear hJ;simp only [pr,Nat.reduceAdd]
   generalize vals 6=z111 at J111 ⊢
   generalize vals 7=z18 at J18 ⊢
   obtain⟨gP,rfl,hgP,BP⟩:=J18;obtain⟨bz,Az,kz,cz,Az',kz',cz',rfl,hbz,gz1,gz2⟩:=qp.parts J111;obtain⟨p0,p1,p2,p3,p4,p5,p6,p7⟩:=cells4 BP;refine qh (i:=8) rfl (by kernel_rfl) (by kernel_rfl) (fun K hK=>?_);go_simp;refine hK.out _ _ ?_;clear hK K;try simp only [nr]
   refine qi (by kernel_rfl) ?_ _;have hNC:N<=wC.heap.size:=q_l hN3 (hEZ.trans hEC).size;obtain⟨wP,EP,hBP,KP,hsP⟩:=kN (q:=1 / 2*(x / (x - f))) BP (by omega) hbz gz1 gz2;rw [EP];have eCP:Ext wC wP:=KP.ext eZ hgP;have hEP:=hEC.trans eCP;have eBP:=eBC.trans eCP;clear r0 r1 r2 r3 y0 y1 y2 y3 z0 z1 z2 z3 p0 p1 p2 p3 p4 p5 p6 p7 hbz gz1 gz2 hbr yr zr Br hRr hRX hRF EP KP BP hsP eZ eC eCP hE9 eB9 hEC eBC;obtain⟨wQ,hwQ⟩:∃ wQ,wQ=wP:=⟨_,rfl⟩
   subst hwQ;go_upto_region 22 with (fail);obtain⟨ns,As,ks,cs,A's,k's,c's,Bs,hbs,ys,zs⟩:=hBP;obtain⟨s0,s1,s2,s3,-⟩:=cells4 Bs;have hRs:qp N wQ (.agg #[.bool ns,.slice As ks cs,.bool false,.slice A's k's c's]) (1 / 2*(x / (x - f))):=qp.mk hbs ys zs;obtain⟨x0,x1,x2,x3,-⟩:=cells4 (eBP.block HBC.out);obtain⟨y0,y1,y2,y3,-⟩:=cells4 (hEP.block HBMZ.out);have hRC:=HRC.out.ext eBP;have hRM:=HRMZ.out.ext hEP;have B1A:=(hEZ.trans hEP).block HB1.out;obtain⟨z0,z1,z2,z3,z4,z5,z6,z7⟩:=cells4 B1A;refine jE [Mn.rat N (c),Mn.rat N (1 / 2*(x / (x - f))),Mn.rat N (mi),Mn.rat N (c),Mn.rat N (mi - c),Mn.rat N (1 / 2*(x / (x - f))*(mi - c)),Mn.rat N (JV c mi x f),Mn.any,Mn.any] [some 112,some 113,some 114,some 115,some 116,some 117,some 118,none,some 3] [7,8] (rQ 7 2) 2 (by kernel_rfl) ?_ ?_
   ·show ∀ i,i < 9->_
    iterate 9 refine fs ?_ ?_
    ·exact fz
    all_goals intro hl; first | exact absurd hl (by decide) | (clear hl; refine stp rfl ?_; intro ac wi eI hB hA K hK)
    have o15:=oOf (hB 15) rfl;clear hB hA;have cc0:=eI.cell x0;have cc1:=eI.cell x1;have cc2:=eI.cell x2;have cc3:=eI.cell x3
    ·go_simp;exact q_k hK (hRC.ext eI)
    have o18:=oOf (hB 18) rfl;clear hB hA;have cc0:=eI.cell s0;have cc1:=eI.cell s1;have cc2:=eI.cell s2;have cc3:=eI.cell s3
    ·go_simp;exact q_k hK (hRs.ext eI)
    have o11:=oOf (hB 11) rfl;clear hB hA;have cc0:=eI.cell y0;have cc1:=eI.cell y1;have cc2:=eI.cell y2;have cc3:=eI.cell y3
    ·go_simp;exact q_k hK (hRM.ext eI)
    have o15:=oOf (hB 15) rfl;clear hB hA;have cc0:=eI.cell x0;have cc1:=eI.cell x1;have cc2:=eI.cell x2;have cc3:=eI.cell x3
    ·go_simp;exact q_k hK (hRC.ext eI)
    obtain⟨x114,s114,j114⟩:=hA 2 114;replace j114:Mn.p (Mn.rat N (mi)) x114 wi:=j114;obtain⟨x115,s115,j115⟩:=hA 3 115;replace j115:Mn.p (Mn.rat N (c)) x115 wi:=j115;clear hB hA
    ·go_simp;refine (yY j114 j115 HCZ.out.2 HCZ.out.1).mono ?_;rintro e wj ⟨vj,rfl,hj,ej⟩;go_wp2_with fail;exact hK.out _ _ ej hj
    obtain⟨x113,s113,j113⟩:=hA 1 113;replace j113:Mn.p (Mn.rat N (1 / 2*(x / (x - f)))) x113 wi:=j113;obtain⟨x116,s116,j116⟩:=hA 4 116;replace j116:Mn.p (Mn.rat N (mi - c)) x116 wi:=j116;clear hB hA
    ·go_simp;refine (ZW j113 j116 HPZ.out HMZ.out).mono ?_;rintro e wj ⟨vj,rfl,hj,ej⟩;go_wp2_with fail;exact hK.out _ _ ej hj
    obtain⟨x112,s112,j112⟩:=hA 0 112;replace j112:Mn.p (Mn.rat N (c)) x112 wi:=j112;obtain⟨x117,s117,j117⟩:=hA 5 117;replace j117:Mn.p (Mn.rat N (1 / 2*(x / (x - f))*(mi - c))) x117 wi:=j117;clear hB hA
    ·go_simp;refine (Xy j112 j117 HCZ.out.1 HTZ.out).mono ?_;rw [q4A];rintro e wj ⟨vj,rfl,hj,ej⟩;go_wp2_with fail;exact hK.out _ _ ej hj
   intro vals wz eZ hJ;have J118:Mn.p (Mn.rat N (JV c mi x f)) (vals 6) wz:=hJ 6 (by decide) (by decide);clear hJ;simp only [pr,Nat.reduceAdd]
   generalize vals 6=z118 at J118 ⊢
   obtain⟨bz,Az,kz,cz,Az',kz',cz',rfl,hbz,gz1,gz2⟩:=qp.parts J118;replace B1A:=eZ.block B1A;clear z0 z1 z2 z3 z4 z5 z6 z7;obtain⟨z0,z1,z2,z3,z4,z5,z6,z7⟩:=cells4 B1A;refine qh (i:=7) rfl (by kernel_rfl) (by kernel_rfl) (fun K hK=>?_);go_simp;refine hK.out _ _ ?_;clear hK K;try simp only [nr]
   refine qh (i:=8) rfl (by kernel_rfl) (by kernel_rfl) (fun K hK=>?_);go_simp;refine hK.out _ _ ?_;clear hK K;try simp only [nr]
   refine qi (by kernel_rfl) ?_ _;obtain⟨wR,ER,FR,UR⟩:=ex4 B1A (.bool bz) (.slice Az kz cz) (.bool false) (.slice Az' kz' cz');rw [ER];have hTR:=NoU.mk B1A (by decide);obtain⟨v0,v1,v2,v3,-⟩:=cells4 FR;have hEF:Ext w wR:=UR.ext (((hE.trans hEZ).trans hEP).trans eZ) (by omega);have hRR:qp N wR _ _:=qp.mk hbz (gz1.upd UR (by omega) hTR) (gz2.upd UR (by omega) hTR);go_wp2;refine bodyPost_ret (v:=.tuple #[.agg #[.bool bz,.slice Az kz cz,.bool false,.slice Az' kz' cz'],.bool true]) ?_ rfl ?_
   ·simp [results,Tryz.results63,v0,v1,v2,v3,go_sem]
   exact .inl ⟨_,_,rfl,hRR,HBK.out,HRK.out,hEF⟩
theorem q1q (h:xy N w v R)  :
  Calls Tryz.prog 47 #[v] w (zG w (.bool (!Qc R))):=by
 obtain⟨A1,n1,c1,A2,n2,c2,rfl,g1,g2⟩:=h.parts;obtain⟨r,hr⟩:=qf (Qc R);rw [<-hr.out];have hI:=h;clear g1 g2 h;go_enter Tryz.func47,Tryz.ntmps47;go_wp2_with (go_at_call 48; refine q_o ?_);refine qF ?_;intro W hE hsz B0;refine (q19 (hI.ext hE)).mono ?_;rintro e w1 ⟨rfl,e1⟩;rw [<-hr.out];go_wp2;go_ret;exact⟨rfl,hE.trans e1⟩
theorem q1k (h:xy N w v R) (hs:Q3 R) :
  Calls Tryz.prog 97 #[v] w (zG w (.bool (!okR R))):=by
 obtain⟨A1,n1,c1,A2,n2,c2,rfl,g1,g2⟩:=h.parts;obtain⟨r,hr⟩:=qf (okR R);rw [<-hr.out];have hI:=h;clear g1 g2 h;go_enter Tryz.func97,Tryz.ntmps97;go_wp2_with (go_at_call 98; refine q_o ?_);refine qF ?_;intro W hE hsz B0;refine (JY (hI.ext hE) hs.1 hs.2).mono ?_;rintro e w1 ⟨rfl,e1⟩;rw [<-hr.out];go_wp2;go_ret;exact⟨rfl,hE.trans e1⟩
theorem VW {R:Nat->Raw} (h:LsR N lo hi w v n R)  (g:Nat->Bool)
  (hf:∀ i,i < n->∀ w' u,Ext w w'->xy N w' u (R i)->Calls Tryz.prog 47 #[u] w' (zG w' (.bool (g i)))) :
  Calls Tryz.prog 92 #[v,.func (.func 47) #[] #[]] w (YW w (jf n g)):=by
 obtain⟨r,hr⟩:=qf (jf n g);rw [<-hr.out];obtain⟨A,c,rfl,hnc,hcm⟩:=h.form;unfold maxLen at hcm;have hI:=h;have HF:=q_h hf;clear h hf;go_enter Tryz.func92,Tryz.ntmps92;go_wp2
 go_loopw [8] (fun i wr=>∃ k:Nat,k<=n/\i=.int .i64 k/\Hid (∀ j,j < k->g j=false)/\Ext w wr) (fun i _=>n - (intOf i).toNat)
 case atStart=>exact⟨0,Nat.zero_le _,rfl,fun j hj=>absurd hj (by omega),Ext.refl w⟩
 case round =>
  obtain⟨k,hk,rfl,HA,hE⟩:=hrel
  by_cases hlt:k < n
  ·(obtain⟨b,off,rfl,-,-,hx⟩:=(hI.ext hE).addr (by omega)); (obtain⟨A1,n1,c1,A2,n2,c2,p0,p1,p2,p3,hv⟩:=(hx k hlt).val)
   clear hx;go_wp2_with (go_at_call 47; refine q_o ?_);refine (HF.out k hlt _ _ hE hv).mono ?_;rintro e w1 ⟨rfl,e1⟩;replace hE:=hE.trans e1;obtain⟨o,ho⟩:=qf (g k);rw [<-ho.out];cases o with
   | false =>
    go_wp2;go_roundw
    case rel=>exact⟨k+1,by omega,by go_num,xP (p:=fun j=>g j=false) HA.out ho.out.symm,hE⟩
    case measure=>simp [intOf]; omega
   | true =>
    have HT:Hid (r=true):=by rw [Hid,hr.out]; exact jR hlt ho.out.symm
    go_wp2;go_ret;exact⟨_,rfl,by rw [Hid,HT.out]; symm; simp,hE⟩
  ·have HT:Hid (r=false):=by rw [Hid,hr.out]; exact kD.2 (fun j hj=>HA.out j (by omega))
   go_wp2;go_ret;exact⟨_,rfl,by rw [Hid,HT.out]; rfl,hE⟩
theorem q0V {R:Nat->Raw} (h:LsR N lo hi w v n R)  (g:Nat->Bool)
  (hf:∀ i,i < n->∀ w' u,Ext w w'->xy N w' u (R i)->Calls Tryz.prog 47 #[u] w' (zG w' (.bool (g i)))) :
  Calls Tryz.prog 46 #[v,.func (.func 47) #[] #[]] w (zG w (.bool (jf n g))):=by
 obtain⟨r,hr⟩:=qf (jf n g);rw [<-hr.out];obtain⟨A,c,rfl,hnc,hcm⟩:=h.form;have hI:=h;have HF:=q_h hf;clear h hf;go_enter Tryz.func46,Tryz.ntmps46;go_wp2_with (go_at_call 92; refine q_o ?_);refine (VW hI  g HF.out).mono ?_;rintro e w1 ⟨z,rfl,hz,e1⟩;rw [<-hr.out] at hz;go_wp2;go_ret;exact⟨qo hz.out.symm,e1⟩
theorem V6 {R:Nat->Raw} (h:LsR N lo hi w v n R)  (g:Nat->Bool)
  (hf:∀ i,i < n->∀ w' u,Ext w w'->xy N w' u (R i)->Calls Tryz.prog 97 #[u] w' (zG w' (.bool (g i)))) :
  Calls Tryz.prog 92 #[v,.func (.func 97) #[] #[]] w (YW w (jf n g)):=by
 obtain⟨r,hr⟩:=qf (jf n g);rw [<-hr.out];obtain⟨A,c,rfl,hnc,hcm⟩:=h.form;unfold maxLen at hcm;have hI:=h;have HF:=q_h hf;clear h hf;go_enter Tryz.func92,Tryz.ntmps92;go_wp2
 go_loopw [8] (fun i wr=>∃ k:Nat,k<=n/\i=.int .i64 k/\Hid (∀ j,j < k->g j=false)/\Ext w wr) (fun i _=>n - (intOf i).toNat)
 case atStart=>exact⟨0,Nat.zero_le _,rfl,fun j hj=>absurd hj (by omega),Ext.refl w⟩
 case round =>
  obtain⟨k,hk,rfl,HA,hE⟩:=hrel
  by_cases hlt:k < n
  ·(obtain⟨b,off,rfl,-,-,hx⟩:=(hI.ext hE).addr (by omega)); (obtain⟨A1,n1,c1,A2,n2,c2,p0,p1,p2,p3,hv⟩:=(hx k hlt).val)
   clear hx;go_wp2_with (go_at_call 97; refine q_o ?_);refine (HF.out k hlt _ _ hE hv).mono ?_;rintro e w1 ⟨rfl,e1⟩;replace hE:=hE.trans e1;obtain⟨o,ho⟩:=qf (g k);rw [<-ho.out];cases o with
   | false =>
    go_wp2;go_roundw
    case rel=>exact⟨k+1,by omega,by go_num,xP (p:=fun j=>g j=false) HA.out ho.out.symm,hE⟩
    case measure=>simp [intOf]; omega
   | true =>
    have HT:Hid (r=true):=by rw [Hid,hr.out]; exact jR hlt ho.out.symm
    go_wp2;go_ret;exact⟨_,rfl,by rw [Hid,HT.out]; symm; simp,hE⟩
  ·have HT:Hid (r=false):=by rw [Hid,hr.out]; exact kD.2 (fun j hj=>HA.out j (by omega))
   go_wp2;go_ret;exact⟨_,rfl,by rw [Hid,HT.out]; rfl,hE⟩
theorem VU {R:Nat->Raw} (h:LsR N lo hi w v n R)  (g:Nat->Bool)
  (hf:∀ i,i < n->∀ w' u,Ext w w'->xy N w' u (R i)->Calls Tryz.prog 97 #[u] w' (zG w' (.bool (g i)))) :
  Calls Tryz.prog 46 #[v,.func (.func 97) #[] #[]] w (zG w (.bool (jf n g))):=by
 obtain⟨r,hr⟩:=qf (jf n g);rw [<-hr.out];obtain⟨A,c,rfl,hnc,hcm⟩:=h.form;have hI:=h;have HF:=q_h hf;clear h hf;go_enter Tryz.func46,Tryz.ntmps46;go_wp2_with (go_at_call 92; refine q_o ?_);refine (V6 hI  g HF.out).mono ?_;rintro e w1 ⟨z,rfl,hz,e1⟩;rw [<-hr.out] at hz;go_wp2;go_ret;exact⟨qo hz.out.symm,e1⟩
def q1E (G:Grd) (k:Nat) (R:Nat->Raw):Bool:=decide (G.n<=30) && allB k (fun i=>Qc (R i))
theorem l49_few {lo' hi':Nat} {u:Value} {R:Nat->Raw} (h:Ze N lo hi w v G) (hx:LsR N lo' hi' w u k R) :
  Calls Tryz.prog 11 #[v,u] w (zG w (.bool (q1E G k R))):=by
 obtain⟨A,c,rfl,hnc,hcm,hz⟩:=h.parts;obtain⟨A',c',rfl,-,-⟩:=hx.form;obtain⟨r,hr⟩:=qf (q1E G k R);rw [<-hr.out];have hI:=hx;unfold maxLen at hcm;clear h hz hx;obtain⟨n,hn⟩:=qf G.n;rw [<-hn.out] at hnc ⊢;go_enter Tryz.func11,Tryz.ntmps11;go_upto_region 1 with (fail);refine ql ?_;intro W hE hsz B0;obtain⟨a0,a1,a2,a3,a4,a5⟩:=xk B0
 by_cases h1:n<=30
 ·have t1:decide ((n:Int)<=30)=true:=by simp; omega
  have HR:Hid (r=!jf k (fun i=>!Qc (R i))):=by rw [Hid,hr.out,YU]; unfold q1E; rw [<-hn.out,q_t h1]; rfl
  obtain⟨s,hs⟩:=qf (jf k (fun i=>!Qc (R i)));rw [<-hs.out] at HR;go_wp2_with (go_at_call 46; refine q_o ?_);refine (q0V (hI.ext hE) (fun i=>!Qc (R i)) (fun i hi w' u e hu=>q1q hu)).mono ?_;rintro e w1 ⟨rfl,e1⟩;rw [<-hs.out];go_wp2;go_ret;exact⟨qo HR.out.symm,hE.trans e1⟩
 ·have t1:decide ((n:Int)<=30)=false:=by simp; omega
  have HR:Hid (r=false):=by rw [Hid,hr.out]; unfold q1E; rw [<-hn.out,q_f h1]; rfl
  go_wp2;go_ret;exact⟨qo HR.out.symm,hE⟩
theorem jl {u:Value} {R:Nat->Raw} (hx:LsR N lo hi w u k R) (hs:∀ i,i < k->Q3 (R i)) :
  Calls Tryz.prog 50 #[u] w (zG w (.bool (allB k (fun i=>okR (R i))))):=by
 obtain⟨A',c',rfl,-,-⟩:=hx.form;obtain⟨r,hr⟩:=qf (allB k (fun i=>okR (R i)));rw [<-hr.out];have hI:=hx;have HS:=q_h hs;clear hx hs;have HR:Hid (r=!jf k (fun i=>!okR (R i))):=by rw [Hid,hr.out,YU]
 obtain⟨s,hs⟩:=qf (jf k (fun i=>!okR (R i)));rw [<-hs.out] at HR;go_enter Tryz.func50,Tryz.ntmps50;go_wp2_with (go_at_call 46; refine q_o ?_);refine (VU hI (fun i=>!okR (R i)) (fun i hi w' u e hu=>q1k hu (HS.out i hi))).mono ?_;rintro e w1 ⟨rfl,e1⟩;rw [<-hs.out];go_wp2;go_ret;exact⟨qo HR.out.symm,e1⟩
def PtW (N:Nat) (w:World) (cs:Array Value) (o:Nat) (R:Nat->Raw):Prop:=∀ i,i < 3->ArV N w cs (o+i*4) (R i)
theorem PtW.ext {cs:Array Value} {o:Nat} {R:Nat->Raw} (h:PtW N w cs o R) (e:Ext w w'):PtW N w' cs o R:=fun i hi=>(h i hi).ext e
structure PtA (N:Nat) (w:World) (cs:Array Value) (R:Nat->Raw):Prop where
 pt:PtW N w cs 0 R
 size:cs.size=12
 one:cs.toList.all (·.oneCell')=true
theorem PtA.ext {cs:Array Value} {R:Nat->Raw} (h:PtA N w cs R) (e:Ext w w'):PtA N w' cs R:=⟨h.pt.ext e,h.size,h.one⟩
theorem PtA.ls {cs:Array Value} {R:Nat->Raw} (h:PtA N w cs R) (hN:N<=w.heap.size) {t:TypeId} {fr:Nat×Nat} (hb:w.heap[b]?=some (.cells cs t fr)):LsR N 0 w.heap.size w (.slice (some ⟨b,0,none⟩) 3 3) 3 R :=
 ⟨hN,q_r,some ⟨b,0,none⟩,3,rfl,q_r,by unfold maxLen; omega,fun _=>⟨b,0,rfl,Nat.zero_le _,qI hb,fun i hi=>(h.pt i hi).at4 hb⟩⟩
def chk (G:Grd) (Ra Rb:Nat->Raw) (k:Nat) (R:Nat->Raw):Int :=
 if zC G≠0 then zC G else if allB 3 (fun i=>okR (Ra i)) && (allB 3 (fun i=>okR (Rb i)) && allB k (fun i=>okR (R i))) then 0 else 1
theorem Xx {lo' hi':Nat} {vg vm:Value} {ca cb:Array Value} {Ra Rb R:Nat->Raw} (h:Ze N lo hi w vg G) (ha:PtA N w ca Ra) (hb:PtA N w cb Rb) (hm:LsR N lo' hi' w vm k R) (sa:∀ i,i < 3->Q3 (Ra i)) (sb:∀ i,i < 3->Q3 (Rb i)) (sm:∀ i,i < k->Q3 (R i)) :
  Calls Tryz.prog 58 #[vg,.agg ca,.agg cb,vm] w (zG w (.int .i64 (chk G Ra Rb k R))):=by
 have hN:=hm.le;obtain⟨A,c,rfl,hnc,hcm,hz⟩:=h.parts;obtain⟨Am,cm,rfl,-,-⟩:=hm.form;obtain⟨r,hr⟩:=qf (chk G Ra Rb k R);rw [<-hr.out];have HG:=q_h h;have HA:=q_h ha;have HB:=q_h hb;have HM:=q_h hm;have SA:=q_h sa;have SB:=q_h sb;have SM:=q_h sm;clear h ha hb hm sa sb sm hz hnc hcm;obtain⟨q,hq⟩:=qf (zC G);obtain⟨x1,hx1⟩:=qf (allB 3 (fun i=>okR (Ra i)));obtain⟨x2,hx2⟩:=qf (allB 3 (fun i=>okR (Rb i)));obtain⟨x3,hx3⟩:=qf (allB k (fun i=>okR (R i)));have HR0:Hid (r=if q≠0 then q else if x1 && (x2 && x3) then 0 else 1):=by rw [Hid,hr.out,hq.out,hx1.out,hx2.out,hx3.out]; rfl
 clear hr;go_enter Tryz.func58,Tryz.ntmps58;go_wp2_with (go_at_call 49; refine q_o ?_);refine kV ?_;intro W hE hsz B0 B1 B2;refine (Yd (HG.out.ext hE)).mono ?_;rw [<-hq.out];rintro e w1 ⟨rfl,e1⟩;replace hE:=hE.trans e1;have B1':=e1.block B1;have B2':=e1.block B2;have hN1:N<=w1.heap.size:=by have:=hE.size; omega
 have hLA:=(HA.out.ext hE).ls hN1 B1';have hLB:=(HB.out.ext hE).ls hN1 B2';clear B0 B1 B2
 by_cases h0:q=0
 case neg =>
  have t0:(q != 0)=true:=by simpa using h0
  have HR:Hid (q=r):=by rw [Hid,HR0.out,if_pos h0]
  clear h0;go_wp2;go_ret;exact⟨qx HR.out,hE⟩
 have t0:(q != 0)=false:=by simpa using h0
 have HR1:Hid (r=if x1 && (x2 && x3) then 0 else 1):=by rw [Hid,HR0.out,if_neg (by simpa using h0)]
 clear h0 HR0;go_wp2_with (go_at_call 50; refine q_o ?_);refine (jl hLA SA.out).mono ?_;rw [<-hx1.out];rintro e w2 ⟨rfl,e2⟩;replace hE:=hE.trans e2;cases x1 with
 | false =>
  have HR:Hid (1=r):=by rw [Hid,HR1.out]; rfl
  go_wp2;go_ret;exact⟨qx HR.out,hE⟩
 | true =>
 go_wp2_with (go_at_call 50; refine q_o ?_);refine (jl (hLB.ext e2) SB.out).mono ?_;rw [<-hx2.out];rintro e w3 ⟨rfl,e3⟩;replace hE:=hE.trans e3;cases x2 with
 | false =>
  have HR:Hid (1=r):=by rw [Hid,HR1.out]; rfl
  go_wp2;go_ret;exact⟨qx HR.out,hE⟩
 | true =>
 go_wp2_with (go_at_call 50; refine q_o ?_);refine (jl (HM.out.ext hE) SM.out).mono ?_;rw [<-hx3.out];rintro e w4 ⟨rfl,e4⟩;replace hE:=hE.trans e4;cases x3 with
 | false =>
  have HR:Hid (1=r):=by rw [Hid,HR1.out]; rfl
  go_wp2;go_ret;exact⟨qx HR.out,hE⟩
 | true =>
  have HR:Hid (0=r):=by rw [Hid,HR1.out]; rfl
  go_wp2;go_ret;exact⟨qx HR.out,hE⟩
theorem q4W {c:Array Value} (h:c.size=12):∃ x0 x1 x2 x3 x4 x5 x6 x7 x8 x9 xa xb,c=#[x0,x1,x2,x3,x4,x5,x6,x7,x8,x9,xa,xb]:=by
 obtain⟨l⟩:=c;have h:l.length=12:=h;obtain⟨x0,l,rfl⟩:=List.exists_cons_of_length_eq_add_one h;replace h:=Nat.succ.inj h;obtain⟨x1,l,rfl⟩:=List.exists_cons_of_length_eq_add_one h;replace h:=Nat.succ.inj h;obtain⟨x2,l,rfl⟩:=List.exists_cons_of_length_eq_add_one h;replace h:=Nat.succ.inj h;obtain⟨x3,l,rfl⟩:=List.exists_cons_of_length_eq_add_one h;replace h:=Nat.succ.inj h;obtain⟨x4,l,rfl⟩:=List.exists_cons_of_length_eq_add_one h;replace h:=Nat.succ.inj h;obtain⟨x5,l,rfl⟩:=List.exists_cons_of_length_eq_add_one h;replace h:=Nat.succ.inj h;obtain⟨x6,l,rfl⟩:=List.exists_cons_of_length_eq_add_one h;replace h:=Nat.succ.inj h;obtain⟨x7,l,rfl⟩:=List.exists_cons_of_length_eq_add_one h;replace h:=Nat.succ.inj h;obtain⟨x8,l,rfl⟩:=List.exists_cons_of_length_eq_add_one h;replace h:=Nat.succ.inj h;obtain⟨x9,l,rfl⟩:=List.exists_cons_of_length_eq_add_one h;replace h:=Nat.succ.inj h;obtain⟨xa,l,rfl⟩:=List.exists_cons_of_length_eq_add_one h;replace h:=Nat.succ.inj h;obtain⟨xb,l,rfl⟩:=List.exists_cons_of_length_eq_add_one h;replace h:=Nat.succ.inj h;obtain rfl:=List.eq_nil_of_length_eq_zero h;exact⟨x0,x1,x2,x3,x4,x5,x6,x7,x8,x9,xa,xb,rfl⟩
theorem q0p (g0 g1 g2 g3 g4 g5 x0 x1 x2 x3 x4 x5 x6 x7 x8 x9 xa xb y0 y1 y2 y3 y4 y5 y6 y7 y8 y9 ya yb:Value) :
  Tryz.prog.built 116 [(0,.agg #[g0,g1,g2,g3,g4,g5]),(1,.agg #[x0,x1,x2,x3,x4,x5,x6,x7,x8,x9,xa,xb]),(2,.agg #[y0,y1,y2,y3,y4,y5,y6,y7,y8,y9,ya,yb])]=some #[g0,g1,g2,g3,g4,g5,x0,x1,x2,x3,x4,x5,x6,x7,x8,x9,xa,xb,y0,y1,y2,y3,y4,y5,y6,y7,y8,y9,ya,yb]:=by kernel_rfl
theorem Zw {g0 g1 g2 g3 g4 g5:Value} {ca cb:Array Value} (h:ca.size=12) (h':cb.size=12):Tryz.prog.built 116 [(0,.agg #[g0,g1,g2,g3,g4,g5]),(1,.agg ca),(2,.agg cb)]=some (#[g0,g1,g2,g3,g4,g5] ++ ca ++ cb):=by
 obtain⟨x0,x1,x2,x3,x4,x5,x6,x7,x8,x9,xa,xb,rfl⟩:=q4W h;obtain⟨y0,y1,y2,y3,y4,y5,y6,y7,y8,y9,ya,yb,rfl⟩:=q4W h';rw [q0p];simp only [List.append_toArray,List.cons_append,List.nil_append]
theorem xA {P:Program} {ops:Array Oper} {rest:List Oper} {o:Oper} {a:Act} {Q:Exit->Act->World->Prop} (hg:o.guard=none) (t:TypeId) (parts:Array (Nat×Operand)) (ho:o.op=.build t parts) {l:List (Nat×Value)} (hl:(parts.map fun (i,x)=>(i,a.eval x)).toList=l) {cells:Array Value} (hb:P.built t l=some cells)
  (h:wpList P ops Q rest (a.put o.dst (.agg cells)) w):wpList P ops Q (o :: rest) a w:=by
 refine wpList_build hg t parts ho (by rw [hl,hb]; rfl) ?_;rw [hl,hb];exact h
theorem ArV.shift {cs cs':Array Value} {o:Nat} (h:ArV N w cs (0+i*4) R) (hi:i < 3) (hc:∀ k,k < 12->cs'[o+k]?=cs[k]?):ArV N w cs' (o+i*4) R:=by
 rw [Nat.zero_add] at h;obtain⟨s,t,h1,h2,h3,h4,h5,h6⟩:=h;exact⟨s,t,by rw [hc _ (by omega)]; exact h1,by rw [Nat.add_assoc,hc _ (by omega)]; exact h2,by rw [Nat.add_assoc,hc _ (by omega)]; exact h3,by rw [Nat.add_assoc,hc _ (by omega)]; exact h4,h5,h6⟩
theorem q2f {ca cb:Array Value} {a b:Nat->Rat} (hN:N<=w.heap.size) (h:Ze N lo hi w (.agg #[.int .i64 G.x0,.int .i64 G.y0,.int .i64 G.st,.int .i64 G.wd,.int .i64 G.ht,.slice A G.n c]) G) (ha:PtA N w ca (fun i=>raw (a i))) (hb:PtA N w cb (fun i=>raw (b i))) :
  q0K N lo hi w (#[.int .i64 G.x0,.int .i64 G.y0,.int .i64 G.st,.int .i64 G.wd,.int .i64 G.ht,.slice A G.n c] ++ ca ++ cb) G a b:=by
 have sa:=ha.size;have sb:=hb.size
 have hl:∀ k,k < 6->(#[.int .i64 G.x0,.int .i64 G.y0,.int .i64 G.st,.int .i64 G.wd,.int .i64 G.ht,.slice A G.n c] ++ ca ++ cb)[k]?=(#[.int .i64 G.x0,.int .i64 G.y0,.int .i64 G.st,.int .i64 G.wd,.int .i64 G.ht,.slice A G.n c]:Array Value)[k]?:=fun k hk=>by
  rw [Array.getElem?_append_left (by rw [Array.size_append]; show k < 6+_; omega),Array.getElem?_append_left hk]
 refine⟨by rw [Array.size_append,Array.size_append,sa,sb]; rfl,?_,⟨A,c,hl 0 (by omega),hl 1 (by omega),hl 2 (by omega),hl 3 (by omega),hl 4 (by omega),hl 5 (by omega),h⟩,fun i hi=>(ha.pt i hi).shift hi (fun k hk=>?_),fun i hi=>(hb.pt i hi).shift hi (fun k hk=>?_),hN⟩
 ·rw [Array.toList_append,Array.toList_append,List.all_append,List.all_append,ha.one,hb.one]
  rfl
 ·rw [Array.getElem?_append_left (by rw [Array.size_append,sa]; show 6+k < 6+12; omega),Array.getElem?_append_right (by show 6<=6+k; omega)]
  show ca[6+k - 6]?=_
  congr 1
  omega
 ·rw [Array.getElem?_append_right (by rw [Array.size_append,sa]; show 6+12<=18+k; omega),Array.size_append,sa]
  show cb[18+k - (6+12)]?=_
  congr 1
  omega
def q59 (N:Nat) (w:World) (G:Grd) (K:Nat) (a b:Nat->Rat) (e:Ending) (w':World):Prop :=
 ∃ is v t,e=.returned (.tuple #[.bool is,v,.int .i64 0])/\qp N w' v t/\Ht (456*K+24000) t/\(is=true->clrF G a b/\t=0)/\(is=false->q0q G a b t)/\Ext w w'
theorem q2v {a b:Nat->Rat} {R:Nat->Raw} (hg:zC G=0) (hr:∀ i,i < k->okR (R i)=true):chk G (fun i=>raw (a i)) (fun i=>raw (b i)) k R=0:=by
 unfold chk;rw [if_neg (by rw [hg]; simp)];have h1:allB 3 (fun i=>okR (raw (a i)))=true:=xe.2 fun i _=>kT _
 have h2:allB 3 (fun i=>okR (raw (b i)))=true:=xe.2 fun i _=>kT _
 have h3:allB k (fun i=>okR (R i))=true:=xe.2 hr;rw [h1,h2,h3]
 rfl
theorem WE {vg:Value} {ca cb:Array Value} {a b:Nat->Rat} (h:Ze N lo hi w vg G) (hg:zC G=0) (hok:SOk G K a b) (hK:K<=150) (hN:N<=w.heap.size) (ha:PtA N w ca (fun i=>raw (a i))) (hb:PtA N w cb (fun i=>raw (b i))) :
  Calls Tryz.prog 20 #[vg,.agg ca,.agg cb] w (q59 N w G K a b):=by
 obtain⟨A,c,rfl,hnc,hcm,hz⟩:=h.parts;have hc:=q2v (a:=a) (b:=b) (k:=0) (R:=fun i=>raw (a i)) hg (fun i hi=>absurd hi (by omega));have HG:=q_h h;have HC:=q_h hc;have HA:=q_h ha;have HB:=q_h hb;have SA:Hid (∀ i,i < 3->Q3 (raw (a i))):=fun i hi=>zW ((hok.ka i hi).sz (by omega))
 have SB:Hid (∀ i,i < 3->Q3 (raw (b i))):=fun i hi=>zW ((hok.kb i hi).sz (by omega))
 have HO:=q_h hok;have ZA:=q_h ha.size;have ZB:=q_h hb.size;clear h ha hb hz hnc hcm hc hok hg;go_enter Tryz.func20,Tryz.ntmps20;go_upto_region 1 with (fail);refine Zx ?_;intro W hE hsz B0 B1 B2 B3;obtain⟨a0,a1,a2,a3,a4,a5⟩:=xk B0;refine wp_region_lit ?_;refine wpList_plain rfl (fun K hK=>?_);go_simp;refine hK _ _ ?_;clear hK K;try simp only [nr]
 refine wpList_load_row rfl 43 _ rfl _ (by rfl) _ ca _ _ B1 Tryz.underlying43 rfl (by rw [ZA.out]; exact kJ) ?_;try simp only [nr]
 refine wpList_load_row rfl 43 _ rfl _ (by rfl) _ cb _ _ B2 Tryz.underlying43 rfl (by rw [ZB.out]; exact kJ) ?_;try simp only [nr]
 go_wp2_with (go_at_call 58; refine q_o ?_);have hL0:LsR N 0 W.heap.size W (.slice none 0 0) 0 (fun i=>raw (a i)):=⟨by omega,q_r,none,0,rfl,q_r,by unfold maxLen; omega,fun h=>absurd h (by omega)⟩
 refine (Xx (HG.out.ext hE) (HA.out.ext hE) (HB.out.ext hE) hL0 SA.out SB.out (fun i hi=>absurd hi (by omega))).mono ?_;rw [HC.out];rintro e w1 ⟨rfl,e1⟩
 rename_i K9 hK9
 refine hK9 _ _ ?_;clear hK9 K9 a0 a1 a2 a3 a4 a5 hL0;try simp only [nr]
 refine wpList_plain rfl (fun K hK=>?_);go_simp;refine hK _ _ ?_;clear hK K;try simp only [nr]
 refine wpList_nil ?_;replace B0:=e1.block B0;replace B1:=e1.block B1;replace B2:=e1.block B2;replace B3:=e1.block B3;replace hE:=hE.trans e1;go_upto_region 4 with (fail);obtain⟨a0,a1,a2,a3,a4,a5⟩:=xk B0;obtain⟨cs,hcs⟩:=qf (#[.int .i64 G.x0,.int .i64 G.y0,.int .i64 G.st,.int .i64 G.wd,.int .i64 G.ht,.slice A G.n c] ++ ca ++ cb);have HSEG:Hid (q0K N lo hi w1 cs G a b):=by rw [hcs.out]; exact q2f (by have:=hE.size; omega) (HG.out.ext hE) (HA.out.ext hE) (HB.out.ext hE)
 refine wp_region_lit ?_;refine wpList_plain rfl (fun K hK=>?_);go_simp;refine hK _ _ ?_;clear hK K;try simp only [nr]
 refine wpList_load_row rfl 43 _ rfl _ (by rfl) _ ca _ _ B1 Tryz.underlying43 rfl (by rw [ZA.out]; exact kJ) ?_;try simp only [nr]
 refine wpList_load_row rfl 43 _ rfl _ (by rfl) _ cb _ _ B2 Tryz.underlying43 rfl (by rw [ZB.out]; exact kJ) ?_;try simp only [nr]
 refine xA rfl _ _ rfl (l:=[(0,.agg #[.int .i64 G.x0,.int .i64 G.y0,.int .i64 G.st,.int .i64 G.wd,.int .i64 G.ht,.slice A G.n c]),(1,.agg ca),(2,.agg cb)]) (by simp only [List.map_toArray,List.map_cons,List.map_nil]; rfl) ((Zw ZA.out ZB.out).trans (congrArg some hcs.out.symm)) ?_;try simp only [nr]
 go_wp2_with (go_at_call 63; refine q_o ?_);refine (q38 HSEG.out HO.out hK).mono ?_;clear a0 a1 a2 a3 a4 a5;rintro e w2 (⟨v,t,rfl,hv,hbk,hk,e2⟩ | ⟨rfl,hcl,e2⟩)
 ·obtain⟨bv,Av,kv,cv,A'v,k'v,c'v,rfl,hbv,yv,zv⟩:=hv.parts;go_upto_region 5 with (fail);refine ql ?_;intro w3 e3 hsz3 B4;have HBK:=q_h hbk;have HK:=q_h hk;have hRv:=hv.ext e3;replace B3:=e3.block (e2.block B3);replace hE:=(hE.trans e2).trans e3;obtain⟨g4,hg4⟩:∃ g4,g4=w2.heap.size:=⟨_,rfl⟩
  rw [<-hg4] at B4 ⊢;clear B0 B1 B2 e1 e2 hg4 hbk hk hv yv zv hsz3 e3;go_upto_region 7 with (fail);obtain⟨x0,x1,x2,x3,-⟩:=cells4 B4;obtain⟨z0,z1,z2,z3,z4,z5,z6,z7⟩:=cells4 B3;refine jE [Mn.rat N (t),Mn.t false,Mn.any,Mn.any] [some 31,some 6,none,some 8] [2,3] (rQ 2 2) 2 (by kernel_rfl) ?_ ?_
  ·show ∀ i,i < 4->_
   iterate 4 refine fs ?_ ?_
   ·exact fz
   all_goals intro hl; first | exact absurd hl (by decide) | (clear hl; refine stp rfl ?_; intro ac wi eI hB hA K hK)
   have o10:=oOf (hB 10) rfl;clear hB hA;have cc0:=eI.cell x0;have cc1:=eI.cell x1;have cc2:=eI.cell x2;have cc3:=eI.cell x3
   ·go_simp;exact q_k hK (hRv.ext eI)
   rotate_left
   all_goals clear hB hA; go_simp; exact q_k hK rfl
  intro vals wz eZ hJ;have J31:Mn.p (Mn.rat N (t)) (vals 0) wz:=hJ 0 (by decide) (by decide);have J6:vals 1=_:=hJ 1 (by decide) (by decide);clear hJ;simp only [pr,Nat.reduceAdd,J6];clear J6
  generalize vals 0=z31 at J31 ⊢
  obtain⟨bz,Az,kz,cz,Az',kz',cz',rfl,hbz,gz1,gz2⟩:=qp.parts J31;replace B3:=eZ.block B3;clear z0 z1 z2 z3 z4 z5 z6 z7;obtain⟨z0,z1,z2,z3,z4,z5,z6,z7⟩:=cells4 B3;refine qh (i:=2) rfl (by kernel_rfl) (by kernel_rfl) (fun K hK=>?_);go_simp;refine hK.out _ _ ?_;clear hK K;try simp only [nr]
  refine qh (i:=3) rfl (by kernel_rfl) (by kernel_rfl) (fun K hK=>?_);go_simp;refine hK.out _ _ ?_;clear hK K;try simp only [nr]
  refine qi (by kernel_rfl) ?_ _;obtain⟨wR,ER,FR,UR⟩:=ex4 B3 (.bool bz) (.slice Az kz cz) (.bool false) (.slice Az' kz' cz');rw [ER];have hTR:=NoU.mk B3 (by decide);obtain⟨v0,v1,v2,v3,-⟩:=cells4 FR;have hRR:qp N wR _ _:=qp.mk hbz (gz1.upd UR (by omega) hTR) (gz2.upd UR (by omega) hTR);have hEF:=UR.ext (hE.trans eZ) (by omega);go_wp2;refine bodyPost_ret (v:=.tuple #[.bool false,.agg #[.bool bz,.slice Az kz cz,.bool false,.slice Az' kz' cz'],.int .i64 0]) ?_ rfl ?_
  ·simp [results,Tryz.results20,v0,v1,v2,v3,go_sem]
  exact⟨false,_,t,rfl,hRR,HK.out,fun h=>(by cases h),fun _=>HBK.out,hEF⟩
 ·unfold jd;go_upto_region 5 with (fail);refine ql ?_;intro w3 e3 hsz3 B4;have HCL:=q_h hcl;replace B3:=e3.block (e2.block B3);replace hE:=(hE.trans e2).trans e3;clear B0 B1 B2 e1 e2 hcl hsz3 e3 B4;go_wp2_with (go_at_call 61; refine q_o ?_);refine (qW (N:=N) (by have:=hE.size; omega) 0 (by omega) (by omega)).mono ?_;rintro e w4 hh;obtain⟨bz,Az,kz,cz,Az',kz',cz',rfl,hbz,gz1,gz2,e4⟩:=hh.form;replace B3:=e4.block B3;replace hE:=hE.trans e4;obtain⟨z0,z1,z2,z3,z4,z5,z6,z7⟩:=cells4 B3;go_wp2;obtain⟨wR,ER,FR,UR⟩:=ex4 B3 (.bool bz) (.slice Az kz cz) (.bool false) (.slice Az' kz' cz');rw [ER];have hTR:=NoU.mk B3 (by decide);obtain⟨v0,v1,v2,v3,-⟩:=cells4 FR;have hRR:qp N wR _ _:=qp.mk hbz (gz1.upd UR (by omega) hTR) (gz2.upd UR (by omega) hTR);have hEF:=UR.ext hE (by omega);refine bodyPost_ret (v:=.tuple #[.bool true,.agg #[.bool bz,.slice Az kz cz,.bool false,.slice Az' kz' cz'],.int .i64 0]) ?_ rfl ?_
  ·simp [results,Tryz.results20,v0,v1,v2,v3,go_sem]
  exact⟨true,_,0,rfl,hRR,Ht.zero.mono (by omega),fun _=>⟨HCL.out,rfl⟩,fun h=>(by cases h),hEF⟩
def exC:Option Rat->Int
 | some x=>if 0 < x then 0 else 12
 | none=>12
def yK (G:Grd) (a b:Nat->Rat) (t:Rat):Int:=if 0 < t/\t < 1 then exC (exF G a b t) else 2
theorem xy.at4 {o:Nat} {x0 x1 x2 x3:Value} (h:xy N w (.agg #[x0,x1,x2,x3]) R) (h0:w.cell? ⟨b,o,none⟩=some x0) (h1:w.cell? ⟨b,o+1,none⟩=some x1) (h2:w.cell? ⟨b,o+2,none⟩=some x2) (h3:w.cell? ⟨b,o+3,none⟩=some x3):At4 N w b o R:=by
 obtain⟨s,t,e,g1,g2⟩:=h;injection e with e
 simp only [Array.mk.injEq,List.cons.injEq,and_true] at e;obtain⟨rfl,rfl,rfl,rfl⟩:=e;exact⟨_,_,h0,h1,h2,h3,g1,g2⟩
theorem q4m {x0 x1 x2 x3:Value} {t:TypeId} (hN:N<=w.heap.size) (hb:w.heap[b]?=some (.cells #[x0,x1,x2,x3] t (0,0))) (h:xy N w (.agg #[x0,x1,x2,x3]) R):LsR N 0 w.heap.size w (.slice (some ⟨b,0,none⟩) 1 1) 1 (fun _=>R) :=
 ⟨hN,q_r,some ⟨b,0,none⟩,1,rfl,q_r,by unfold maxLen; omega,fun _=>⟨b,0,rfl,Nat.zero_le _,qI hb,fun i hi=>by
  obtain rfl:i=0:=by omega
  exact h.at4 (by rw [qg hb]; rfl) (by rw [qg hb]; rfl) (by rw [qg hb]; rfl) (by rw [qg hb]; rfl)⟩⟩
theorem WF {vg vt:Value} {ca cb:Array Value} {a b:Nat->Rat} {t:Rat} (h:Ze N lo hi w vg G) (hg:zC G=0) (hok:SOk G K a b) (hkt:Ht K t) (hK:K<=100000) (ha:PtA N w ca (fun i=>raw (a i))) (hb:PtA N w cb (fun i=>raw (b i))) (ht:qp N w vt t) :
  Calls Tryz.prog 18 #[vg,.agg ca,.agg cb,vt] w (zG w (.int .i64 (yK G a b t))):=by
 have hN:=ht.le;obtain⟨A,c,rfl,hnc,hcm,hz⟩:=h.parts;have HT:=q_h ht;obtain⟨bt,At,kt,ct,At',kt',ct',rfl,-,-,-⟩:=ht.parts;obtain⟨r,hr⟩:=qf (yK G a b t);rw [<-hr.out];have hc:=q2v (a:=a) (b:=b) (k:=1) (R:=fun _=>raw t) hg (fun i hi=>kT _);have HG:=q_h h;have HC:=q_h hc;have HA:=q_h ha;have HB:=q_h hb;have SA:Hid (∀ i,i < 3->Q3 (raw (a i))):=fun i hi=>zW ((hok.ka i hi).sz (by omega))
 have SB:Hid (∀ i,i < 3->Q3 (raw (b i))):=fun i hi=>zW ((hok.kb i hi).sz (by omega))
 have ST:Hid (Sz t):=hkt.sz (by omega);have HKT:=q_h hkt;have HO:=q_h hok;have ZA:=q_h ha.size;have ZB:=q_h hb.size;clear h ha hb hz hnc hcm hc hok hg ht hkt;go_enter Tryz.func18,Tryz.ntmps18;go_upto_region 1 with (fail);refine Zx ?_;intro W hE hsz B0 B1 B2 B3;obtain⟨a0,a1,a2,a3,a4,a5⟩:=xk B0;obtain⟨x0,x1,x2,x3,-⟩:=cells4 B3;refine wp_region_lit ?_;refine wpList_plain rfl (fun K hK=>?_);go_simp;refine hK _ _ ?_;clear hK K;try simp only [nr]
 refine wpList_load_row rfl 43 _ rfl _ (by rfl) _ ca _ _ B1 Tryz.underlying43 rfl (by rw [ZA.out]; exact kJ) ?_;try simp only [nr]
 refine wpList_load_row rfl 43 _ rfl _ (by rfl) _ cb _ _ B2 Tryz.underlying43 rfl (by rw [ZB.out]; exact kJ) ?_;try simp only [nr]
 refine wpList_plain rfl (fun K hK=>?_);go_simp;refine hK _ _ ?_;clear hK K;try simp only [nr]
 refine wpList_plain rfl (fun K hK=>?_);go_simp;refine hK _ _ ?_;clear hK K;try simp only [nr]
 refine ql ?_;intro W2 hE2 hsz2 BX;replace hE:=hE.trans hE2;replace B0:=hE2.block B0;replace B1:=hE2.block B1;replace B2:=hE2.block B2;replace B3:=hE2.block B3;clear a0 a1 a2 a3 a4 a5 x0 x1 x2 x3;go_wp2_with (go_at_call 58; refine q_o ?_);refine (Xx (HG.out.ext hE) (HA.out.ext hE) (HB.out.ext hE) (q4m (R:=raw t) (by have:=hE.size; omega) BX (HT.out.ext hE)) SA.out SB.out (fun i hi=>zW ST.out)).mono ?_;rw [HC.out];rintro e w1 ⟨rfl,e1⟩;replace B0:=e1.block B0;replace B1:=e1.block B1;replace B2:=e1.block B2;replace B3:=e1.block B3;replace hE:=hE.trans e1;clear BX;go_upto_region 4 with (fail);obtain⟨x0,x1,x2,x3,-⟩:=cells4 B3;have hRt:=HT.out.ext hE;obtain⟨st,hst⟩:=qf t.num.sign
 by_cases hs1:0 < st
 case neg =>
  have p1:decide (st<=0)=true:=q_t (by omega)
  have HR:Hid (2=r):=by
   rw [Hid,hr.out];unfold yK;rw [if_neg (fun h=>hs1 (by rw [hst.out]; exact zi.2 h.1))]
  clear hs1;refine jE [Mn.rat N (t),Mn.i st,Mn.t true,Mn.t true,Mn.eq undef,Mn.eq undef,Mn.eq undef,Mn.eq undef,Mn.t true] (sM [21,22,23,24,25,26,27,28,29]) [] (rQ 9 0) 0 (by kernel_rfl) ?_ ?_
  ·show ∀ i,i < 9->_
   iterate 9 refine fs ?_ ?_
   ·exact fz
   all_goals intro hl; clear hl; refine stp rfl ?_; intro ac wi eI hB hA K hK
   have o7:=oOf (hB 7) rfl;clear hB hA;have cc0:=eI.cell x0;have cc1:=eI.cell x1;have cc2:=eI.cell x2;have cc3:=eI.cell x3
   ·go_simp;exact q_k hK (hRt.ext eI)
   obtain⟨x21,s21,j21⟩:=hA 0 21;replace j21:Mn.p (Mn.rat N (t)) x21 wi:=j21;clear hB hA
   ·go_simp;refine (kY j21 ST.out).mono ?_;rw [<-hst.out];rintro e wj ⟨rfl,ej⟩;go_wp2_with fail;exact hK.out _ _ ej rfl
   obtain⟨_,s22,rfl⟩:=hA 1 22
   rotate_left
   obtain⟨_,s23,rfl⟩:=hA 2 23
   rotate_left
   iterate 4 (obtain⟨_,s24,rfl⟩:=hA 3 24; clear hB hA; rw [if_neg (by simp [Region.wanted,yielded,s24,undef])]; exact q_k hK rfl)
   obtain⟨_,s24,rfl⟩:=hA 3 24;obtain⟨_,s28,rfl⟩:=hA 7 28
   rotate_left
   all_goals clear hB hA; go_simp; exact q_k hK rfl
  intro vals wz eZ hJ;have J29:vals 8=_:=hJ 8 (by decide) (by decide);clear hJ;simp only [pr,Nat.reduceAdd,J29];clear J29;refine qi (by kernel_rfl) ?_ _;go_wp2;go_ret;exact⟨qx HR.out,hE.trans eZ⟩
 have p1:decide (st<=0)=false:=q_f (by omega);have HT0:Hid (0 < t):=zi.1 (by rw [<-hst.out]; exact hs1);obtain⟨ct,hct⟩:=qf (YP t 1);obtain⟨pc,hpc⟩:=qf (decide (0<=ct));have p2:decide (0<=ct)=pc:=hpc.out.symm;clear hs1;refine jE [Mn.rat N (t),Mn.i st,Mn.t false,Mn.t false,Mn.rat N (t),Mn.rat N (((1:Int):Rat)),Mn.i ct,Mn.t pc,Mn.t pc] (sM [21,22,23,24,25,26,27,28,29]) [] (rQ 9 0) 0 (by kernel_rfl) ?_ ?_
 ·show ∀ i,i < 9->_
  iterate 9 refine fs ?_ ?_
  ·exact fz
  all_goals intro hl; clear hl; refine stp rfl ?_; intro ac wi eI hB hA K hK
  have o7:=oOf (hB 7) rfl;clear hB hA;have cc0:=eI.cell x0;have cc1:=eI.cell x1;have cc2:=eI.cell x2;have cc3:=eI.cell x3
  ·go_simp;exact q_k hK (hRt.ext eI)
  obtain⟨x21,s21,j21⟩:=hA 0 21;replace j21:Mn.p (Mn.rat N (t)) x21 wi:=j21;clear hB hA
  ·go_simp;refine (kY j21 ST.out).mono ?_;rw [<-hst.out];rintro e wj ⟨rfl,ej⟩;go_wp2_with fail;exact hK.out _ _ ej rfl
  obtain⟨_,s22,rfl⟩:=hA 1 22
  rotate_left
  obtain⟨_,s23,rfl⟩:=hA 2 23
  rotate_left
  obtain⟨_,s24,rfl⟩:=hA 3 24;have o7:=oOf (hB 7) rfl;clear hB hA;rw [if_pos (by simp [Region.wanted,yielded,s24])];have cc0:=eI.cell x0;have cc1:=eI.cell x1;have cc2:=eI.cell x2;have cc3:=eI.cell x3
  ·go_simp;exact q_k hK (hRt.ext eI)
  obtain⟨_,s24,rfl⟩:=hA 3 24;clear hB hA;rw [if_pos (by simp [Region.wanted,yielded,s24])]
  ·go_simp;refine (qW (q_l (by have:=hE.size; omega:N<=w1.heap.size) eI.size) 1 (by omega) (by omega)).mono ?_;rintro e wj ⟨vj,rfl,hj,ej⟩;go_wp2_with fail;exact hK.out _ _ ej hj
  obtain⟨_,s24,rfl⟩:=hA 3 24;obtain⟨x25,s25,j25⟩:=hA 4 25;replace j25:Mn.p (Mn.rat N (t)) x25 wi:=j25;obtain⟨x26,s26,j26⟩:=hA 5 26;replace j26:Mn.p (Mn.rat N (((1:Int):Rat))) x26 wi:=j26;clear hB hA;rw [if_pos (by simp [Region.wanted,yielded,s24])]
  ·go_simp;refine (jL j25 j26 ST.out (xn (by decide))).mono ?_;rw [show (t.num*(((1:Int):Rat)).den - (((1:Int):Rat)).num*t.den).sign=ct from hct.out.symm];rintro e wj ⟨rfl,ej⟩;go_wp2_with fail;exact hK.out _ _ ej rfl
  obtain⟨_,s24,rfl⟩:=hA 3 24;obtain⟨_,s27,rfl⟩:=hA 6 27;rw [if_pos (by simp [Region.wanted,yielded,s24])]
  rotate_left
  obtain⟨_,s24,rfl⟩:=hA 3 24;obtain⟨_,s28,rfl⟩:=hA 7 28
  rotate_left
  all_goals clear hB hA; go_simp; exact q_k hK rfl
 intro vals wz eZ hJ;have J29:vals 8=_:=hJ 8 (by decide) (by decide);clear hJ;simp only [pr,Nat.reduceAdd,J29];clear J29;refine qi (by kernel_rfl) ?_ _;clear x0 x1 x2 x3 hRt p2;replace B0:=eZ.block B0;replace B1:=eZ.block B1;replace B2:=eZ.block B2;replace B3:=eZ.block B3;replace hE:=hE.trans eZ;clear eZ;obtain⟨w2,hw2⟩:∃ w2,w2=wz:=⟨_,rfl⟩
 subst hw2;cases pc with
 | true =>
  have HR:Hid (2=r):=by
   rw [Hid,hr.out];unfold yK;rw [if_neg (fun h=>absurd (cmp_neg.2 h.2) (by have:=of_decide_eq_true hpc.out.symm; rw [<-hct.out]; omega))]
  clear hpc;go_wp2;go_ret;exact⟨qx HR.out,hE⟩
 | false =>
 have HT1:Hid (t < 1):=cmp_neg.1 (by have:=of_decide_eq_false hpc.out.symm; rw [<-hct.out]; omega);obtain⟨o,ho⟩:=qf (exF G a b t)
 have HR0:Hid (r=exC o):=by
  rw [Hid,hr.out,ho.out];unfold yK;rw [if_pos ⟨HT0.out,HT1.out⟩]
 clear hpc hr;go_upto_region 6 with (fail);obtain⟨a0,a1,a2,a3,a4,a5⟩:=xk B0;obtain⟨x0,x1,x2,x3,-⟩:=cells4 B3;obtain⟨cs,hcs⟩:=qf (#[.int .i64 G.x0,.int .i64 G.y0,.int .i64 G.st,.int .i64 G.wd,.int .i64 G.ht,.slice A G.n c] ++ ca ++ cb);have HSEG:Hid (q0K N lo hi w2 cs G a b):=by rw [hcs.out]; exact q2f (by have:=hE.size; omega) (HG.out.ext hE) (HA.out.ext hE) (HB.out.ext hE)
 refine wp_region_lit ?_;refine wpList_plain rfl (fun K hK=>?_);go_simp;refine hK _ _ ?_;clear hK K;try simp only [nr]
 refine wpList_load_row rfl 43 _ rfl _ (by rfl) _ ca _ _ B1 Tryz.underlying43 rfl (by rw [ZA.out]; exact kJ) ?_;try simp only [nr]
 refine wpList_load_row rfl 43 _ rfl _ (by rfl) _ cb _ _ B2 Tryz.underlying43 rfl (by rw [ZB.out]; exact kJ) ?_;try simp only [nr]
 refine xA rfl _ _ rfl (l:=[(0,.agg #[.int .i64 G.x0,.int .i64 G.y0,.int .i64 G.st,.int .i64 G.wd,.int .i64 G.ht,.slice A G.n c]),(1,.agg ca),(2,.agg cb)]) (by simp only [List.map_toArray,List.map_cons,List.map_nil]; rfl) ((Zw ZA.out ZB.out).trans (congrArg some hcs.out.symm)) ?_;try simp only [nr]
 go_wp2_with (go_at_call 62; refine q_o ?_);refine (Qq HSEG.out (HT.out.ext hE) HO.out HKT.out hK (Rat.le_of_lt HT0.out) (Rat.le_of_lt HT1.out)).mono ?_;rw [<-ho.out];clear a0 a1 a2 a3 a4 a5 x0 x1 x2 x3;rintro e w3 ⟨v7,q7,rfl,hq7,hv7,e7⟩;have HQ:=q_h hq7;obtain⟨bv,Av,kv,cv,A'v,k'v,c'v,rfl,hbv,yv,zv⟩:=qp.parts hv7;clear hq7;go_upto_region 7 with (fail);refine ql ?_;intro w9 e9 hsz9 B9;have HV:=q_h (hv7.ext e9);replace hE:=(hE.trans e7).trans e9;obtain⟨y0,y1,y2,y3,-⟩:=cells4 B9;clear hv7 yv zv hsz9 B0 B1 B2 B3 e7 e9;cases o with
 | none =>
  have HR:Hid (12=r):=HR0.out.symm;go_wp2;go_ret;exact⟨qx HR.out,hE⟩
 | some x =>
  obtain rfl:=HQ.out x rfl;have HXZ:Hid (Sz x):=(q1I HO.out.g HO.out.ka HO.out.kb HKT.out ho.out.symm).sz (by omega);obtain⟨sx',hsx⟩:=qf x.num.sign
  by_cases hx0:0 < x
  ·have p1:decide (sx'<=0)=false:=q_f (by have:=zi.2 hx0; rw [hsx.out]; omega);have HR:Hid (0=r):=by rw [Hid,HR0.out]; exact (if_pos hx0).symm
   clear hx0;go_wp2_with (go_at_call 59; refine q_o ?_);refine (kY HV.out HXZ.out).mono ?_;rw [<-hsx.out];rintro e wA ⟨rfl,eA⟩;go_wp2;go_ret;exact⟨qx HR.out,hE.trans eA⟩
  ·have p1:decide (sx'<=0)=true:=q_t (by have h9:¬ 0 < x.num.sign:=fun h=>hx0 (zi.1 h); rw [hsx.out]; omega);have HR:Hid (12=r):=by rw [Hid,HR0.out]; exact (if_neg hx0).symm
   clear hx0;go_wp2_with (go_at_call 59; refine q_o ?_);refine (kY HV.out HXZ.out).mono ?_;rw [<-hsx.out];rintro e wA ⟨rfl,eA⟩;go_wp2;go_ret;exact⟨qx HR.out,hE.trans eA⟩
theorem q4l {R':Raw} {x0 x1 x2 x3 y0 y1 y2 y3:Value} {t:TypeId} (hN:N<=w.heap.size) (hb:w.heap[b]?=some (.cells #[x0,x1,x2,x3,y0,y1,y2,y3] t (0,0))) (h:xy N w (.agg #[x0,x1,x2,x3]) R) (h':xy N w (.agg #[y0,y1,y2,y3]) R'):LsR N 0 w.heap.size w (.slice (some ⟨b,0,none⟩) 2 2) 2 (fun i=>if i=0 then R else R') :=
 ⟨hN,q_r,some ⟨b,0,none⟩,2,rfl,q_r,by unfold maxLen; omega,fun _=>⟨b,0,rfl,Nat.zero_le _,qI hb,fun i hi=>by
  have hi':i=0\/i=1:=by omega
  rcases hi' with rfl | rfl
  ·exact h.at4 (by rw [qg hb]; rfl) (by rw [qg hb]; rfl) (by rw [qg hb]; rfl) (by rw [qg hb]; rfl)
  ·exact h'.at4 (by rw [qg hb]; rfl) (by rw [qg hb]; rfl) (by rw [qg hb]; rfl) (by rw [qg hb]; rfl)⟩⟩
theorem Zv {t:TypeId} {x0 x1 x2 x3 x4 x5 x6 x7:Value} (h:w.heap[g]?=some (.cells #[x0,x1,x2,x3,x4,x5,x6,x7] t (0,0))):w.cell? ⟨g,0,none⟩=some x0/\w.cell? ⟨g,1,none⟩=some x1/\w.cell? ⟨g,2,none⟩=some x2/\w.cell? ⟨g,3,none⟩=some x3/\w.cell? ⟨g,4,none⟩=some x4/\w.cell? ⟨g,5,none⟩=some x5/\w.cell? ⟨g,6,none⟩=some x6/\w.cell? ⟨g,7,none⟩=some x7:=by
 refine⟨?_,?_,?_,?_,?_,?_,?_,?_⟩ <;> exact qg h _
theorem WT {p:Raw->Prop} {R':Raw} {c:Prop} [Decidable c] (h:p R) (h':p R'):p (if c then R else R'):=by split <;> assumption
def PlV (N:Nat) (w:World) (v:Value) (R R':Raw):Prop:=∃ x0 x1 x2 x3 y0 y1 y2 y3,v=.agg #[x0,x1,x2,x3,y0,y1,y2,y3]/\xy N w (.agg #[x0,x1,x2,x3]) R/\xy N w (.agg #[y0,y1,y2,y3]) R'
theorem PlV.parts {R':Raw} (h:PlV N w v R R'):∃ A n c B m d A' n' c' B' m' d',v=.agg #[.bool R.b1,.slice A n c,.bool R.b2,.slice B m d,.bool R'.b1,.slice A' n' c',.bool R'.b2,.slice B' m' d']/\xy N w (.agg #[.bool R.b1,.slice A n c,.bool R.b2,.slice B m d]) R/\xy N w (.agg #[.bool R'.b1,.slice A' n' c',.bool R'.b2,.slice B' m' d']) R':=by
 obtain⟨x0,x1,x2,x3,y0,y1,y2,y3,rfl,h1,h2⟩:=h;obtain⟨A,n,c,B,m,d,e,k1,k2⟩:=h1.parts;injection e with e
 simp only [Array.mk.injEq,List.cons.injEq,and_true] at e;obtain⟨rfl,rfl,rfl,rfl⟩:=e;obtain⟨A',n',c',B',m',d',e,k1,k2⟩:=h2.parts;injection e with e
 simp only [Array.mk.injEq,List.cons.injEq,and_true] at e;obtain⟨rfl,rfl,rfl,rfl⟩:=e;exact⟨A,n,c,B,m,d,A',n',c',B',m',d',rfl,h1,h2⟩
def RetHt (N:Nat) (w:World) (o:Option Rat) (e:Ending) (w':World):Prop :=
 match o with
 | some q=>∃ v,e=.returned (.tuple #[v,.int .i64 0])/\qp N w' v q/\Ext w w'
 | none=>e=.returned (.tuple #[jd,.int .i64 15])/\Ext w w'
theorem q1l {vg vp:Value} {y:Rat} (h:Ze N lo hi w vg G) (hg:zC G=0) (hp:PlV N w vp (raw x) (raw y)) (hN:N<=w.heap.size) (hkx:Ht K x) (hky:Ht K y) (hK:K<=100000) (hx : -100000000<=x/\x<=100000000) (hy : -100000000<=y/\y<=100000000) :
  Calls Tryz.prog 12 #[vg,vp] w (RetHt N w (Jd G x y)):=by
 have hG:=q2p hg;obtain⟨A,c,rfl,hnc,hcm,hz⟩:=h.parts;obtain⟨A1,n1,c1,A2,n2,c2,A3,n3,c3,A4,n4,c4,rfl,hvx,hvy⟩:=hp.parts;obtain⟨o,ho⟩:=qf (Jd G x y);rw [<-ho.out];have HG:=q_h h;have HX:Hid (qp N w _ x):=hvx;have HY:Hid (qp N w _ y):=hvy;have SX:Hid (Sz x):=hkx.sz (by omega);have SY:Hid (Sz y):=hky.sz (by omega);have HC:=q_h hg
 have HH:Hid (∀ (N lo hi:Nat) (w:World) (vg vx vy:Value),Ze N lo hi w vg G->qp N w vx x->qp N w vy y->Calls Tryz.prog 51 #[vg,vx,vy] w (q2A N w o)):=by
  intro N lo hi w vg vx vy h1 h2 h3;rw [ho.out];exact Yr h1 hG h2 h3 hkx hky (by omega) (YL hx.1 hx.2 hG.x0 hG.x1 hG.s0) (YL hy.1 hy.2 hG.y0 hG.y1 hG.s0)
 have HKX:=q_h (WX hG hkx hky (h:=(o.getD 0)));have HO:=ho;clear h hp hvx hvy hz hnc hcm ho hkx hky hx hy hg;go_enter Tryz.func12,Tryz.ntmps12;go_wp2_with (go_at_call 49; refine q_o ?_);refine kV ?_;intro W hE hsz B0 B1 B2;refine (Yd (HG.out.ext hE)).mono ?_;rw [HC.out];rintro e w1 ⟨rfl,e1⟩;replace hE:=hE.trans e1;replace B0:=e1.block B0;replace B1:=e1.block B1;replace B2:=e1.block B2;obtain⟨p0,p1,p2,p3,p4,p5,p6,p7⟩:=Zv B1;go_wp2_with (go_at_call 50; refine q_o ?_);refine qF ?_;intro W2 hE2 hsz2 BX;replace hE:=hE.trans hE2;refine (jl (q4l (R:=raw x) (R':=raw y) (by have:=hE.size; omega) BX (HX.out.ext hE) (HY.out.ext hE)) (fun i hi=>WT (p:=Q3) (zW SX.out) (zW SY.out))).mono ?_;rintro e w3 ⟨rfl,e3⟩;have HB:Hid (allB 2 (fun i=>okR (if i=0 then raw x else raw y))=true):=xe.2 fun i _=>WT (p:=fun R=>okR R=true) (kT _) (kT _)
 rw [HB.out];replace B0:=e3.block (hE2.block B0);replace B1:=e3.block (hE2.block B1);replace B2:=e3.block (hE2.block B2);replace hE:=hE.trans e3;clear p0 p1 p2 p3 p4 p5 p6 p7 BX;obtain⟨p0,p1,p2,p3,p4,p5,p6,p7⟩:=Zv B1;obtain⟨a0,a1,a2,a3,a4,a5⟩:=xk B0;go_wp2_with (go_at_call 51; refine q_o ?_);refine (HH.out N lo hi w3 _ _ _ (HG.out.ext hE) (HX.out.ext hE) (HY.out.ext hE)).mono ?_;clear p0 p1 p2 p3 p4 p5 p6 p7 a0 a1 a2 a3 a4 a5;cases o with
 | none =>
  rintro e w4 ⟨rfl,e4⟩;go_upto_region 7 with (fail);refine ql ?_;intro w5 e5 hsz5 B4;replace B2:=e5.block (e4.block B2);replace hE:=(hE.trans e4).trans e5;clear B0 B1 B4;obtain⟨z0,z1,z2,z3,z4,z5,z6,z7⟩:=cells4 B2;go_wp2;obtain⟨wR,ER,FR,UR⟩:=ex4 B2 (.bool false) (.slice none 0 0) (.bool false) (.slice none 0 0);rw [ER];obtain⟨v0,v1,v2,v3,-⟩:=cells4 FR;refine bodyPost_ret (v:=.tuple #[jd,.int .i64 (15)]) ?_ rfl ?_
  ·simp [results,Tryz.results12,v0,v1,v2,v3,go_sem,jd]
  exact⟨rfl,UR.ext hE (by omega)⟩
 | some q =>
  rintro e w4 ⟨v,rfl,hv,e4⟩;obtain⟨bv,Av,kv,cv,A'v,k'v,c'v,rfl,hbv,yv,zv⟩:=hv.parts;go_upto_region 7 with (fail);refine ql ?_;intro w5 e5 hsz5 B4;replace B2:=e5.block (e4.block B2);replace hE:=(hE.trans e4).trans e5;replace yv:=yv.ext e5;replace zv:=zv.ext e5;clear B0 B1;obtain⟨x0,x1,x2,x3,-⟩:=cells4 B4;obtain⟨z0,z1,z2,z3,z4,z5,z6,z7⟩:=cells4 B2;go_wp2;obtain⟨wR,ER,FR,UR⟩:=ex4 B2 (.bool bv) (.slice Av kv cv) (.bool false) (.slice A'v k'v c'v);rw [ER];have hTR:=NoU.mk B2 (by decide);obtain⟨v0,v1,v2,v3,-⟩:=cells4 FR;have hRR:qp N wR _ _:=qp.mk hbv (yv.upd UR (by omega) hTR) (zv.upd UR (by omega) hTR);refine bodyPost_ret (v:=.tuple #[.agg #[.bool bv,.slice Av kv cv,.bool false,.slice A'v k'v c'v],.int .i64 0]) ?_ rfl ?_
  ·simp [results,Tryz.results12,v0,v1,v2,v3,go_sem]
  exact⟨_,rfl,hRR,UR.ext hE (by omega)⟩
def Mn.pt (N:Nat) (p:Nat->Rat):Mn:=⟨fun v w=>∃ cs:Array Value,v=.agg cs/\cs.size=12/\cs.toList.all (·.oneCell')=true/\PtV N w cs 0 p,fun e h=>by
 obtain⟨cs,h0,h1,h2,h3⟩:=h
 exact⟨cs,h0,h1,h2,h3.ext e⟩⟩
theorem q1T (x0 x1 x2 x3 y0 y1 y2 y3 z0 z1 z2 z3:Value):Tryz.prog.built 43 [(0,.agg #[x0,x1,x2,x3]),(1,.agg #[y0,y1,y2,y3]),(2,.agg #[z0,z1,z2,z3])]=some #[x0,x1,x2,x3,y0,y1,y2,y3,z0,z1,z2,z3]:=by kernel_rfl
theorem yN {o:Oper} {a:Act} {K:Act->World->Prop} {Q:Exit->Act->World->Prop} (ty:TypeId) (x y:Operand) (ho:o.op=.store ty x y) {cs old:Array Value} {t:TypeId} (hx:a.eval x=.pointer (some ⟨g,0,none⟩)) (hy:a.eval y=.agg cs)
  (hg:w.heap[g]?=some (.cells old t (0,0))) {sz:Nat} (hi:(Tryz.prog.info? ty).map (·.size)=some sz) (hsz:cs.size=sz) (hold:old.size=cs.size) (h1:cs.toList.all (·.oneCell')=true)
  (h:∀ w',w'.heap[g]?=some (.cells cs t (0,0))->Upd g w w'->K (a.put o.dst undef) w'):o.wp Tryz.prog a w K Q :=
 wp_store_row ty x y ho g _ hx hy t _ hg (by rw [hsz]; exact hi) hold (by rw [<-Array.all_toList]; exact h1) (h _ (setRow_heap w g old cs t (0,0) hg) ⟨rfl,rfl,rfl,by simp [World.setRow],fun k hk=>setRow_other w g k cs hk⟩)
structure Tri where
 i:Int
 j:Int
 l:Bool
 z0:Int
 z1:Int
 z2:Int
def Tri.cells (t:Tri):List Value:=[.int .i64 t.i,.int .i64 t.j,.bool t.l,.int .i64 t.z0,.int .i64 t.z1,.int .i64 t.z2]
def vV (base:Nat) (w:World) (v:Value) (ts:List Tri):Prop:=base<=w.heap.size/\w.ownsRow base 109 6 v ts.length (ts.flatMap Tri.cells)
theorem flat_get:∀ (ts:List Tri) (k:Nat) (t:Tri) (r:Nat),ts[k]?=some t->r < 6->(ts.flatMap Tri.cells)[k*6+r]?=t.cells[r]?
 | [],_,_,_,h,_=>by simp at h
 | a :: ts,0,t,r,h,hr=>by
  simp only [List.getElem?_cons_zero,Option.some.injEq] at h;subst h;rw [List.flatMap_cons,Nat.zero_mul,Nat.zero_add,List.getElem?_append_left (by show r < 6; exact hr)]
 | a :: ts,k+1,t,r,h,hr=>by
  rw [List.getElem?_cons_succ] at h;rw [List.flatMap_cons,List.getElem?_append_right (by show 6<=_; omega)];have:=flat_get ts k t r h hr;rw [<-this]
  show (ts.flatMap Tri.cells)[(k+1)*6+r - 6]?=_
  congr 1
  omega
theorem vV.nil (h:base<=w.heap.size):vV base w (.slice none 0 0) []:=⟨h,by simp,.inl ⟨rfl,rfl⟩⟩
theorem vV.form {ts:List Tri} (h:vV base w v ts):∃ A c,v=.slice A ts.length c:=by
 rcases h.2.2 with ⟨rfl,h0⟩ | ⟨g,cap,cur,rfl,_⟩
 ·exact⟨_,_,by rw [h0]⟩
 ·exact⟨_,_,rfl⟩
theorem vV.ext {ts:List Tri} (h:vV base w v ts) (e:Ext w w'):vV base w' v ts:=by
 refine⟨q_l h.1 e.size,h.2.1,?_⟩
 rcases h.2.2 with h0 | ⟨g,cap,cur,hv,hb,hh,h1,h2,h3,h4⟩
 ·exact .inl h0
 ·exact .inr ⟨g,cap,cur,hv,hb,e.block hh,h1,h2,h3,h4⟩
theorem vV.own_lt {ts:List Tri} (h:vV base w v ts):∀ k,v.ownBlock=some k->base<=k/\k < w.heap.size:=by
 rcases h.2.2 with ⟨rfl,h0⟩ | ⟨g,cap,cur,rfl,hb,hh,-⟩
 ·intro k hk; simp [Value.ownBlock] at hk
 ·intro k hk;obtain rfl:g=k:=by simpa [Value.ownBlock] using hk
  exact⟨hb,qI hh⟩
theorem vV.mono {base':Nat} {ts:List Tri} (h:vV base w v ts) (hb:base'<=base):vV base' w v ts:=by
 refine⟨q_l hb h.1,h.2.1,?_⟩
 rcases h.2.2 with h0 | ⟨g,cap,cur,hv,hB,hh,h1,h2,h3,h4⟩
 ·exact .inl h0
 ·exact .inr ⟨g,cap,cur,hv,q_l hb hB,hh,h1,h2,h3,h4⟩
theorem vV.cell {ts:List Tri} (h:vV base w (.slice A n c) ts) {t:Tri} (ht:ts[k]?=some t):∃ g,A=some ⟨g,0,none⟩/\∀ r,r < 6->w.cell? ⟨g,k*6+r,none⟩=t.cells[r]?:=by
 have hk:=(List.getElem?_eq_some_iff.1 ht).1
 rcases h.2.2 with ⟨-,h⟩ | ⟨g,cap,cur,hv,hb,hg,hnc,hcm,hcs,htk⟩
 ·omega
 ·injection hv with e1 e2 e3
  refine⟨g,e1,fun r hr=>?_⟩;rw [qg hg,<-flat_get ts k t r ht hr,<-htk];rw [List.getElem?_take,if_pos (by omega)]
  simp
end Go.Proofs.YtphpkhoeplcedaaGreat
