import Derived.Test.YtphpkhoeplcedaaGreatWb23
import Derived.Test.YtphpkhoeplcedaaGreatWb13
import Derived.Test.YtphpkhoeplcedaaGreatWb28
import Derived.Test.YtphpkhoeplcedaaGreatWb32
import Derived.Test.YtphpkhoeplcedaaGreatWb24
set_option linter.all false
set_option maxHeartbeats 8000000
namespace Go.Proofs.YtphpkhoeplcedaaGreat
open Go.RowKit
theorem okB_int {N:Nat} {w:World} {b:Bool} {A:Option Addr} {n c:Nat} {z:Int} (hb:Hid (b=decide (z < 0))) (h:Gs N w (.slice A n c) (dg z.natAbs)):okB b (dg z.natAbs)=true:=by
 have h1:=okR_raw ((z:Int):Rat);unfold okR raw at h1;simp only [Bool.and_eq_true] at h1;have h2:=h1.1.1.1;rw [Rat.num_intCast] at h2;rw [hb.out];exact h2
theorem f_counted {N:Nat} {w:World} {b:Bool} {A:Option Addr} {n c:Nat} {z:Int} (hb:Hid (b=decide (z < 0))) (h:Gs N w (.slice A n c) (dg z.natAbs)) :
  Calls Tryz.prog 211 #[.agg #[.bool b,.slice A n c]] w (RetV w (.agg #[.bool b,.slice A n c])):=by
 have hI:=h;have HB:=Lib.hid (okB_int hb h);clear h hb;go_enter Tryz.func211,Tryz.ntmps211;go_wp2_with (go_at_call 147; refine Hid.out ?_);refine boxesC2 ?_;intro W hE hsz B0 B1;refine (i_valid (hI.ext hE)).mono ?_;rintro e w1 ⟨rfl,e1⟩;rw [HB.out];replace hE:=hE.trans e1;replace B0:=e1.block B0;replace B1:=e1.block B1;obtain⟨a0,a1,-,-⟩:=cells2 B0;obtain⟨b0,b1,b2,b3⟩:=cells2 B1;go_wp2;obtain⟨w12,E12,F2,U⟩:=ex2 B1 (.bool b) (.slice A n c);rw [E12];obtain⟨z0,z1,-,-⟩:=cells2 F2;refine bodyPost_ret (v:=.agg #[.bool b,.slice A n c]) ?_ rfl ⟨rfl,U.ext hE (by omega)⟩;simp [results,Tryz.results211,z0,z1,go_sem]
set_option maxRecDepth 100000 in
theorem f_new {N:Nat} {w:World} {v v':Value} {x y:Int} (h:IntV N w v x) (h':IntV N w v' y) (hy:y≠0) (hL:ln x.natAbs≤10000000000) (hL':ln y.natAbs≤10000000000) :
  Calls Tryz.prog 171 #[v,v'] w (RetRC N w (Rat.divInt x y)):=by
 obtain⟨q,hq⟩:=hid_eq (Rat.divInt x y);rw [←hq.out];have hI:=h;have hI':=h';obtain⟨n1,A1,k1,c1,rfl,Hn1,hs,-⟩:=h.parts;obtain⟨n2,A2,k2,c2,rfl,Hn2,hs',-⟩:=h'.parts;have hN:=hs.le;have HY:=Lib.hid hy;have HLx:=Lib.hid hL;have HLy:=Lib.hid hL';obtain⟨sy,hsy⟩:=hid_eq y.sign
 have t1:(sy == 0)=false:=by
  have:sy≠0:=by rw [hsy.out]; intro e; exact hy (Int.sign_eq_zero_iff_zero.1 e)
  simpa using this
 clear hy hL hL' h h';go_enter Tryz.func171,Tryz.ntmps171;go_upto_region 1 with (fail);refine boxes3 ?_;intro W hE hsz B0 B1 B2;obtain⟨a0,a1,a2,a3⟩:=cells2 B0;obtain⟨b0,b1,b2,b3⟩:=cells2 B1;refine regI [Mn.eq (.agg #[.bool n1,.slice A1 k1 c1]),Mn.eq (.agg #[.bool n1,.slice A1 k1 c1]),Mn.eq (.agg #[.bool n2,.slice A2 k2 c2]),Mn.eq (.agg #[.bool n2,.slice A2 k2 c2]),Mn.any,Mn.any] [some 6,some 7,some 8,some 9,none,none] [4,5] [true,true,true,true,false,false] 2 (by kernel_rfl) ?_ ?_
 ·show ∀ i,i < 6→_
  iterate 6 refine fs ?_ ?_
  ·exact fz
  all_goals intro hl
  all_goals first | exact absurd hl (by decide) | skip
  all_goals clear hl
  all_goals refine stp rfl ?_
  all_goals intro ac wi eI hB hA K hK
  have o2:=oOf (hB 2 (by kernel_rfl)) rfl;have cc0:=eI.cell a0;have cc1:=eI.cell a1
  rotate_left
  obtain⟨_,s6,rfl⟩:=hA 0 (by kernel_rfl) 6 rfl;clear hB hA
  ·go_simp;refine (f_counted Hn1 ((hs.ext hE).ext eI)).mono ?_;rintro e wj ⟨rfl,ej⟩;go_wp2_with fail;exact hK.out _ _ ej rfl
  have o3:=oOf (hB 3 (by kernel_rfl)) rfl;have cc0:=eI.cell b0;have cc1:=eI.cell b1
  rotate_left
  obtain⟨_,s8,rfl⟩:=hA 2 (by kernel_rfl) 8 rfl;clear hB hA
  ·go_simp;refine (f_counted Hn2 ((hs'.ext hE).ext eI)).mono ?_;rintro e wj ⟨rfl,ej⟩;go_wp2_with fail;exact hK.out _ _ ej rfl
  all_goals clear hB hA
  all_goals go_simp
  all_goals exact hK.out _ _ (Ext.refl _) rfl
 intro vals wz eZ hJ;have J7:vals 1=_:=hJ 1 (by decide) (by decide);have J9:vals 3=_:=hJ 3 (by decide) (by decide);clear hJ;simp only [pr,Nat.reduceAdd,J7,J9];clear J7 J9;replace B0:=eZ.block B0;replace B1:=eZ.block B1;replace B2:=eZ.block B2;clear a0 a1 a2 a3 b0 b1 b2 b3;obtain⟨a0,a1,a2,a3⟩:=cells2 B0;obtain⟨b0,b1,b2,b3⟩:=cells2 B1;refine stepL_late (i:=4) rfl (by kernel_rfl) (by kernel_rfl) (fun K hK=>?_);go_simp;refine hK.out _ _ ?_;clear hK K;try simp only [nr]
 refine stepL_late (i:=5) rfl (by kernel_rfl) (by kernel_rfl) (fun K hK=>?_);go_simp;refine hK.out _ _ ?_;clear hK K;try simp only [nr]
 refine stepL_done (by kernel_rfl) ?_ _;obtain⟨w3,E3,F0,U3⟩:=ex2 B0 (.bool n1) (.slice A1 k1 c1);rw [E3];obtain⟨w4,E4,F1,U4⟩:=ex2 (U3.blk B1 (by omega)) (.bool n2) (.slice A2 k2 c2);rw [E4];replace F0:=U4.blk F0 (by omega);replace B2:=U4.blk (U3.blk B2 (by omega)) (by omega);replace hE:=U4.ext (U3.ext (hE.trans eZ) (by omega)) (by omega);clear E3 E4 U3 U4 B0 B1 a0 a1 a2 a3 b0 b1 b2 b3 eZ;obtain⟨a0,a1,a2,a3⟩:=cells2 F0;obtain⟨b0,b1,b2,b3⟩:=cells2 F1;go_wp2_with (go_at_call 110; refine Hid.out ?_);refine (i_sign (hI'.ext hE)).mono ?_;rintro e w1 ⟨rfl,e1⟩;rw [←hsy.out];replace hE:=hE.trans e1;replace F0:=e1.block F0;replace F1:=e1.block F1;replace B2:=e1.block B2;clear a0 a1 a2 a3 b0 b1 b2 b3;obtain⟨a0,a1,-⟩:=cells2 F0;obtain⟨b0,b1,-⟩:=cells2 F1;go_wp2_with (go_at_call 199; refine Hid.out ?_);refine (f_reduced (hI.ext hE) (hI'.ext hE) HY.out HLx.out HLy.out).mono ?_;rw [←hq.out];intro e w2 hh;obtain⟨n3,A3,k3,c3,A4,k4,c4,rfl,hb3,g3,g4,e2⟩:=hh.form;replace hE:=hE.trans e2;replace B2:=e2.block B2;obtain⟨r0,r1,r2,r3,r4,r5,r6,r7⟩:=cells4 B2;go_wp2;obtain⟨w12,E12,F2,U⟩:=ex4 B2 (.bool n3) (.slice A3 k3 c3) (.bool false) (.slice A4 k4 c4);rw [E12];obtain⟨z0,z1,z2,z3,-⟩:=cells4 F2;refine bodyPost_ret (v:=.tuple #[.agg #[.bool n3,.slice A3 k3 c3,.bool false,.slice A4 k4 c4],.int .i64 0]) ?_ rfl ⟨_,rfl,RatV.mk hb3 (g3.upd U (by omega) (NoU.mk B2 (by decide))) (g4.upd U (by omega) (NoU.mk B2 (by decide))),U.ext hE (by omega)⟩
 simp [results,Tryz.results171,z0,z1,z2,z3,go_sem]
theorem ln_i64 {n:Int} (h1 : -9223372036854775808≤n) (h2:n≤9223372036854775807):ln n.natAbs≤10000000000 :=
 Nat.le_trans (ln_le_of_lt (k:=3) (by unfold bs; show n.natAbs < 1000000000000000000000000000; omega)) (by omega)
theorem f_of {N:Nat} {w:World} (hN:N≤w.heap.size) (n d:Int) (h1 : -9223372036854775808≤n) (h2:n≤9223372036854775807) (h3 : -9223372036854775808≤d) (h4:d≤9223372036854775807) (hd:d≠0) :
  Calls Tryz.prog 117 #[.int .i64 n,.int .i64 d] w (RetRC N w (Rat.divInt n d)):=by
 obtain⟨q,hq⟩:=hid_eq (Rat.divInt n d);rw [←hq.out];have HD:=Lib.hid hd;clear hd;go_enter Tryz.func117,Tryz.ntmps117;go_wp2_with (go_at_call 149; refine Hid.out ?_);refine boxesC1 ?_;intro W hE hsz B0;refine (i_of (N:=N) (by omega) n h1 h2).mono ?_;rintro e w1 ⟨v1,rfl,i1,e1⟩;obtain⟨b5,A5,k5,c5,rfl,hb5,g5,-⟩:=i1.parts;go_wp2_with (go_at_call 149; refine Hid.out ?_);refine (i_of (N:=N) (by have:=e1.size; omega) d h3 h4).mono ?_;rintro e w2 ⟨v2,rfl,i2,e2⟩;obtain⟨b6,A6,k6,c6,rfl,hb6,g6,-⟩:=i2.parts;go_wp2_with (go_at_call 171; refine Hid.out ?_);refine (f_new (i1.ext e2) i2 HD.out (ln_i64 h1 h2) (ln_i64 h3 h4)).mono ?_;rw [←hq.out];rintro e w3 ⟨v3,rfl,hv3,e3⟩;obtain⟨n3,A3,k3,c3,A4,k4,c4,rfl,hb3,g3,g4⟩:=RatV.parts hv3;replace hE:=((hE.trans e1).trans e2).trans e3;have B2:=e3.block (e2.block (e1.block B0));obtain⟨r0,r1,r2,r3,r4,r5,r6,r7⟩:=cells4 B2;go_wp2;obtain⟨w12,E12,F2,U⟩:=ex4 B2 (.bool n3) (.slice A3 k3 c3) (.bool false) (.slice A4 k4 c4);rw [E12];obtain⟨z0,z1,z2,z3,-⟩:=cells4 F2;refine bodyPost_ret (v:=.tuple #[.agg #[.bool n3,.slice A3 k3 c3,.bool false,.slice A4 k4 c4],.int .i64 0]) ?_ rfl ⟨_,rfl,RatV.mk hb3 (g3.upd U (by omega) (NoU.mk B2 (by decide))) (g4.upd U (by omega) (NoU.mk B2 (by decide))),U.ext hE (by omega)⟩;simp [results,Tryz.results117,z0,z1,z2,z3,go_sem]
theorem SOk.mono {G:Grd} {K K':Nat} {a b:Nat→Rat} (h:SOk G K a b) (hk:K≤K'):SOk G K' a b:=⟨h.g,fun i hi=>(h.ka i hi).mono hk,fun i hi=>(h.kb i hi).mono hk,h.ba,h.bb⟩
def RetBl (N:Nat) (w:World) (G:Grd) (K:Nat) (a b:Nat→Rat) (e:Ending) (w':World):Prop :=
 (∃ v t,e=.returned (.tuple #[v,.bool true])∧RatV N w' v t∧blkF G a b t∧Ht (456*K+24000) t∧Ext w w')∨(e=.returned (.tuple #[nilRat,.bool false])∧clrF G a b∧Ext w w')
def PreC (G:Grd) (a b:Nat→Rat) (s:Rat):Prop:=∀ t,0 < t→t < s→t < 1→∀ x,exF G a b t=some x→x≤0
def PtC (G:Grd) (a b:Nat→Rat) (s:Rat):Prop:=0 < s→s < 1→∀ x,exF G a b s=some x→x≤0
theorem PreC.next {G:Grd} {a b:Nat→Rat} {s e:Rat} (h:PreC G a b s) (hp:PtC G a b s) (h':ClrB G a b s e):PreC G a b e:=clr_join (clr_at h hp) h'
theorem at4_of {N:Nat} {w:World} {b o:Nat} {q:Rat} {x0 x1 x2 x3:Value} (h:RatV N w (.agg #[x0,x1,x2,x3]) q) (h0:w.cell? ⟨b,o,none⟩=some x0) (h1:w.cell? ⟨b,o+1,none⟩=some x1) (h2:w.cell? ⟨b,o+2,none⟩=some x2) (h3:w.cell? ⟨b,o+3,none⟩=some x3):At4 N w b o (raw q):=by
 obtain⟨s,t,e,g1,g2⟩:=h;injection e with e
 simp only [Array.mk.injEq,List.cons.injEq,and_true] at e;obtain⟨rfl,rfl,rfl,rfl⟩:=e;exact⟨_,_,h0,h1,h2,h3,g1,g2⟩
theorem hit_eq (c m x f:Rat):c+1 / 2*(x / (x - f))*(m - c)=hitP c m x f:=rfl
theorem sub_ne {x f:Rat} (h:0 < x) (h':f≤0):x - f≠0:=by grind
theorem mid_bd {s e m:Rat} (h:s < e) (hm:m=1 / 2*(s+e)):s < m∧m < e:=by constructor <;> grind
theorem le_lt {a b c:Rat} (h:a≤b) (h':b < c):a < c:=by grind
theorem lt_le {a b c:Rat} (h:a < b) (h':b≤c):a < c:=by grind
theorem lt_nn {a b c:Rat} (h:a≤b) (h':b < c):a≤c:=by grind
theorem half_eq:Rat.divInt 1 2=(1 / 2:Rat):=by decide +kernel
theorem half_ht:Ht 2 (1 / 2:Rat):=by constructor <;> decide +kernel
set_option maxRecDepth 100000 in
theorem o_below {N lo hi:Nat} {w:World} {ca:Array Value} {G:Grd} {a b:Nat→Rat} {K:Nat} (hs:SegV N lo hi w ca G a b) (hok:SOk G K a b) (hK:K≤150) :
  Calls Tryz.prog 63 #[.agg ca] w (RetBl N w G K a b):=by
 have hN:=hs.le;have HS:=Lib.hid hs;have HO:=Lib.hid hok;have SZ:=Lib.hid hs.size;clear hs hok;go_enter Tryz.func63,Tryz.ntmps63;go_upto_region 1 with (fail);refine boxes2 ?_;intro W hE hsz B0 B1;refine wp_region_lit ?_;refine wpList_load_row rfl 116 _ rfl _ (by rfl) _ ca _ _ B0 Tryz.underlying116 rfl (by rw [SZ.out]; exact info_seg) ?_;try simp only [nr]
 go_wp2_with (go_at_call 116; refine Hid.out ?_);refine (o_crossings (HS.out.ext hE) HO.out (by omega)).mono ?_;rintro e w1 ⟨g,cap,n,l,rfl,hrow,hcm,hn4,hcrs,hlk,e1⟩
 rename_i K9 hK9
 refine hK9 _ _ ?_;clear hK9 K9;try simp only [nr]
 have HROW:=Lib.hid hrow;have HCR:=Lib.hid hcrs;have HLK:=Lib.hid hlk;have hn2:=hcrs.n2;have hncap:=hrow.2.1;unfold maxLen at hcm;replace B0:=e1.block B0;replace B1:=e1.block B1;replace hE:=hE.trans e1;have hs1:w.heap.size+2≤w1.heap.size:=Nat.le_trans hsz e1.size;clear hrow hcrs hlk e1 hsz;refine wpList_plain rfl (fun K hK=>?_);go_simp;refine hK _ _ ?_;clear hK K;try simp only [nr]
 refine wpList_nil ?_;go_wp2_with (go_at_call 117; refine Hid.out ?_);refine (f_of (N:=N) (by omega) 1 2 (by omega) (by omega) (by omega) (by omega) (by decide)).mono ?_;rintro e w2 ⟨v2,rfl,hv2,e2⟩;obtain⟨b3,A3,k3,c3,A4,k4,c4,rfl,hb3,gw5,gw6⟩:=RatV.parts hv2;go_upto_region 3 with (fail);refine boxes1 ?_;intro w3 e3 hsz3 BH;obtain⟨gH,hgH⟩:∃ gH,gH=w2.heap.size:=⟨_,rfl⟩
 rw [←hgH] at BH ⊢;have hgH1:w.heap.size+2≤gH:=by have:=e2.size; omega
 have HBH:Hid (BoxR N w3 gH (1 / 2)):=by rw [Hid,←half_eq]; exact BoxR.mk BH hb3 (gw5.ext e3) (gw6.ext e3)
 replace HROW:Hid (RowB N w3 g cap n l):=(HROW.out.ext e2).ext e3;have HB0:=Lib.hid (e3.block (e2.block B0));have HB1:=Lib.hid (e3.block (e2.block B1));replace hE:=(hE.trans e2).trans e3;have hN3:N≤w3.heap.size:=by have:=hE.size; omega
 clear hgH BH gw5 gw6 hb3 e2 e3 hv2 B0 B1 hs1 hsz3;go_wp2
 go_loopw [27] (fun iv wr=>∃ i:Nat,i < n∧iv=.int .i64 (i:Int)∧Hid (PreC G a b (l i))∧Ext w3 wr) (fun iv _=>n - (intOf iv).toNat)
 case atStart=>exact⟨0,by omega,rfl,fun t h0 h1=>absurd h1 (by rw [HCR.out.first]; grind),Ext.refl _⟩
 case round =>
  obtain⟨i,hin,rfl,HPRE,hEr⟩:=hrel;have t1:decide ((i:Int) < (n:Int))=true:=decide_eq_true (by omega);have hsr:=hEr.size;obtain⟨np,Ap,kp,cp,A'p,k'p,c'p,p0,p1,p2,p3,hbp,yp,zp⟩:=((HROW.out.ext hEr).2.2.2 i hin).open;have hRp:RatV N wr (.agg #[.bool np,.slice Ap kp cp,.bool false,.slice A'p k'p c'p]) (l i):=RatV.mk hbp yp zp;clear hbp yp zp;obtain⟨li,hli⟩:=hid_eq (l i);rw [←hli.out] at hRp HPRE;go_upto_region 6 with (fail);refine boxes1 ?_;intro w5 e5 hsz5 B8;obtain⟨g8,hg8⟩:∃ g8,g8=wr.heap.size:=⟨_,rfl⟩
  rw [←hg8] at B8 ⊢;have hg8l:w3.heap.size≤g8:=by omega
  have hR8:=hRp.ext e5;have hE5:Ext w3 w5:=hEr.trans e5;have hg85:g8 < w5.heap.size:=blk_lt B8;have HB8:=Lib.hid B8;have HR8:=Lib.hid hR8;clear p0 p1 p2 p3 hg8 B8 hRp e5 hsz5 t1 hR8 hsr hEr;have HLI:Hid (Ht (6*K+300) li):=by rw [hli.out]; exact HLK.out i hin
  have HL01:Hid (0≤li∧li≤1):=by
   rw [hli.out];have h0:=HCR.out.mono (i:=0) (j:=i) (by omega) hin;have h1:=HCR.out.mono (i:=i) (j:=n - 1) (by omega) (by omega);rw [HCR.out.first] at h0;rw [HCR.out.last] at h1;exact⟨h0,h1⟩
  have hwn:IntKind.i64.wrap ((n:Int) - 1)=(n:Int) - 1:=IntWalk.i64_in _ (by omega);have HKM:=Lib.hid (HO.out.mono (K':=12*K+603) (by omega))
  go_cut [40] (fun v wx=>v=.bool (decide (0 < i∧i+1 < n))∧wx=w5)
  case first =>
   by_cases hi0:0 < i
   ·have q1:decide (0 < (i:Int))=true:=decide_eq_true (by omega)
    by_cases hi1:i+1 < n
    ·have q2:decide ((i:Int) < (n:Int) - 1)=true:=decide_eq_true (by omega);have q3:decide (0 < i∧i+1 < n)=true:=decide_eq_true ⟨hi0,hi1⟩;go_wp2_with fail
     go_meet
     exact⟨by rw [q3],rfl⟩
    ·have q2:decide ((i:Int) < (n:Int) - 1)=false:=decide_eq_false (by omega);have q3:decide (0 < i∧i+1 < n)=false:=decide_eq_false (fun h=>hi1 h.2);go_wp2_with fail
     go_meet
     exact⟨by rw [q3],rfl⟩
   ·have q1:decide (0 < (i:Int))=false:=decide_eq_false (by omega);have q3:decide (0 < i∧i+1 < n)=false:=decide_eq_false (fun h=>hi0 h.1);go_wp2_with fail
    go_meet
    exact⟨by rw [q3],rfl⟩
  obtain⟨rfl,rfl⟩:=hcut;obtain⟨tb,htb⟩:=hid_eq (decide (0 < i∧i+1 < n));rw [←htb.out];obtain⟨w5,hw5⟩:∃ w5,w5=wc:=⟨_,rfl⟩
  subst hw5
  go_upto_if 40 with (fail)
  go_cut [] (fun wx=>Ext w5 wx∧Hid (PtC G a b li))
  case first =>
   cases tb with
   | false =>
    have HPT:Hid (PtC G a b li):=by
     intro h0 h1
     exfalso
     have h2:=of_decide_eq_false htb.out.symm
     rcases Nat.eq_zero_or_pos i with h3 | h3
     ·rw [hli.out,h3,HCR.out.first] at h0;exact absurd h0 (by decide)
     ·have h4:i=n - 1:=by omega
      rw [hli.out,h4,HCR.out.last] at h1;exact absurd h1 (by decide)
    clear htb;go_wp2_with fail
    go_meet
    exact⟨Ext.refl _,HPT⟩
   | true =>
    have hib:=of_decide_eq_true htb.out.symm;have HLP:Hid (0 < li∧li < 1):=by rw [hli.out]; exact⟨HCR.out.pos hib.1 hin,HCR.out.lt1 hib.2⟩
    clear htb hib;go_upto_region 7 with (fail);obtain⟨o,ho⟩:=hid_eq (exF G a b li);have B0c:=hE5.block HB0.out;obtain⟨x0,x1,x2,x3,-⟩:=cells4 HB8.out;refine wp_region_lit ?_;refine wpList_load_row rfl 116 _ rfl _ (by rfl) _ ca _ _ B0c Tryz.underlying116 rfl (by rw [SZ.out]; exact info_seg) ?_;try simp only [nr]
    go_wp2_with (go_at_call 62; refine Hid.out ?_);refine (o_excess (HS.out.ext (hE.trans hE5)) (HR8.out) HKM.out ((HLI.out.mono (by omega))) (by omega) (HL01.out.1) (HL01.out.2)).mono ?_;rw [←ho.out];rintro e w7 ⟨v7,q7,rfl,hq7,hv7,e7⟩;have HQ:=Lib.hid hq7;obtain⟨bv,Av,kv,cv,A'v,k'v,c'v,rfl,hbv,yv,zv⟩:=RatV.parts hv7;clear hq7 x0 x1 x2 x3 B0c;go_upto_region 8 with (fail);refine boxes1 ?_;intro w9 e9 hsz9 B9;obtain⟨g9,hg9⟩:∃ g9,g9=w7.heap.size:=⟨_,rfl⟩
    rw [←hg9] at B9 ⊢;have HV:=Lib.hid (hv7.ext e9);clear hg9 hv7 yv zv hsz9;cases o with
    | none =>
     have HPT:Hid (PtC G a b li):=fun _ _ x hx=>by rw [←ho.out] at hx; cases hx
     clear ho HV B9;go_wp2_with fail
     go_meet
     exact⟨e7.trans e9,HPT⟩
    | some x =>
     obtain rfl:=HQ.out x rfl;have hxk:=ex_ht HO.out.g HKM.out.ka HKM.out.kb (HLI.out.mono (by omega)) ho.out.symm;have HXZ:Hid (Sz x):=hxk.sz (by omega);obtain⟨sx',hsx⟩:=hid_eq x.num.sign;obtain⟨y0,y1,y2,y3,-⟩:=cells4 B9
     by_cases hx0:0 < x
     ·have p1:decide (0 < sx')=true:=decide_eq_true (by rw [hsx.out]; exact sign_pos.2 hx0);have HBK:Hid (blkF G a b li):=⟨HLP.out.1,HLP.out.2,x,ho.out.symm,hx0⟩
      go_wp2_with (go_at_call 59; refine Hid.out ?_);refine (f_sign HV.out HXZ.out).mono ?_;rw [←hsx.out];rintro e wA ⟨rfl,eA⟩;clear y0 y1 y2 y3;have hEA:=((hE5.trans e7).trans e9).trans eA;have B8A:=((e7.trans e9).trans eA).block HB8.out;have B1A:=hEA.block HB1.out;obtain⟨x0,x1,x2,x3,-⟩:=cells4 B8A;obtain⟨z0,z1,z2,z3,z4,z5,z6,z7⟩:=cells4 B1A;go_wp2;obtain⟨wR,ER,FR,UR⟩:=ex4 B1A (.bool np) (.slice Ap kp cp) (.bool false) (.slice A'p k'p c'p);rw [ER];have hTR:=NoU.mk B1A (by decide);obtain⟨v0,v1,v2,v3,-⟩:=cells4 FR;refine bodyPost_ret (v:=.tuple #[.agg #[.bool np,.slice Ap kp cp,.bool false,.slice A'p k'p c'p],.bool true]) ?_ rfl ?_
      ·simp [results,Tryz.results63,v0,v1,v2,v3,go_sem]
      exact .inl ⟨_,li,rfl,(HR8.out.ext ((e7.trans e9).trans eA)).upd UR (by omega) hTR,HBK.out,HLI.out.mono (by omega),UR.ext (hE.trans hEA) (by omega)⟩
     ·have p1:decide (0 < sx')=false:=decide_eq_false (by rw [hsx.out]; exact fun h=>hx0 (sign_pos.1 h))
      have HPT:Hid (PtC G a b li):=fun _ _ z hz=>by
       rw [←ho.out] at hz;cases hz
       exact Rat.not_lt.1 hx0
      clear hx0;go_wp2_with (go_at_call 59; refine Hid.out ?_);refine (f_sign HV.out HXZ.out).mono ?_;rw [←hsx.out];rintro e wA ⟨rfl,eA⟩;clear y0 y1 y2 y3;go_wp2_with fail
      go_meet
      exact⟨(e7.trans e9).trans eA,HPT⟩
  obtain⟨e6,HPT⟩:=hcut;obtain⟨w6,hw6⟩:∃ w6,w6=wc:=⟨_,rfl⟩
  subst hw6;have hE6:Ext w3 w6:=hE5.trans e6;clear htb
  by_cases hlast:i+1=n
  case pos =>
   have q1:((i:Int) == (n:Int) - 1)=true:=beq_iff_eq.2 (by omega)
   have HCL:Hid (clrF G a b):=by
    intro t h0 h1;refine HPRE.out t h0 ?_ h1;rw [hli.out,show i=n - 1 by omega,HCR.out.last];exact h1
   have B1A:=hE6.block HB1.out;obtain⟨z0,z1,z2,z3,z4,z5,z6,z7⟩:=cells4 B1A;have HE6:=Lib.hid hE6;clear hlast hE6 e6;go_wp2;obtain⟨wR,ER,FR,UR⟩:=ex4 B1A (.bool false) (.slice none 0 0) (.bool false) (.slice none 0 0);rw [ER];obtain⟨v0,v1,v2,v3,-⟩:=cells4 FR;refine bodyPost_ret (v:=.tuple #[nilRat,.bool false]) ?_ rfl ?_
   ·simp [results,Tryz.results63,v0,v1,v2,v3,go_sem,nilRat]
   exact .inr ⟨rfl,HCL.out,UR.ext (hE.trans HE6.out) (by omega)⟩
  have q1:((i:Int) == (n:Int) - 1)=false:=beq_eq_false_iff_ne.2 (by omega);have hi1:i+1 < n:=by omega
  obtain⟨i1,hi1'⟩:∃ i1,i1=i+1:=⟨_,rfl⟩
  have HI1:=Lib.hid hi1';have hi1n:i1 < n:=by omega
  have hwi:IntKind.i64.wrap ((i:Int)+1)=(i1:Int):=by rw [show (i:Int)+1=(i1:Int) by omega]; exact IntWalk.i64_in _ (by omega)
  clear hlast hi1';obtain⟨l1,hl1⟩:=hid_eq (l i1);have HASC:Hid (li < l1):=by rw [hli.out,hl1.out,HI1.out]; exact HCR.out.asc i hi1
  have HL1:Hid (Ht (6*K+300) l1):=by rw [hl1.out]; exact HLK.out i1 hi1n
  have HL11:Hid (0≤l1∧l1≤1):=by
   have h1:=HCR.out.mono (i:=i1) (j:=n - 1) (by omega) (by omega);rw [HCR.out.last] at h1;rw [Hid,hl1.out];refine⟨?_,h1⟩;rw [←hl1.out];exact lt_nn HL01.out.1 HASC.out
  have HQI:Hid (QuietS G a b li l1):=by rw [hli.out,hl1.out,HI1.out]; exact HCR.out.quiet i hi1
  obtain⟨mi,hmi⟩:=hid_eq (1 / 2*(li+l1));have HMB:Hid (li < mi∧mi < l1):=mid_bd HASC.out hmi.out;have hsk:Ht (12*K+601) (li+l1):=(HLI.out.add HL1.out).mono (by omega);have hmk:Ht (12*K+603) mi:=by rw [hmi.out]; exact (half_ht.mul hsk).mono (by omega)
  have HMK:=Lib.hid hmk;have HSS:Hid (Sz (li+l1)):=hsk.sz (by omega);have HM01:Hid (0 < mi∧mi < 1):=⟨le_lt HL01.out.1 HMB.out.1,lt_le HMB.out.2 HL11.out.2⟩
  have hS1:Hid (Sz li∧Sz l1):=⟨HLI.out.sz (by omega),HL1.out.sz (by omega)⟩
  clear hsk hmk;go_upto_region 11 with (fail);obtain⟨nq,Aq,kq,cq,A'q,k'q,c'q,q0,q1,q2,q3,hbq,yq,zq⟩:=((HROW.out.ext hE6).2.2.2 i1 hi1n).open;have hRq:RatV N w6 (.agg #[.bool nq,.slice Aq kq cq,.bool false,.slice A'q k'q c'q]) (l i1):=RatV.mk hbq yq zq;clear hbq yq zq;rw [←hl1.out] at hRq;have hBH:=HBH.out.ext hE6;obtain⟨nr,Ar,kr,cr,A'r,k'r,c'r,Br,hbr,yr,zr⟩:=hBH;obtain⟨r0,r1,r2,r3,-⟩:=cells4 Br;have hRr:RatV N w6 (.agg #[.bool nr,.slice Ar kr cr,.bool false,.slice A'r k'r c'r]) (1 / 2):=RatV.mk hbr yr zr;obtain⟨x0,x1,x2,x3,-⟩:=cells4 (e6.block HB8.out);have hR8:=HR8.out.ext e6;refine regI [Mn.rat N (1 / 2),Mn.rat N (li),Mn.eq (.slice (some ⟨g,0,none⟩) n cap),Mn.eq (.int .i64 (i:Int)),Mn.eq (.int .i64 (i1:Int)),Mn.eq (.pointer (some ⟨g,i1*4,none⟩)),Mn.rat N (l1),Mn.rat N (li+l1),Mn.rat N mi,Mn.blk w6.heap.size (.cells #[.bool false,.slice none 0 0,.bool false,.slice none 0 0] 29 (0,0)),Mn.any] [some 59,some 60,some 61,some 62,some 63,some 64,some 65,some 66,some 67,some 11,none] [10] [true,true,true,true,true,true,true,true,true,true,false] 1 (by kernel_rfl) ?_ ?_
  ·show ∀ i,i < 11→_
   iterate 11 refine fs ?_ ?_
   ·exact fz
   all_goals intro hl
   all_goals first | exact absurd hl (by decide) | skip
   all_goals clear hl
   all_goals refine stp rfl ?_
   all_goals intro ac wi eI hB hA K hK
   have o5:=oOf (hB 5 (by kernel_rfl)) rfl;clear hB hA;have cc0:=eI.cell r0;have cc1:=eI.cell r1;have cc2:=eI.cell r2;have cc3:=eI.cell r3
   ·go_simp;exact hK.out _ _ (Ext.refl _) (hRr.ext eI)
   have o8:=oOf (hB 8 (by kernel_rfl)) rfl;clear hB hA;have cc0:=eI.cell x0;have cc1:=eI.cell x1;have cc2:=eI.cell x2;have cc3:=eI.cell x3
   ·go_simp;exact hK.out _ _ (Ext.refl _) (hR8.ext eI)
   have o4:=oOf (hB 4 (by kernel_rfl)) rfl
   rotate_left
   have o7:=oOf (hB 7 (by kernel_rfl)) rfl
   rotate_left
   obtain⟨_,s62,rfl⟩:=hA 3 (by kernel_rfl) 62 rfl
   rotate_left
   obtain⟨_,s61,rfl⟩:=hA 2 (by kernel_rfl) 61 rfl;obtain⟨_,s63,rfl⟩:=hA 4 (by kernel_rfl) 63 rfl
   rotate_left
   obtain⟨_,s64,rfl⟩:=hA 5 (by kernel_rfl) 64 rfl;clear hB hA;have cc0:=eI.cell q0;have cc1:=eI.cell q1;have cc2:=eI.cell q2;have cc3:=eI.cell q3
   ·go_simp;exact hK.out _ _ (Ext.refl _) (hRq.ext eI)
   obtain⟨x60,s60,j60⟩:=hA 1 (by kernel_rfl) 60 rfl;replace j60:Mn.p (Mn.rat N (li)) x60 wi:=j60;obtain⟨x65,s65,j65⟩:=hA 6 (by kernel_rfl) 65 rfl;replace j65:Mn.p (Mn.rat N (l1)) x65 wi:=j65;clear hB hA
   ·go_simp;refine (o_add j60 j65 hS1.out.1 hS1.out.2).mono ?_;rintro e wj ⟨vj,rfl,hj,ej⟩;go_wp2_with fail;exact hK.out _ _ ej hj
   obtain⟨x59,s59,j59⟩:=hA 0 (by kernel_rfl) 59 rfl;replace j59:Mn.p (Mn.rat N (1 / 2)) x59 wi:=j59;obtain⟨x66,s66,j66⟩:=hA 7 (by kernel_rfl) 66 rfl;replace j66:Mn.p (Mn.rat N (li+l1)) x66 wi:=j66;clear hB hA
   ·go_simp;refine (o_mul j59 j66 (half_ht.sz (by omega)) HSS.out).mono ?_;rw [show (1 / 2:Rat)*(li+l1)=mi from hmi.out.symm];rintro e wj ⟨vj,rfl,hj,ej⟩;go_wp2_with fail;exact hK.out _ _ ej hj
   clear hB hA
   ·go_simp;refine boxes1 ?_;intro wj ej hszj BJ;exact hK.out _ _ ej ⟨_,rfl,eI.size,BJ⟩
   all_goals clear hB hA
   all_goals go_simp
   all_goals exact hK.out _ _ (Ext.refl _) rfl
  intro vals wz eZ hJ;have J67:Mn.p (Mn.rat N mi) (vals 8) wz:=hJ 8 (by decide) (by decide);have J11:Mn.p (Mn.blk w6.heap.size (.cells #[.bool false,.slice none 0 0,.bool false,.slice none 0 0] 29 (0,0))) (vals 9) wz:=hJ 9 (by decide) (by decide);clear hJ;simp only [pr,Nat.reduceAdd]
  generalize vals 8=z67 at J67 ⊢
  generalize vals 9=z11 at J11 ⊢
  obtain⟨gM,rfl,hgM,BM⟩:=J11;obtain⟨bz,Az,kz,cz,Az',kz',cz',rfl,hbz,gz1,gz2⟩:=RatV.parts J67;obtain⟨y0,y1,y2,y3,y4,y5,y6,y7⟩:=cells4 BM;refine stepL_late (i:=10) rfl (by kernel_rfl) (by kernel_rfl) (fun K hK=>?_);go_simp;refine hK.out _ _ ?_;clear hK K;try simp only [nr]
  refine stepL_done (by kernel_rfl) ?_ _;have hNM:N≤gM:=by have:=hE6.size; omega
  obtain⟨wM,EM,hBM,KM,hsM⟩:=boxSet (q:=mi) BM hNM hbz gz1 gz2;rw [EM];have e6M:Ext w6 wM:=KM.ext eZ hgM;have hE7:Ext w3 wM:=hE6.trans e6M;have hgM3:w3.heap.size≤gM:=by have:=hE6.size; omega
  have HBM:=Lib.hid hBM;have e5M:Ext w5 wM:=e6.trans e6M;clear q0 q1 q2 q3 r0 r1 r2 r3 x0 x1 x2 x3 y0 y1 y2 y3 y4 y5 y6 y7 hbz gz1 gz2 hbr yr zr Br hRr hRq hR8 EM KM BM hsM eZ hE6 e6 e6M hBM hgM;obtain⟨wN,hwN⟩:∃ wN,wN=wM:=⟨_,rfl⟩
  subst hwN;go_upto_region 12 with (fail);obtain⟨o,ho⟩:=hid_eq (exF G a b mi);have B0c:=hE7.block HB0.out;have hBM2:=HBM.out;obtain⟨nm,Am,km,cm,A'm,k'm,c'm,Bm,hbm,ym,zm⟩:=hBM2;obtain⟨m0,m1,m2,m3,-⟩:=cells4 Bm;have hRm:RatV N wN (.agg #[.bool nm,.slice Am km cm,.bool false,.slice A'm k'm c'm]) (mi):=RatV.mk hbm ym zm;clear hbm ym zm;have HRM:=Lib.hid hRm;have HBm:=Lib.hid Bm;clear hRm Bm;refine wp_region_lit ?_;refine wpList_load_row rfl 116 _ rfl _ (by rfl) _ ca _ _ B0c Tryz.underlying116 rfl (by rw [SZ.out]; exact info_seg) ?_;try simp only [nr]
  go_wp2_with (go_at_call 62; refine Hid.out ?_);refine (o_excess (HS.out.ext (hE.trans hE7)) (HRM.out) HKM.out (HMK.out) (by omega) (Rat.le_of_lt HM01.out.1) (Rat.le_of_lt HM01.out.2)).mono ?_;rw [←ho.out];rintro e w7 ⟨v7,q7,rfl,hq7,hv7,e7⟩;have HQ:=Lib.hid hq7;obtain⟨bv,Av,kv,cv,A'v,k'v,c'v,rfl,hbv,yv,zv⟩:=RatV.parts hv7;clear hq7 m0 m1 m2 m3 B0c;go_upto_region 13 with (fail);refine boxes1 ?_;intro w9 e9 hsz9 B9;obtain⟨g9,hg9⟩:∃ g9,g9=w7.heap.size:=⟨_,rfl⟩
  rw [←hg9] at B9 ⊢;have HV:=Lib.hid (hv7.ext e9);clear hg9 hv7 yv zv hsz9;have hE9:Ext w3 w9:=(hE7.trans e7).trans e9;have e59:Ext w5 w9:=(e5M.trans e7).trans e9;have eM9:Ext wN w9:=e7.trans e9;have HB9:=Lib.hid B9;clear B9 e5M e7 e9;cases o with
  | none =>
   have HNX:Hid (PreC G a b l1):=HPRE.out.next HPT.out (iv_none HQI.out HMB.out.1 HMB.out.2 ho.out.symm);rw [hl1.out] at HNX;clear ho;go_wp2;go_roundw
   case rel=>exact⟨i1,hi1n,rfl,HNX,hE9⟩
   case measure=>have:=HI1.out; simp [intOf]; omega
  | some f =>
  obtain rfl:=HQ.out f rfl;have hfk:=ex_ht HO.out.g HKM.out.ka HKM.out.kb HMK.out ho.out.symm;have HFK:=Lib.hid hfk;have HFZ:Hid (Sz f):=hfk.sz (by omega);obtain⟨sf,hsf⟩:=hid_eq f.num.sign;clear hfk;obtain⟨y0,y1,y2,y3,-⟩:=cells4 HB9.out
  by_cases hf0:0 < f
  case pos =>
   have p1:decide (0 < sf)=true:=decide_eq_true (by rw [hsf.out]; exact sign_pos.2 hf0);have HBK:Hid (blkF G a b mi):=⟨HM01.out.1,HM01.out.2,f,ho.out.symm,hf0⟩
   clear hf0;go_wp2_with (go_at_call 59; refine Hid.out ?_);refine (f_sign HV.out HFZ.out).mono ?_;rw [←hsf.out];rintro e wA ⟨rfl,eA⟩;clear y0 y1 y2 y3;have hEA:=hE9.trans eA;have BMA:=(eM9.trans eA).block HBm.out;have B1A:=hEA.block HB1.out;obtain⟨x0,x1,x2,x3,-⟩:=cells4 BMA;obtain⟨z0,z1,z2,z3,z4,z5,z6,z7⟩:=cells4 B1A;go_wp2;obtain⟨wR,ER,FR,UR⟩:=ex4 B1A (.bool nm) (.slice Am km cm) (.bool false) (.slice A'm k'm c'm);rw [ER];have hTR:=NoU.mk B1A (by decide);obtain⟨v0,v1,v2,v3,-⟩:=cells4 FR;refine bodyPost_ret (v:=.tuple #[.agg #[.bool nm,.slice Am km cm,.bool false,.slice A'm k'm c'm],.bool true]) ?_ rfl ?_
   ·simp [results,Tryz.results63,v0,v1,v2,v3,go_sem]
   exact .inl ⟨_,mi,rfl,(HRM.out.ext (eM9.trans eA)).upd UR (by omega) hTR,HBK.out,HMK.out.mono (by omega),UR.ext (hE.trans hEA) (by omega)⟩
  have p1:decide (0 < sf)=false:=decide_eq_false (by rw [hsf.out]; exact fun h=>hf0 (sign_pos.1 h));have HF0:Hid (f≤0):=Rat.not_lt.1 hf0;clear hf0;go_wp2_with (go_at_call 59; refine Hid.out ?_);refine (f_sign HV.out HFZ.out).mono ?_;rw [←hsf.out];rintro e wA ⟨rfl,eA⟩;clear y0 y1 y2 y3;have hEA:=hE9.trans eA;have e5A:=e59.trans eA;have eMA:=eM9.trans eA;go_upto_region 16 with (fail);obtain⟨nq,Aq,kq,cq,A'q,k'q,c'q,q0,q1,q2,q3,hbq,yq,zq⟩:=((HROW.out.ext hEA).2.2.2 i1 hi1n).open;have hRq:RatV N wA (.agg #[.bool nq,.slice Aq kq cq,.bool false,.slice A'q k'q c'q]) (l i1):=RatV.mk hbq yq zq;clear hbq yq zq;rw [←hl1.out] at hRq;obtain⟨x0,x1,x2,x3,-⟩:=cells4 (e5A.block HB8.out);have hR8:=HR8.out.ext e5A;refine regI [Mn.eq (.agg #[.bool np,.slice Ap kp cp,.bool false,.slice A'p k'p c'p]),Mn.eq (.slice (some ⟨g,0,none⟩) n cap),Mn.eq (.int .i64 (i:Int)),Mn.eq (.int .i64 (i1:Int)),Mn.eq (.pointer (some ⟨g,i1*4,none⟩)),Mn.eq (.agg #[.bool nq,.slice Aq kq cq,.bool false,.slice A'q k'q c'q]),Mn.bks wA.heap.size 2 (.cells #[.bool np,.slice Ap kp cp,.bool false,.slice A'p k'p c'p,.bool nq,.slice Aq kq cq,.bool false,.slice A'q k'q c'q] 29 (0,0)),Mn.eq (.int .i64 2),Mn.eq (.int .i64 0)] [some 80,some 81,some 82,some 83,some 84,some 85,some 86,some 87,some 88] [] [true,true,true,true,true,true,true,true,true] 0 (by kernel_rfl) ?_ ?_
  ·show ∀ i,i < 9→_
   iterate 9 refine fs ?_ ?_
   ·exact fz
   all_goals intro hl
   all_goals clear hl
   all_goals refine stp rfl ?_
   all_goals intro ac wi eI hB hA K hK
   have o8:=oOf (hB 8 (by kernel_rfl)) rfl;have cc0:=eI.cell x0;have cc1:=eI.cell x1;have cc2:=eI.cell x2;have cc3:=eI.cell x3;have cc4:=eI.cell q0;have cc5:=eI.cell q1;have cc6:=eI.cell q2;have cc7:=eI.cell q3
   rotate_left
   have o4:=oOf (hB 4 (by kernel_rfl)) rfl
   rotate_left
   have o7:=oOf (hB 7 (by kernel_rfl)) rfl
   rotate_left
   obtain⟨_,s82,rfl⟩:=hA 2 (by kernel_rfl) 82 rfl
   rotate_left
   obtain⟨_,s81,rfl⟩:=hA 1 (by kernel_rfl) 81 rfl;obtain⟨_,s83,rfl⟩:=hA 3 (by kernel_rfl) 83 rfl
   rotate_left
   obtain⟨_,s84,rfl⟩:=hA 4 (by kernel_rfl) 84 rfl;have cc0:=eI.cell x0;have cc1:=eI.cell x1;have cc2:=eI.cell x2;have cc3:=eI.cell x3;have cc4:=eI.cell q0;have cc5:=eI.cell q1;have cc6:=eI.cell q2;have cc7:=eI.cell q3
   rotate_left
   obtain⟨_,s80,rfl⟩:=hA 0 (by kernel_rfl) 80 rfl;obtain⟨_,s85,rfl⟩:=hA 5 (by kernel_rfl) 85 rfl;clear hB hA
   ·go_simp;refine boxes1 ?_;intro wj ej hszj BJ;exact hK.out _ _ ej ⟨_,rfl,eI.size,BJ⟩
   obtain⟨x86,s86,j86⟩:=hA 6 (by kernel_rfl) 86 rfl;replace j86:Mn.p (Mn.bks wA.heap.size 2 (.cells #[.bool np,.slice Ap kp cp,.bool false,.slice A'p k'p c'p,.bool nq,.slice Aq kq cq,.bool false,.slice A'q k'q c'q] 29 (0,0))) x86 wi:=j86;clear hB hA
   ·obtain⟨gj,rfl,hgj,BJ⟩:=j86;go_simp;exact hK.out _ _ (Ext.refl _) rfl
   rotate_left
   all_goals clear hB hA
   all_goals go_simp
   all_goals exact hK.out _ _ (Ext.refl _) rfl
  intro vals wz eZ hJ;have J86:Mn.p (Mn.bks wA.heap.size 2 (.cells #[.bool np,.slice Ap kp cp,.bool false,.slice A'p k'p c'p,.bool nq,.slice Aq kq cq,.bool false,.slice A'q k'q c'q] 29 (0,0))) (vals 6) wz:=hJ 6 (by decide) (by decide);have J87:vals 7=_:=hJ 7 (by decide) (by decide);have J88:vals 8=_:=hJ 8 (by decide) (by decide);clear hJ;simp only [pr,Nat.reduceAdd,J87,J88];clear J87 J88
  generalize vals 6=z86 at J86 ⊢
  obtain⟨gL,rfl,hgL,BL⟩:=J86;refine stepL_done (by kernel_rfl) ?_ _;have hEZ:Ext w3 wz:=hEA.trans eZ;have e5Z:=e5A.trans eZ;have eMZ:=eMA.trans eZ;have e9Z:=eA.trans eZ
  have HCC:Hid (∀ j,j < 2→At4 N wz gL (j*4) (raw (fiR li l1 j))):=by
   intro j hj;have hj':j=0∨j=1:=by omega
   rcases hj' with rfl | rfl
   ·exact at4_of (hR8.ext eZ) (by rw [cell_blk BL]; rfl) (by rw [cell_blk BL]; rfl) (by rw [cell_blk BL]; rfl) (by rw [cell_blk BL]; rfl)
   ·exact at4_of (hRq.ext eZ) (by rw [cell_blk BL]; rfl) (by rw [cell_blk BL]; rfl) (by rw [cell_blk BL]; rfl) (by rw [cell_blk BL]; rfl)
  have HCK:Hid (∀ j,Ht (6*K+300) (fiR li l1 j)∧0≤fiR li l1 j∧fiR li l1 j≤1∧(fiR li l1 j=li∨fiR li l1 j=l1)):=by
   intro j;unfold fiR
   split
   ·exact⟨HLI.out,HL01.out.1,HL01.out.2,.inl rfl⟩
   ·exact⟨HL1.out,HL11.out.1,HL11.out.2,.inr rfl⟩
  have HOM:=ho;have HVF:Hid (RatV N wz _ f):=HV.out.ext e9Z;obtain⟨gF,hgF⟩:∃ gF,g9=gF:=⟨_,rfl⟩
  subst hgF;have HBF:=Lib.hid (e9Z.block HB9.out);have HB15:=Lib.hid (e5Z.block HB8.out);have HBMZ:=Lib.hid (eMZ.block HBm.out);have HRMZ:=Lib.hid (HRM.out.ext eMZ);clear q0 q1 q2 q3 x0 x1 x2 x3 hRq hR8 BL HV HB9 ho HQ eZ e5A eMA hEA eA e59 eM9 hE9 e9Z e5Z eMZ;go_wp2
  go_loopw [88] (fun jv wr=>∃ j:Nat,j≤2∧jv=.int .i64 (j:Int)∧Hid (∀ s,s < j→∀ x,exF G a b (fiR li l1 s)=some x→x≤0)∧Ext wz wr) (fun jv _=>2 - (intOf jv).toNat)
  case atStart=>exact⟨0,by omega,rfl,fun s hs=>absurd hs (by omega),Ext.refl _⟩
  case round =>
   obtain⟨j,hj2,rfl,HNO,hEr⟩:=hrel
   by_cases hlt:j < 2
   case neg =>
    have t2:decide ((j:Int) < 2)=false:=decide_eq_false (by omega);have HNX:Hid (PreC G a b l1):=HPRE.out.next HPT.out (iv_clear HQI.out (HNO.out 0 (by omega)) (HNO.out 1 (by omega)));rw [hl1.out] at HNX;have hE9:=hEZ.trans hEr;go_wp2;go_roundw
    case rel=>exact⟨i1,hi1n,rfl,HNX,hE9⟩
    case measure=>have:=HI1.out; simp [intOf]; omega
   have t2:decide ((j:Int) < 2)=true:=decide_eq_true (by omega);have hjw:IntKind.i64.wrap ((j:Int)+1)=(j:Int)+1:=IntWalk.i64_in _ (by omega);obtain⟨nq,Aq,kq,cq,A'q,k'q,c'q,q0,q1,q2,q3,hbq,yq,zq⟩:=((HCC.out j hlt).ext hEr).open;have hRq:RatV N wr (.agg #[.bool nq,.slice Aq kq cq,.bool false,.slice A'q k'q c'q]) (fiR li l1 j):=RatV.mk hbq yq zq;clear hbq yq zq;obtain⟨c,hc⟩:=hid_eq (fiR li l1 j);have HCJ:=HCK.out j;rw [←hc.out] at hRq HCJ;have HCJ':=Lib.hid HCJ;clear HCJ;go_upto_region 19 with (fail);refine boxes1 ?_;intro wB eB hszB BC;obtain⟨gC,hgC⟩:∃ gC,gC=wr.heap.size:=⟨_,rfl⟩
   rw [←hgC] at BC ⊢;have hEB:=hEr.trans eB;have HRC:=Lib.hid (hRq.ext eB);have HBC:=Lib.hid BC;clear q0 q1 q2 q3 hgC BC hRq hszB t2 hEr eB;obtain⟨o,ho⟩:=hid_eq (exF G a b c);have B0c:=(hEZ.trans hEB).block HB0.out;obtain⟨x0,x1,x2,x3,-⟩:=cells4 HBC.out;refine wp_region_lit ?_;refine wpList_load_row rfl 116 _ rfl _ (by rfl) _ ca _ _ B0c Tryz.underlying116 rfl (by rw [SZ.out]; exact info_seg) ?_;try simp only [nr]
   go_wp2_with (go_at_call 62; refine Hid.out ?_);refine (o_excess (HS.out.ext (hE.trans (hEZ.trans hEB))) (HRC.out) HKM.out ((HCJ'.out.1.mono (by omega))) (by omega) (HCJ'.out.2.1) (HCJ'.out.2.2.1)).mono ?_;rw [←ho.out];rintro e w7 ⟨v7,q7,rfl,hq7,hv7,e7⟩;have HQ:=Lib.hid hq7;obtain⟨bv,Av,kv,cv,A'v,k'v,c'v,rfl,hbv,yv,zv⟩:=RatV.parts hv7;clear hq7 x0 x1 x2 x3 B0c;go_upto_region 20 with (fail);refine boxes1 ?_;intro w9 e9 hsz9 B9;obtain⟨g9,hg9⟩:∃ g9,g9=w7.heap.size:=⟨_,rfl⟩
   rw [←hg9] at B9 ⊢;have HV:=Lib.hid (hv7.ext e9);clear hg9 hv7 yv zv hsz9;have hE9:Ext wz w9:=(hEB.trans e7).trans e9;have eB9:Ext wB w9:=e7.trans e9;have HB9:=Lib.hid B9;clear B9 e7 e9;cases o with
   | none =>
    have HN2:Hid (∀ s,s < j+1→∀ x,exF G a b (fiR li l1 s)=some x→x≤0):=all_succ (p:=fun s=>∀ x,exF G a b (fiR li l1 s)=some x→x≤0) HNO.out (fun x hx=>by rw [←hc.out,←ho.out] at hx; cases hx);clear ho;go_wp2;go_roundw
    case rel=>exact⟨j+1,by omega,by go_num,HN2,hE9⟩
    case measure=>simp [intOf]; omega
   | some x =>
   obtain rfl:=HQ.out x rfl;have hxk:=ex_ht HO.out.g HKM.out.ka HKM.out.kb (HCJ'.out.1.mono (by omega)) ho.out.symm;have HXK:=Lib.hid hxk;have HXZ:Hid (Sz x):=hxk.sz (by omega);obtain⟨sx',hsx⟩:=hid_eq x.num.sign;clear hxk;obtain⟨y0,y1,y2,y3,-⟩:=cells4 HB9.out
   by_cases hx0:0 < x
   case neg =>
    have p2:decide (sx'≤0)=true:=decide_eq_true (by have h9:¬ 0 < x.num.sign:=fun h=>hx0 (sign_pos.1 h); rw [hsx.out]; omega);have HN2:Hid (∀ s,s < j+1→∀ x,exF G a b (fiR li l1 s)=some x→x≤0):=all_succ (p:=fun s=>∀ x,exF G a b (fiR li l1 s)=some x→x≤0) HNO.out (fun z hz=>by rw [←hc.out,←ho.out] at hz; cases hz; exact Rat.not_lt.1 hx0);clear hx0;go_wp2_with (go_at_call 59; refine Hid.out ?_);refine (f_sign HV.out HXZ.out).mono ?_;rw [←hsx.out];rintro e wC ⟨rfl,eC⟩;clear y0 y1 y2 y3;have hEC:=hE9.trans eC;go_wp2;go_roundw
    case rel=>exact⟨j+1,by omega,by go_num,HN2,hEC⟩
    case measure=>simp [intOf]; omega
   have p2:decide (sx'≤0)=false:=decide_eq_false (by have:=sign_pos.2 hx0; rw [hsx.out]; omega);have HX0:=Lib.hid hx0;clear hx0;go_wp2_with (go_at_call 59; refine Hid.out ?_);refine (f_sign HV.out HXZ.out).mono ?_;rw [←hsx.out];rintro e wC ⟨rfl,eC⟩;clear y0 y1 y2 y3;have hEC:=hE9.trans eC;have eBC:=eB9.trans eC;have HNE:Hid (x - f≠0):=sub_ne HX0.out HF0.out;have hdk:Ht (2*(12*(12*K+603)+300)+1) (x - f):=(HXK.out.sub HFK.out).mono (by omega);have HDZ:Hid (Sz (x - f)):=hdk.sz (by omega);have hqk:Ht (3*(12*(12*K+603)+300)+1) (x / (x - f)):=(HXK.out.div hdk).mono (by omega);have HQZ:Hid (Sz (x / (x - f))):=hqk.sz (by omega);have hpk:Ht (3*(12*(12*K+603)+300)+3) (1 / 2*(x / (x - f))):=(half_ht.mul hqk).mono (by omega);have HPZ:Hid (Sz (1 / 2*(x / (x - f)))):=hpk.sz (by omega);have hmk:Ht (18*K+904) (mi - c):=(HMK.out.sub HCJ'.out.1).mono (by omega);have HMZ:Hid (Sz (mi - c)):=hmk.sz (by omega);have htk:=hpk.mul hmk;have HTZ:Hid (Sz (1 / 2*(x / (x - f))*(mi - c))):=htk.sz (by omega);have HRK:Hid (Ht (456*K+24000) (hitP c mi x f)):=(HCJ'.out.1.add htk).mono (by omega);have HCZ:Hid (Sz c∧Sz mi):=⟨HCJ'.out.1.sz (by omega),HMK.out.sz (by omega)⟩
   have HBK:Hid (blkF G a b (hitP c mi x f)):=iv_hit HQI.out HMB.out.1 HMB.out.2 HL01.out.1 HL11.out.2 HCJ'.out.2.2.2 HOM.out.symm HF0.out ho.out.symm HX0.out;clear hdk hqk hpk hmk htk;go_upto_region 21 with (fail);have hBH:=HBH.out.ext (hEZ.trans hEC);obtain⟨nr,Ar,kr,cr,A'r,k'r,c'r,Br,hbr,yr,zr⟩:=hBH;obtain⟨r0,r1,r2,r3,-⟩:=cells4 Br;have hRr:RatV N wC (.agg #[.bool nr,.slice Ar kr cr,.bool false,.slice A'r k'r c'r]) (1 / 2):=RatV.mk hbr yr zr;obtain⟨y0,y1,y2,y3,-⟩:=cells4 (eC.block HB9.out);obtain⟨z0,z1,z2,z3,-⟩:=cells4 (hEC.block HBF.out);have hRX:=HV.out.ext eC;have hRF:=HVF.out.ext hEC;refine regI [Mn.rat N (1 / 2),Mn.rat N (x),Mn.rat N (x),Mn.rat N (f),Mn.rat N (x - f),Mn.rat N (x / (x - f)),Mn.rat N (1 / 2*(x / (x - f))),Mn.blk wC.heap.size (.cells #[.bool false,.slice none 0 0,.bool false,.slice none 0 0] 29 (0,0)),Mn.any] [some 105,some 106,some 107,some 108,some 109,some 110,some 111,some 18,none] [8] [true,true,true,true,true,true,true,true,false] 1 (by kernel_rfl) ?_ ?_
   ·show ∀ i,i < 9→_
    iterate 9 refine fs ?_ ?_
    ·exact fz
    all_goals intro hl
    all_goals first | exact absurd hl (by decide) | skip
    all_goals clear hl
    all_goals refine stp rfl ?_
    all_goals intro ac wi eI hB hA K hK
    have o5:=oOf (hB 5 (by kernel_rfl)) rfl;clear hB hA;have cc0:=eI.cell r0;have cc1:=eI.cell r1;have cc2:=eI.cell r2;have cc3:=eI.cell r3
    ·go_simp;exact hK.out _ _ (Ext.refl _) (hRr.ext eI)
    have o16:=oOf (hB 16 (by kernel_rfl)) rfl;clear hB hA;have cc0:=eI.cell y0;have cc1:=eI.cell y1;have cc2:=eI.cell y2;have cc3:=eI.cell y3
    ·go_simp;exact hK.out _ _ (Ext.refl _) (hRX.ext eI)
    have o16:=oOf (hB 16 (by kernel_rfl)) rfl;clear hB hA;have cc0:=eI.cell y0;have cc1:=eI.cell y1;have cc2:=eI.cell y2;have cc3:=eI.cell y3
    ·go_simp;exact hK.out _ _ (Ext.refl _) (hRX.ext eI)
    have o12:=oOf (hB 12 (by kernel_rfl)) rfl;clear hB hA;have cc0:=eI.cell z0;have cc1:=eI.cell z1;have cc2:=eI.cell z2;have cc3:=eI.cell z3
    ·go_simp;exact hK.out _ _ (Ext.refl _) (hRF.ext eI)
    obtain⟨x107,s107,j107⟩:=hA 2 (by kernel_rfl) 107 rfl;replace j107:Mn.p (Mn.rat N (x)) x107 wi:=j107;obtain⟨x108,s108,j108⟩:=hA 3 (by kernel_rfl) 108 rfl;replace j108:Mn.p (Mn.rat N (f)) x108 wi:=j108;clear hB hA
    ·go_simp;refine (o_sub j107 j108 HXZ.out HFZ.out).mono ?_;rintro e wj ⟨vj,rfl,hj,ej⟩;go_wp2_with fail;exact hK.out _ _ ej hj
    obtain⟨x106,s106,j106⟩:=hA 1 (by kernel_rfl) 106 rfl;replace j106:Mn.p (Mn.rat N (x)) x106 wi:=j106;obtain⟨x109,s109,j109⟩:=hA 4 (by kernel_rfl) 109 rfl;replace j109:Mn.p (Mn.rat N (x - f)) x109 wi:=j109;clear hB hA
    ·go_simp;refine (o_over j106 j109 HXZ.out HDZ.out HNE.out).mono ?_;rintro e wj ⟨vj,rfl,hj,ej⟩;go_wp2_with fail;exact hK.out _ _ ej hj
    obtain⟨x105,s105,j105⟩:=hA 0 (by kernel_rfl) 105 rfl;replace j105:Mn.p (Mn.rat N (1 / 2)) x105 wi:=j105;obtain⟨x110,s110,j110⟩:=hA 5 (by kernel_rfl) 110 rfl;replace j110:Mn.p (Mn.rat N (x / (x - f))) x110 wi:=j110;clear hB hA
    ·go_simp;refine (o_mul j105 j110 (half_ht.sz (by omega)) HQZ.out).mono ?_;rintro e wj ⟨vj,rfl,hj,ej⟩;go_wp2_with fail;exact hK.out _ _ ej hj
    clear hB hA
    ·go_simp;refine boxes1 ?_;intro wj ej hszj BJ;exact hK.out _ _ ej ⟨_,rfl,eI.size,BJ⟩
   intro vals wz eZ hJ;have J111:Mn.p (Mn.rat N (1 / 2*(x / (x - f)))) (vals 6) wz:=hJ 6 (by decide) (by decide);have J18:Mn.p (Mn.blk wC.heap.size (.cells #[.bool false,.slice none 0 0,.bool false,.slice none 0 0] 29 (0,0))) (vals 7) wz:=hJ 7 (by decide) (by decide);clear hJ;simp only [pr,Nat.reduceAdd]
   generalize vals 6=z111 at J111 ⊢
   generalize vals 7=z18 at J18 ⊢
   obtain⟨gP,rfl,hgP,BP⟩:=J18;obtain⟨bz,Az,kz,cz,Az',kz',cz',rfl,hbz,gz1,gz2⟩:=RatV.parts J111;obtain⟨p0,p1,p2,p3,p4,p5,p6,p7⟩:=cells4 BP;refine stepL_late (i:=8) rfl (by kernel_rfl) (by kernel_rfl) (fun K hK=>?_);go_simp;refine hK.out _ _ ?_;clear hK K;try simp only [nr]
   refine stepL_done (by kernel_rfl) ?_ _;have hNC:N≤wC.heap.size:=Nat.le_trans hN3 (hEZ.trans hEC).size;obtain⟨wP,EP,hBP,KP,hsP⟩:=boxSet (q:=1 / 2*(x / (x - f))) BP (by omega) hbz gz1 gz2;rw [EP];have eCP:Ext wC wP:=KP.ext eZ hgP;have hEP:=hEC.trans eCP;have eBP:=eBC.trans eCP;clear r0 r1 r2 r3 y0 y1 y2 y3 z0 z1 z2 z3 p0 p1 p2 p3 p4 p5 p6 p7 hbz gz1 gz2 hbr yr zr Br hRr hRX hRF EP KP BP hsP eZ eC eCP hE9 eB9 hEC eBC;obtain⟨wQ,hwQ⟩:∃ wQ,wQ=wP:=⟨_,rfl⟩
   subst hwQ;go_upto_region 22 with (fail);obtain⟨ns,As,ks,cs,A's,k's,c's,Bs,hbs,ys,zs⟩:=hBP;obtain⟨s0,s1,s2,s3,-⟩:=cells4 Bs;have hRs:RatV N wQ (.agg #[.bool ns,.slice As ks cs,.bool false,.slice A's k's c's]) (1 / 2*(x / (x - f))):=RatV.mk hbs ys zs;obtain⟨x0,x1,x2,x3,-⟩:=cells4 (eBP.block HBC.out);obtain⟨y0,y1,y2,y3,-⟩:=cells4 (hEP.block HBMZ.out);have hRC:=HRC.out.ext eBP;have hRM:=HRMZ.out.ext hEP;have B1A:=(hEZ.trans hEP).block HB1.out;obtain⟨z0,z1,z2,z3,z4,z5,z6,z7⟩:=cells4 B1A;refine regI [Mn.rat N (c),Mn.rat N (1 / 2*(x / (x - f))),Mn.rat N (mi),Mn.rat N (c),Mn.rat N (mi - c),Mn.rat N (1 / 2*(x / (x - f))*(mi - c)),Mn.rat N (hitP c mi x f),Mn.any,Mn.any] [some 112,some 113,some 114,some 115,some 116,some 117,some 118,none,some 3] [7,8] [true,true,true,true,true,true,true,false,false] 2 (by kernel_rfl) ?_ ?_
   ·show ∀ i,i < 9→_
    iterate 9 refine fs ?_ ?_
    ·exact fz
    all_goals intro hl
    all_goals first | exact absurd hl (by decide) | skip
    all_goals clear hl
    all_goals refine stp rfl ?_
    all_goals intro ac wi eI hB hA K hK
    have o15:=oOf (hB 15 (by kernel_rfl)) rfl;clear hB hA;have cc0:=eI.cell x0;have cc1:=eI.cell x1;have cc2:=eI.cell x2;have cc3:=eI.cell x3
    ·go_simp;exact hK.out _ _ (Ext.refl _) (hRC.ext eI)
    have o18:=oOf (hB 18 (by kernel_rfl)) rfl;clear hB hA;have cc0:=eI.cell s0;have cc1:=eI.cell s1;have cc2:=eI.cell s2;have cc3:=eI.cell s3
    ·go_simp;exact hK.out _ _ (Ext.refl _) (hRs.ext eI)
    have o11:=oOf (hB 11 (by kernel_rfl)) rfl;clear hB hA;have cc0:=eI.cell y0;have cc1:=eI.cell y1;have cc2:=eI.cell y2;have cc3:=eI.cell y3
    ·go_simp;exact hK.out _ _ (Ext.refl _) (hRM.ext eI)
    have o15:=oOf (hB 15 (by kernel_rfl)) rfl;clear hB hA;have cc0:=eI.cell x0;have cc1:=eI.cell x1;have cc2:=eI.cell x2;have cc3:=eI.cell x3
    ·go_simp;exact hK.out _ _ (Ext.refl _) (hRC.ext eI)
    obtain⟨x114,s114,j114⟩:=hA 2 (by kernel_rfl) 114 rfl;replace j114:Mn.p (Mn.rat N (mi)) x114 wi:=j114;obtain⟨x115,s115,j115⟩:=hA 3 (by kernel_rfl) 115 rfl;replace j115:Mn.p (Mn.rat N (c)) x115 wi:=j115;clear hB hA
    ·go_simp;refine (o_sub j114 j115 HCZ.out.2 HCZ.out.1).mono ?_;rintro e wj ⟨vj,rfl,hj,ej⟩;go_wp2_with fail;exact hK.out _ _ ej hj
    obtain⟨x113,s113,j113⟩:=hA 1 (by kernel_rfl) 113 rfl;replace j113:Mn.p (Mn.rat N (1 / 2*(x / (x - f)))) x113 wi:=j113;obtain⟨x116,s116,j116⟩:=hA 4 (by kernel_rfl) 116 rfl;replace j116:Mn.p (Mn.rat N (mi - c)) x116 wi:=j116;clear hB hA
    ·go_simp;refine (o_mul j113 j116 HPZ.out HMZ.out).mono ?_;rintro e wj ⟨vj,rfl,hj,ej⟩;go_wp2_with fail;exact hK.out _ _ ej hj
    obtain⟨x112,s112,j112⟩:=hA 0 (by kernel_rfl) 112 rfl;replace j112:Mn.p (Mn.rat N (c)) x112 wi:=j112;obtain⟨x117,s117,j117⟩:=hA 5 (by kernel_rfl) 117 rfl;replace j117:Mn.p (Mn.rat N (1 / 2*(x / (x - f))*(mi - c))) x117 wi:=j117;clear hB hA
    ·go_simp;refine (o_add j112 j117 HCZ.out.1 HTZ.out).mono ?_;rw [hit_eq];rintro e wj ⟨vj,rfl,hj,ej⟩;go_wp2_with fail;exact hK.out _ _ ej hj
   intro vals wz eZ hJ;have J118:Mn.p (Mn.rat N (hitP c mi x f)) (vals 6) wz:=hJ 6 (by decide) (by decide);clear hJ;simp only [pr,Nat.reduceAdd]
   generalize vals 6=z118 at J118 ⊢
   obtain⟨bz,Az,kz,cz,Az',kz',cz',rfl,hbz,gz1,gz2⟩:=RatV.parts J118;replace B1A:=eZ.block B1A;clear z0 z1 z2 z3 z4 z5 z6 z7;obtain⟨z0,z1,z2,z3,z4,z5,z6,z7⟩:=cells4 B1A;refine stepL_late (i:=7) rfl (by kernel_rfl) (by kernel_rfl) (fun K hK=>?_);go_simp;refine hK.out _ _ ?_;clear hK K;try simp only [nr]
   refine stepL_late (i:=8) rfl (by kernel_rfl) (by kernel_rfl) (fun K hK=>?_);go_simp;refine hK.out _ _ ?_;clear hK K;try simp only [nr]
   refine stepL_done (by kernel_rfl) ?_ _;obtain⟨wR,ER,FR,UR⟩:=ex4 B1A (.bool bz) (.slice Az kz cz) (.bool false) (.slice Az' kz' cz');rw [ER];have hTR:=NoU.mk B1A (by decide);obtain⟨v0,v1,v2,v3,-⟩:=cells4 FR;have hEF:Ext w wR:=UR.ext (((hE.trans hEZ).trans hEP).trans eZ) (by omega);have hRR:RatV N wR _ _:=RatV.mk hbz (gz1.upd UR (by omega) hTR) (gz2.upd UR (by omega) hTR);go_wp2;refine bodyPost_ret (v:=.tuple #[.agg #[.bool bz,.slice Az kz cz,.bool false,.slice Az' kz' cz'],.bool true]) ?_ rfl ?_
   ·simp [results,Tryz.results63,v0,v1,v2,v3,go_sem]
   exact .inl ⟨_,_,rfl,hRR,HBK.out,HRK.out,hEF⟩
theorem side_not {z:Int} (h:¬(2≤z∧z≤64)):sideZ z=false:=by
 unfold sideZ;cases h1:decide (2≤z) && decide (z≤64) with
 | false=>rfl
 | true=>simp only [Bool.and_eq_true,decide_eq_true_eq] at h1; exact absurd h1 h
theorem side_yes {z:Int} (h:2≤z∧z≤64):sideZ z=true:=by
 unfold sideZ;rw [decide_eq_true h.1,decide_eq_true h.2]; rfl
set_option maxRecDepth 100000 in
theorem l48_checked {N lo hi:Nat} {w:World} {v:Value} {G:Grd} (h:GrdV N lo hi w v G) :
  Calls Tryz.prog 68 #[v] w (RetV w (.int .i64 (grdCode G))):=by
 obtain⟨A,c,rfl,hnc,hcm,hz⟩:=h.parts;obtain⟨r,hr⟩:=hid_eq (grdCode G);rw [←hr.out];have HZ:=Lib.hid hz;unfold maxLen at hcm;clear h hz;go_enter Tryz.func68,Tryz.ntmps68;go_upto_region 1 with (fail);refine boxes1 ?_;intro W hE hsz B0;obtain⟨a0,a1,a2,a3,a4,a5⟩:=cells_g B0
 by_cases h1:2≤G.wd
 case neg =>
  have t1:decide (G.wd < 2)=true:=decide_eq_true (by omega);have HR:Hid (r=2):=by rw [Hid,hr.out]; exact code_frm (frm_wd (side_not (fun h=>h1 h.1)))
  go_wp2;go_ret;exact⟨ret_int HR.out.symm,hE⟩
 have t1:decide (G.wd < 2)=false:=decide_eq_false (by omega)
 by_cases h2:G.wd≤64
 case neg =>
  have t2:decide (64 < G.wd)=true:=decide_eq_true (by omega);have HR:Hid (r=2):=by rw [Hid,hr.out]; exact code_frm (frm_wd (side_not (fun h=>h2 h.2)))
  go_wp2;go_ret;exact⟨ret_int HR.out.symm,hE⟩
 have t2:decide (64 < G.wd)=false:=decide_eq_false (by omega)
 by_cases h3:2≤G.ht
 case neg =>
  have t3:decide (G.ht < 2)=true:=decide_eq_true (by omega);have HR:Hid (r=2):=by rw [Hid,hr.out]; exact code_frm (frm_ht (side_not (fun h=>h3 h.1)))
  go_wp2;go_ret;exact⟨ret_int HR.out.symm,hE⟩
 have t3:decide (G.ht < 2)=false:=decide_eq_false (by omega)
 by_cases h4:G.ht≤64
 case neg =>
  have t4:decide (64 < G.ht)=true:=decide_eq_true (by omega);have HR:Hid (r=2):=by rw [Hid,hr.out]; exact code_frm (frm_ht (side_not (fun h=>h4 h.2)))
  go_wp2;go_ret;exact⟨ret_int HR.out.symm,hE⟩
 have t4:decide (64 < G.ht)=false:=decide_eq_false (by omega)
 by_cases h5:2≤G.st
 case neg =>
  have t5:decide (G.st < 2)=true:=decide_eq_true (by omega);have HR:Hid (r=2):=by rw [Hid,hr.out]; exact code_frm (frm_st (fun h=>h5 h.1))
  go_wp2;go_ret;exact⟨ret_int HR.out.symm,hE⟩
 have t5:decide (G.st < 2)=false:=decide_eq_false (by omega)
 by_cases h6:G.st≤65536
 case neg =>
  have t6:decide (65536 < G.st)=true:=decide_eq_true (by omega);have HR:Hid (r=2):=by rw [Hid,hr.out]; exact code_frm (frm_st (fun h=>h6 h.2.1))
  go_wp2;go_ret;exact⟨ret_int HR.out.symm,hE⟩
 have t6:decide (65536 < G.st)=false:=decide_eq_false (by omega)
 by_cases h7:G.st % 2=0
 case neg =>
  have t7:(G.st % 2 != 0)=true:=by simpa using h7
  have HR:Hid (r=2):=by rw [Hid,hr.out]; exact code_frm (frm_st (fun h=>h7 h.2.2))
  go_wp2;go_ret;exact⟨ret_int HR.out.symm,hE⟩
 have t7:(G.st % 2 != 0)=false:=by simpa using h7
 go_wp2_with (go_at_call 120; refine Hid.out ?_);refine (l48_far _ G.x0).mono ?_;rintro e w1 ⟨rfl,rfl⟩;cases h8:farZ G.x0 with
 | true =>
  have HR:Hid (r=2):=by rw [Hid,hr.out]; exact code_frm (frm_x0 h8)
  go_wp2;go_ret;exact⟨ret_int HR.out.symm,hE⟩
 | false =>
 go_wp2_with (go_at_call 120; refine Hid.out ?_);refine (l48_far _ G.y0).mono ?_;rintro e w1 ⟨rfl,rfl⟩;cases h9:farZ G.y0 with
 | true =>
  have HR:Hid (r=2):=by rw [Hid,hr.out]; exact code_frm (frm_y0 h9)
  go_wp2;go_ret;exact⟨ret_int HR.out.symm,hE⟩
 | false =>
 have HF:=Lib.hid (frm_all (side_yes ⟨h1,h2⟩) (side_yes ⟨h3,h4⟩) h5 h6 h7 h8 h9);obtain⟨pr,hpr⟩:=hid_eq (G.wd*G.ht);have hp0:0≤G.wd*G.ht:=Int.mul_nonneg (by omega) (by omega);have hp1:G.wd*G.ht≤64*64:=Int.mul_le_mul h2 h4 (by omega) (by omega);have hwr:IntKind.i64.wrap (G.wd*G.ht)=pr:=by rw [hpr.out]; exact IntWalk.i64_in _ (by omega)
 clear t1 t2 t3 t4 t5 t6 t7
 by_cases hc:(G.n:Int)=pr
 case neg =>
  have HR:Hid (r=4):=by rw [Hid,hr.out]; exact code_len HF.out (by rw [←hpr.out]; exact hc)
  have t8:((G.n:Int) != pr)=true:=by simpa using hc
  clear hc;go_wp2;go_ret;exact⟨ret_int HR.out.symm,hE⟩
 have t8:((G.n:Int) != pr)=false:=by simpa using hc
 obtain⟨q,hq⟩:=hid_eq (anyB G.n (fun i=>badZ (G.z i)));have HRQ:Hid (r=if q then 2 else 0):=by rw [Hid,hr.out]; exact code_bad HF.out (by rw [←hpr.out]; exact hc) q hq.out
 clear hc h1 h2 h3 h4 h5 h6 h7 h8 h9 hp0 hp1;go_wp2;clear a0 a1 a2 a3 a4 a5
 go_loopw [61] (fun i wr=>∃ k:Nat,k≤G.n∧i=.int .i64 k∧Hid (∀ j,j < k→badZ (G.z j)=false)∧Ext w wr) (fun i _=>G.n - (intOf i).toNat)
 case atStart=>exact⟨0,Nat.zero_le _,rfl,fun j hj=>absurd hj (by omega),hE⟩
 case round =>
  obtain⟨k,hk,rfl,HA,hEr⟩:=hrel
  by_cases hlt:k < G.n
  ·obtain⟨b,off,rfl,hx⟩:=(HZ.out.ext hEr).addr (by omega);have p0:=hx k hlt;clear hx;obtain⟨zz,hzz⟩:=hid_eq (G.z k);rw [←hzz.out] at p0
   by_cases hn:zz = -2147483648
   case pos =>
    have HB:Hid (badZ (G.z k)=false):=by rw [Hid,←hzz.out,hn]; rfl
    subst hn;go_wp2;go_roundw
    case rel=>exact⟨k+1,by omega,by go_num,all_succ (p:=fun j=>badZ (G.z j)=false) HA.out HB.out,hEr⟩
    case measure=>simp [intOf]; omega
   have tn:(zz != -2147483648)=true:=by simpa using hn
   have HB:Hid (badZ (G.z k)=farZ zz):=by rw [Hid,←hzz.out]; unfold badZ; rw [decide_eq_true (show zz≠noneZ from hn)]; rfl
   clear hn;go_wp2_with (go_at_call 120; refine Hid.out ?_);refine (l48_far _ zz).mono ?_;rintro e w1 ⟨rfl,rfl⟩;cases h8:farZ zz with
   | true =>
    have HT:Hid (r=2):=by rw [Hid,HRQ.out,hq.out,anyB_true hlt (HB.out.trans h8)]; rfl
    go_wp2;go_ret;exact⟨ret_int HT.out.symm,hEr⟩
   | false =>
    go_wp2;go_roundw
    case rel=>exact⟨k+1,by omega,by go_num,all_succ (p:=fun j=>badZ (G.z j)=false) HA.out (HB.out.trans h8),hEr⟩
    case measure=>simp [intOf]; omega
  ·have HT:Hid (r=0):=by rw [Hid,HRQ.out,hq.out,anyB_false.2 (fun j hj=>HA.out j (by omega))]; rfl
   go_wp2;go_ret;exact⟨ret_int HT.out.symm,hEr⟩
theorem l48_Checked {N lo hi:Nat} {w:World} {v:Value} {G:Grd} (h:GrdV N lo hi w v G) :
  Calls Tryz.prog 24 #[v] w (RetV w (.int .i64 (grdCode G))):=by
 obtain⟨A,c,rfl,hnc,hcm,hz⟩:=h.parts;have HI:=Lib.hid h;obtain⟨r,hr⟩:=hid_eq (grdCode G);rw [←hr.out];clear h hz;go_enter Tryz.func24,Tryz.ntmps24;go_wp2_with (go_at_call 68; refine Hid.out ?_);refine boxesC1 ?_;intro W hE hsz B0;refine (l48_checked (HI.out.ext hE)).mono ?_;rintro e w1 ⟨rfl,e1⟩;rw [←hr.out];go_wp2;go_ret;exact⟨rfl,hE.trans e1⟩
theorem l49_few1 {N:Nat} {w:World} {v:Value} {R:Raw} (h:RawV N w v R)  :
  Calls Tryz.prog 47 #[v] w (RetV w (.bool (!briefB R))):=by
 obtain⟨A1,n1,c1,A2,n2,c2,rfl,g1,g2⟩:=h.parts;obtain⟨r,hr⟩:=hid_eq (briefB R);rw [←hr.out];have hI:=h;clear g1 g2 h;go_enter Tryz.func47,Tryz.ntmps47;go_wp2_with (go_at_call 48; refine Hid.out ?_);refine boxesC1 ?_;intro W hE hsz B0;refine (r2_brief (hI.ext hE)).mono ?_;rintro e w1 ⟨rfl,e1⟩;rw [←hr.out];go_wp2;go_ret;exact⟨rfl,hE.trans e1⟩
theorem o_canon1 {N:Nat} {w:World} {v:Value} {R:Raw} (h:RawV N w v R) (hs:RawSz R) :
  Calls Tryz.prog 97 #[v] w (RetV w (.bool (!okR R))):=by
 obtain⟨A1,n1,c1,A2,n2,c2,rfl,g1,g2⟩:=h.parts;obtain⟨r,hr⟩:=hid_eq (okR R);rw [←hr.out];have hI:=h;clear g1 g2 h;go_enter Tryz.func97,Tryz.ntmps97;go_wp2_with (go_at_call 98; refine Hid.out ?_);refine boxesC1 ?_;intro W hE hsz B0;refine (f_valid (hI.ext hE) hs.1 hs.2).mono ?_;rintro e w1 ⟨rfl,e1⟩;rw [←hr.out];go_wp2;go_ret;exact⟨rfl,hE.trans e1⟩
theorem sl_few49x {N lo hi:Nat} {w:World} {v:Value} {n:Nat} {R:Nat→Raw} (h:LsR N lo hi w v n R)  (g:Nat→Bool)
  (hf:∀ i,i < n→∀ w' u,Ext w w'→RawV N w' u (R i)→Calls Tryz.prog 47 #[u] w' (RetV w' (.bool (g i)))) :
  Calls Tryz.prog 92 #[v,.func (.func 47) #[] #[]] w (RetIdx w (anyB n g)):=by
 obtain⟨r,hr⟩:=hid_eq (anyB n g);rw [←hr.out];obtain⟨A,c,rfl,hnc,hcm⟩:=h.form;unfold maxLen at hcm;have hI:=h;have HF:=Lib.hid hf;clear h hf;go_enter Tryz.func92,Tryz.ntmps92;go_wp2
 go_loopw [8] (fun i wr=>∃ k:Nat,k≤n∧i=.int .i64 k∧Hid (∀ j,j < k→g j=false)∧Ext w wr) (fun i _=>n - (intOf i).toNat)
 case atStart=>exact⟨0,Nat.zero_le _,rfl,fun j hj=>absurd hj (by omega),Ext.refl w⟩
 case round =>
  obtain⟨k,hk,rfl,HA,hE⟩:=hrel
  by_cases hlt:k < n
  ·(obtain⟨b,off,rfl,-,-,hx⟩:=(hI.ext hE).addr (by omega)); (obtain⟨A1,n1,c1,A2,n2,c2,p0,p1,p2,p3,hv⟩:=(hx k hlt).val)
   clear hx;go_wp2_with (go_at_call 47; refine Hid.out ?_);refine (HF.out k hlt _ _ hE hv).mono ?_;rintro e w1 ⟨rfl,e1⟩;replace hE:=hE.trans e1;obtain⟨o,ho⟩:=hid_eq (g k);rw [←ho.out];cases o with
   | false =>
    go_wp2;go_roundw
    case rel=>exact⟨k+1,by omega,by go_num,all_succ (p:=fun j=>g j=false) HA.out ho.out.symm,hE⟩
    case measure=>simp [intOf]; omega
   | true =>
    have HT:Hid (r=true):=by rw [Hid,hr.out]; exact anyB_true hlt ho.out.symm
    go_wp2;go_ret;exact⟨_,rfl,by rw [Hid,HT.out]; symm; simp,hE⟩
  ·have HT:Hid (r=false):=by rw [Hid,hr.out]; exact anyB_false.2 (fun j hj=>HA.out j (by omega))
   go_wp2;go_ret;exact⟨_,rfl,by rw [Hid,HT.out]; rfl,hE⟩
theorem sl_few49 {N lo hi:Nat} {w:World} {v:Value} {n:Nat} {R:Nat→Raw} (h:LsR N lo hi w v n R)  (g:Nat→Bool)
  (hf:∀ i,i < n→∀ w' u,Ext w w'→RawV N w' u (R i)→Calls Tryz.prog 47 #[u] w' (RetV w' (.bool (g i)))) :
  Calls Tryz.prog 46 #[v,.func (.func 47) #[] #[]] w (RetV w (.bool (anyB n g))):=by
 obtain⟨r,hr⟩:=hid_eq (anyB n g);rw [←hr.out];obtain⟨A,c,rfl,hnc,hcm⟩:=h.form;have hI:=h;have HF:=Lib.hid hf;clear h hf;go_enter Tryz.func46,Tryz.ntmps46;go_wp2_with (go_at_call 92; refine Hid.out ?_);refine (sl_few49x hI  g HF.out).mono ?_;rintro e w1 ⟨z,rfl,hz,e1⟩;rw [←hr.out] at hz;go_wp2;go_ret;exact⟨ret_bool hz.out.symm,e1⟩
theorem sl_ocanonx {N lo hi:Nat} {w:World} {v:Value} {n:Nat} {R:Nat→Raw} (h:LsR N lo hi w v n R)  (g:Nat→Bool)
  (hf:∀ i,i < n→∀ w' u,Ext w w'→RawV N w' u (R i)→Calls Tryz.prog 97 #[u] w' (RetV w' (.bool (g i)))) :
  Calls Tryz.prog 92 #[v,.func (.func 97) #[] #[]] w (RetIdx w (anyB n g)):=by
 obtain⟨r,hr⟩:=hid_eq (anyB n g);rw [←hr.out];obtain⟨A,c,rfl,hnc,hcm⟩:=h.form;unfold maxLen at hcm;have hI:=h;have HF:=Lib.hid hf;clear h hf;go_enter Tryz.func92,Tryz.ntmps92;go_wp2
 go_loopw [8] (fun i wr=>∃ k:Nat,k≤n∧i=.int .i64 k∧Hid (∀ j,j < k→g j=false)∧Ext w wr) (fun i _=>n - (intOf i).toNat)
 case atStart=>exact⟨0,Nat.zero_le _,rfl,fun j hj=>absurd hj (by omega),Ext.refl w⟩
 case round =>
  obtain⟨k,hk,rfl,HA,hE⟩:=hrel
  by_cases hlt:k < n
  ·(obtain⟨b,off,rfl,-,-,hx⟩:=(hI.ext hE).addr (by omega)); (obtain⟨A1,n1,c1,A2,n2,c2,p0,p1,p2,p3,hv⟩:=(hx k hlt).val)
   clear hx;go_wp2_with (go_at_call 97; refine Hid.out ?_);refine (HF.out k hlt _ _ hE hv).mono ?_;rintro e w1 ⟨rfl,e1⟩;replace hE:=hE.trans e1;obtain⟨o,ho⟩:=hid_eq (g k);rw [←ho.out];cases o with
   | false =>
    go_wp2;go_roundw
    case rel=>exact⟨k+1,by omega,by go_num,all_succ (p:=fun j=>g j=false) HA.out ho.out.symm,hE⟩
    case measure=>simp [intOf]; omega
   | true =>
    have HT:Hid (r=true):=by rw [Hid,hr.out]; exact anyB_true hlt ho.out.symm
    go_wp2;go_ret;exact⟨_,rfl,by rw [Hid,HT.out]; symm; simp,hE⟩
  ·have HT:Hid (r=false):=by rw [Hid,hr.out]; exact anyB_false.2 (fun j hj=>HA.out j (by omega))
   go_wp2;go_ret;exact⟨_,rfl,by rw [Hid,HT.out]; rfl,hE⟩
theorem sl_ocanon {N lo hi:Nat} {w:World} {v:Value} {n:Nat} {R:Nat→Raw} (h:LsR N lo hi w v n R)  (g:Nat→Bool)
  (hf:∀ i,i < n→∀ w' u,Ext w w'→RawV N w' u (R i)→Calls Tryz.prog 97 #[u] w' (RetV w' (.bool (g i)))) :
  Calls Tryz.prog 46 #[v,.func (.func 97) #[] #[]] w (RetV w (.bool (anyB n g))):=by
 obtain⟨r,hr⟩:=hid_eq (anyB n g);rw [←hr.out];obtain⟨A,c,rfl,hnc,hcm⟩:=h.form;have hI:=h;have HF:=Lib.hid hf;clear h hf;go_enter Tryz.func46,Tryz.ntmps46;go_wp2_with (go_at_call 92; refine Hid.out ?_);refine (sl_ocanonx hI  g HF.out).mono ?_;rintro e w1 ⟨z,rfl,hz,e1⟩;rw [←hr.out] at hz;go_wp2;go_ret;exact⟨ret_bool hz.out.symm,e1⟩
def few49 (G:Grd) (k:Nat) (R:Nat→Raw):Bool:=decide (G.n≤30) && allB k (fun i=>briefB (R i))
def code49 (G:Grd) (k:Nat) (R:Nat→Raw):Int:=if grdCode G≠0 then grdCode G else if allB k (fun i=>okR (R i)) then 0 else 1
theorem l49_few {N lo hi lo' hi':Nat} {w:World} {v u:Value} {G:Grd} {k:Nat} {R:Nat→Raw} (h:GrdV N lo hi w v G) (hx:LsR N lo' hi' w u k R) :
  Calls Tryz.prog 11 #[v,u] w (RetV w (.bool (few49 G k R))):=by
 obtain⟨A,c,rfl,hnc,hcm,hz⟩:=h.parts;obtain⟨A',c',rfl,-,-⟩:=hx.form;obtain⟨r,hr⟩:=hid_eq (few49 G k R);rw [←hr.out];have hI:=hx;unfold maxLen at hcm;clear h hz hx;obtain⟨n,hn⟩:=hid_eq G.n;rw [←hn.out] at hnc ⊢;go_enter Tryz.func11,Tryz.ntmps11;go_upto_region 1 with (fail);refine boxes1 ?_;intro W hE hsz B0;obtain⟨a0,a1,a2,a3,a4,a5⟩:=cells_g B0
 by_cases h1:n≤30
 ·have t1:decide ((n:Int)≤30)=true:=by simp; omega
  have HR:Hid (r=!anyB k (fun i=>!briefB (R i))):=by rw [Hid,hr.out,anyB_not]; unfold few49; rw [←hn.out,decide_eq_true h1]; rfl
  obtain⟨s,hs⟩:=hid_eq (anyB k (fun i=>!briefB (R i)));rw [←hs.out] at HR;go_wp2_with (go_at_call 46; refine Hid.out ?_);refine (sl_few49 (hI.ext hE) (fun i=>!briefB (R i)) (fun i hi w' u e hu=>l49_few1 hu)).mono ?_;rintro e w1 ⟨rfl,e1⟩;rw [←hs.out];go_wp2;go_ret;exact⟨ret_bool HR.out.symm,hE.trans e1⟩
 ·have t1:decide ((n:Int)≤30)=false:=by simp; omega
  have HR:Hid (r=false):=by rw [Hid,hr.out]; unfold few49; rw [←hn.out,decide_eq_false h1]; rfl
  go_wp2;go_ret;exact⟨ret_bool HR.out.symm,hE⟩
theorem o_canonical {N lo hi:Nat} {w:World} {u:Value} {k:Nat} {R:Nat→Raw} (hx:LsR N lo hi w u k R) (hs:∀ i,i < k→RawSz (R i)) :
  Calls Tryz.prog 50 #[u] w (RetV w (.bool (allB k (fun i=>okR (R i))))):=by
 obtain⟨A',c',rfl,-,-⟩:=hx.form;obtain⟨r,hr⟩:=hid_eq (allB k (fun i=>okR (R i)));rw [←hr.out];have hI:=hx;have HS:=Lib.hid hs;clear hx hs;have HR:Hid (r=!anyB k (fun i=>!okR (R i))):=by rw [Hid,hr.out,anyB_not]
 obtain⟨s,hs⟩:=hid_eq (anyB k (fun i=>!okR (R i)));rw [←hs.out] at HR;go_enter Tryz.func50,Tryz.ntmps50;go_wp2_with (go_at_call 46; refine Hid.out ?_);refine (sl_ocanon hI (fun i=>!okR (R i)) (fun i hi w' u e hu=>o_canon1 hu (HS.out i hi))).mono ?_;rintro e w1 ⟨rfl,e1⟩;rw [←hs.out];go_wp2;go_ret;exact⟨ret_bool HR.out.symm,e1⟩
theorem l49_code {N lo hi lo' hi':Nat} {w:World} {v u:Value} {G:Grd} {k:Nat} {R:Nat→Raw} (h:GrdV N lo hi w v G) (hx:LsR N lo' hi' w u k R) (hs:∀ i,i < k→RawSz (R i)) :
  Calls Tryz.prog 13 #[v,u] w (RetV w (.int .i64 (code49 G k R))):=by
 obtain⟨A,c,rfl,hnc,hcm,hz⟩:=h.parts;obtain⟨A',c',rfl,-,-⟩:=hx.form;obtain⟨r,hr⟩:=hid_eq (code49 G k R);rw [←hr.out];have HI:=Lib.hid h;have HS:=Lib.hid hs;have hI:=hx;clear h hz hx hs;obtain⟨q,hq⟩:=hid_eq (grdCode G);have HRQ:Hid (r=if q≠0 then q else if allB k (fun i=>okR (R i)) then 0 else 1):=by rw [Hid,hr.out,hq.out]; rfl
 go_enter Tryz.func13,Tryz.ntmps13;go_wp2_with (go_at_call 24; refine Hid.out ?_);refine boxesC1 ?_;intro W hE hsz B0;refine (l48_Checked (HI.out.ext hE)).mono ?_;rintro e w1 ⟨rfl,e1⟩;rw [←hq.out];replace hE:=hE.trans e1
 by_cases h0:q=0
 case neg =>
  have t0:(q != 0)=true:=by simpa using h0
  have HR:Hid (r=q):=by rw [Hid,HRQ.out,if_pos h0]
  clear h0;go_wp2;go_ret;exact⟨ret_int HR.out.symm,hE⟩
 have t0:(q != 0)=false:=by simpa using h0
 obtain⟨s,hs⟩:=hid_eq (allB k (fun i=>okR (R i)));have HR:Hid (r=if s then 0 else 1):=by rw [Hid,HRQ.out,if_neg (by simpa using h0),hs.out]
 clear h0;go_wp2_with (go_at_call 29; refine Hid.out ?_);refine (r2_validList (hI.ext hE) HS.out).mono ?_;rintro e w2 ⟨rfl,e2⟩;rw [←hs.out];replace hE:=hE.trans e2;cases s with
 | true =>
  go_wp2;go_ret;exact⟨ret_int HR.out.symm,hE⟩
 | false =>
  go_wp2;go_ret;exact⟨ret_int HR.out.symm,hE⟩
def PtW (N:Nat) (w:World) (cs:Array Value) (o:Nat) (R:Nat→Raw):Prop:=∀ i,i < 3→ArV N w cs (o+i*4) (R i)
theorem PtW.ext {N:Nat} {w w':World} {cs:Array Value} {o:Nat} {R:Nat→Raw} (h:PtW N w cs o R) (e:Ext w w'):PtW N w' cs o R:=fun i hi=>(h i hi).ext e
structure PtA (N:Nat) (w:World) (cs:Array Value) (R:Nat→Raw):Prop where
 pt:PtW N w cs 0 R
 size:cs.size=12
 one:cs.toList.all (·.oneCell')=true
theorem PtA.ext {N:Nat} {w w':World} {cs:Array Value} {R:Nat→Raw} (h:PtA N w cs R) (e:Ext w w'):PtA N w' cs R:=⟨h.pt.ext e,h.size,h.one⟩
theorem PtA.ls {N:Nat} {w:World} {cs:Array Value} {R:Nat→Raw} (h:PtA N w cs R) (hN:N≤w.heap.size) {b:Nat} {t:TypeId} {fr:Nat×Nat} (hb:w.heap[b]?=some (.cells cs t fr)):LsR N 0 w.heap.size w (.slice (some ⟨b,0,none⟩) 3 3) 3 R :=
 ⟨hN,Nat.le_refl _,some ⟨b,0,none⟩,3,rfl,Nat.le_refl _,by unfold maxLen; omega,fun _=>⟨b,0,rfl,Nat.zero_le _,blk_lt hb,fun i hi=>(h.pt i hi).at4 hb⟩⟩
def chk (G:Grd) (Ra Rb:Nat→Raw) (k:Nat) (R:Nat→Raw):Int :=
 if grdCode G≠0 then grdCode G else if allB 3 (fun i=>okR (Ra i)) && (allB 3 (fun i=>okR (Rb i)) && allB k (fun i=>okR (R i))) then 0 else 1
set_option maxRecDepth 100000 in
theorem o_checked {N lo hi lo' hi':Nat} {w:World} {vg vm:Value} {ca cb:Array Value} {G:Grd} {Ra Rb R:Nat→Raw} {k:Nat} (h:GrdV N lo hi w vg G) (ha:PtA N w ca Ra) (hb:PtA N w cb Rb) (hm:LsR N lo' hi' w vm k R) (sa:∀ i,i < 3→RawSz (Ra i)) (sb:∀ i,i < 3→RawSz (Rb i)) (sm:∀ i,i < k→RawSz (R i)) :
  Calls Tryz.prog 58 #[vg,.agg ca,.agg cb,vm] w (RetV w (.int .i64 (chk G Ra Rb k R))):=by
 have hN:=hm.le;obtain⟨A,c,rfl,hnc,hcm,hz⟩:=h.parts;obtain⟨Am,cm,rfl,-,-⟩:=hm.form;obtain⟨r,hr⟩:=hid_eq (chk G Ra Rb k R);rw [←hr.out];have HG:=Lib.hid h;have HA:=Lib.hid ha;have HB:=Lib.hid hb;have HM:=Lib.hid hm;have SA:=Lib.hid sa;have SB:=Lib.hid sb;have SM:=Lib.hid sm;clear h ha hb hm sa sb sm hz hnc hcm;obtain⟨q,hq⟩:=hid_eq (grdCode G);obtain⟨x1,hx1⟩:=hid_eq (allB 3 (fun i=>okR (Ra i)));obtain⟨x2,hx2⟩:=hid_eq (allB 3 (fun i=>okR (Rb i)));obtain⟨x3,hx3⟩:=hid_eq (allB k (fun i=>okR (R i)));have HR0:Hid (r=if q≠0 then q else if x1 && (x2 && x3) then 0 else 1):=by rw [Hid,hr.out,hq.out,hx1.out,hx2.out,hx3.out]; rfl
 clear hr;go_enter Tryz.func58,Tryz.ntmps58;go_wp2_with (go_at_call 49; refine Hid.out ?_);refine boxesC3 ?_;intro W hE hsz B0 B1 B2;refine (te_check (HG.out.ext hE)).mono ?_;rw [←hq.out];rintro e w1 ⟨rfl,e1⟩;replace hE:=hE.trans e1;have B1':=e1.block B1;have B2':=e1.block B2;have hN1:N≤w1.heap.size:=by have:=hE.size; omega
 have hLA:=(HA.out.ext hE).ls hN1 B1';have hLB:=(HB.out.ext hE).ls hN1 B2';clear B0 B1 B2
 by_cases h0:q=0
 case neg =>
  have t0:(q != 0)=true:=by simpa using h0
  have HR:Hid (q=r):=by rw [Hid,HR0.out,if_pos h0]
  clear h0;go_wp2;go_ret;exact⟨ret_int HR.out,hE⟩
 have t0:(q != 0)=false:=by simpa using h0
 have HR1:Hid (r=if x1 && (x2 && x3) then 0 else 1):=by rw [Hid,HR0.out,if_neg (by simpa using h0)]
 clear h0 HR0;go_wp2_with (go_at_call 50; refine Hid.out ?_);refine (o_canonical hLA SA.out).mono ?_;rw [←hx1.out];rintro e w2 ⟨rfl,e2⟩;replace hE:=hE.trans e2;cases x1 with
 | false =>
  have HR:Hid (1=r):=by rw [Hid,HR1.out]; rfl
  go_wp2;go_ret;exact⟨ret_int HR.out,hE⟩
 | true =>
 go_wp2_with (go_at_call 50; refine Hid.out ?_);refine (o_canonical (hLB.ext e2) SB.out).mono ?_;rw [←hx2.out];rintro e w3 ⟨rfl,e3⟩;replace hE:=hE.trans e3;cases x2 with
 | false =>
  have HR:Hid (1=r):=by rw [Hid,HR1.out]; rfl
  go_wp2;go_ret;exact⟨ret_int HR.out,hE⟩
 | true =>
 go_wp2_with (go_at_call 50; refine Hid.out ?_);refine (o_canonical (HM.out.ext hE) SM.out).mono ?_;rw [←hx3.out];rintro e w4 ⟨rfl,e4⟩;replace hE:=hE.trans e4;cases x3 with
 | false =>
  have HR:Hid (1=r):=by rw [Hid,HR1.out]; rfl
  go_wp2;go_ret;exact⟨ret_int HR.out,hE⟩
 | true =>
  have HR:Hid (0=r):=by rw [Hid,HR1.out]; rfl
  go_wp2;go_ret;exact⟨ret_int HR.out,hE⟩
theorem arr12 {c:Array Value} (h:c.size=12):∃ x0 x1 x2 x3 x4 x5 x6 x7 x8 x9 xa xb,c=#[x0,x1,x2,x3,x4,x5,x6,x7,x8,x9,xa,xb]:=by
 obtain⟨l⟩:=c;have h:l.length=12:=h;obtain⟨x0,l,rfl⟩:=List.exists_cons_of_length_eq_add_one h;replace h:=Nat.succ.inj h;obtain⟨x1,l,rfl⟩:=List.exists_cons_of_length_eq_add_one h;replace h:=Nat.succ.inj h;obtain⟨x2,l,rfl⟩:=List.exists_cons_of_length_eq_add_one h;replace h:=Nat.succ.inj h;obtain⟨x3,l,rfl⟩:=List.exists_cons_of_length_eq_add_one h;replace h:=Nat.succ.inj h;obtain⟨x4,l,rfl⟩:=List.exists_cons_of_length_eq_add_one h;replace h:=Nat.succ.inj h;obtain⟨x5,l,rfl⟩:=List.exists_cons_of_length_eq_add_one h;replace h:=Nat.succ.inj h;obtain⟨x6,l,rfl⟩:=List.exists_cons_of_length_eq_add_one h;replace h:=Nat.succ.inj h;obtain⟨x7,l,rfl⟩:=List.exists_cons_of_length_eq_add_one h;replace h:=Nat.succ.inj h;obtain⟨x8,l,rfl⟩:=List.exists_cons_of_length_eq_add_one h;replace h:=Nat.succ.inj h;obtain⟨x9,l,rfl⟩:=List.exists_cons_of_length_eq_add_one h;replace h:=Nat.succ.inj h;obtain⟨xa,l,rfl⟩:=List.exists_cons_of_length_eq_add_one h;replace h:=Nat.succ.inj h;obtain⟨xb,l,rfl⟩:=List.exists_cons_of_length_eq_add_one h;replace h:=Nat.succ.inj h;obtain rfl:=List.eq_nil_of_length_eq_zero h;exact⟨x0,x1,x2,x3,x4,x5,x6,x7,x8,x9,xa,xb,rfl⟩
theorem built_seg (g0 g1 g2 g3 g4 g5 x0 x1 x2 x3 x4 x5 x6 x7 x8 x9 xa xb y0 y1 y2 y3 y4 y5 y6 y7 y8 y9 ya yb:Value) :
  Tryz.prog.built 116 [(0,.agg #[g0,g1,g2,g3,g4,g5]),(1,.agg #[x0,x1,x2,x3,x4,x5,x6,x7,x8,x9,xa,xb]),(2,.agg #[y0,y1,y2,y3,y4,y5,y6,y7,y8,y9,ya,yb])]=some #[g0,g1,g2,g3,g4,g5,x0,x1,x2,x3,x4,x5,x6,x7,x8,x9,xa,xb,y0,y1,y2,y3,y4,y5,y6,y7,y8,y9,ya,yb]:=by kernel_rfl
theorem built_segO {g0 g1 g2 g3 g4 g5:Value} {ca cb:Array Value} (h:ca.size=12) (h':cb.size=12):Tryz.prog.built 116 [(0,.agg #[g0,g1,g2,g3,g4,g5]),(1,.agg ca),(2,.agg cb)]=some (#[g0,g1,g2,g3,g4,g5] ++ ca ++ cb):=by
 obtain⟨x0,x1,x2,x3,x4,x5,x6,x7,x8,x9,xa,xb,rfl⟩:=arr12 h;obtain⟨y0,y1,y2,y3,y4,y5,y6,y7,y8,y9,ya,yb,rfl⟩:=arr12 h';rw [built_seg];simp only [List.append_toArray,List.cons_append,List.nil_append]
theorem wpList_build_eq {P:Program} {ops:Array Oper} {rest:List Oper} {o:Oper} {a:Act} {w:World} {Q:Exit→Act→World→Prop} (hg:o.guard=none) (t:TypeId) (parts:Array (Nat×Operand)) (ho:o.op=.build t parts) {l:List (Nat×Value)} (hl:(parts.map fun (i,x)=>(i,a.eval x)).toList=l) {cells:Array Value} (hb:P.built t l=some cells)
  (h:wpList P ops Q rest (a.put o.dst (.agg cells)) w):wpList P ops Q (o :: rest) a w:=by
 refine wpList_build hg t parts ho (by rw [hl,hb]; rfl) ?_;rw [hl,hb];exact h
theorem ArV.shift {N:Nat} {w:World} {cs cs':Array Value} {o i:Nat} {R:Raw} (h:ArV N w cs (0+i*4) R) (hi:i < 3) (hc:∀ k,k < 12→cs'[o+k]?=cs[k]?):ArV N w cs' (o+i*4) R:=by
 rw [Nat.zero_add] at h;obtain⟨s,t,h1,h2,h3,h4,h5,h6⟩:=h;exact⟨s,t,by rw [hc _ (by omega)]; exact h1,by rw [Nat.add_assoc,hc _ (by omega)]; exact h2,by rw [Nat.add_assoc,hc _ (by omega)]; exact h3,by rw [Nat.add_assoc,hc _ (by omega)]; exact h4,h5,h6⟩
theorem seg_mk {N lo hi:Nat} {w:World} {A:Option Addr} {c:Nat} {G:Grd} {ca cb:Array Value} {a b:Nat→Rat} (hN:N≤w.heap.size) (h:GrdV N lo hi w (.agg #[.int .i64 G.x0,.int .i64 G.y0,.int .i64 G.st,.int .i64 G.wd,.int .i64 G.ht,.slice A G.n c]) G) (ha:PtA N w ca (fun i=>raw (a i))) (hb:PtA N w cb (fun i=>raw (b i))) :
  SegV N lo hi w (#[.int .i64 G.x0,.int .i64 G.y0,.int .i64 G.st,.int .i64 G.wd,.int .i64 G.ht,.slice A G.n c] ++ ca ++ cb) G a b:=by
 have sa:=ha.size;have sb:=hb.size
 have hl:∀ k,k < 6→(#[.int .i64 G.x0,.int .i64 G.y0,.int .i64 G.st,.int .i64 G.wd,.int .i64 G.ht,.slice A G.n c] ++ ca ++ cb)[k]?=(#[.int .i64 G.x0,.int .i64 G.y0,.int .i64 G.st,.int .i64 G.wd,.int .i64 G.ht,.slice A G.n c]:Array Value)[k]?:=fun k hk=>by
  rw [Array.getElem?_append_left (by rw [Array.size_append]; show k < 6+_; omega),Array.getElem?_append_left hk]
 refine⟨by rw [Array.size_append,Array.size_append,sa,sb]; rfl,?_,⟨A,c,hl 0 (by omega),hl 1 (by omega),hl 2 (by omega),hl 3 (by omega),hl 4 (by omega),hl 5 (by omega),h⟩,fun i hi=>(ha.pt i hi).shift hi (fun k hk=>?_),fun i hi=>(hb.pt i hi).shift hi (fun k hk=>?_),hN⟩
 ·rw [Array.toList_append,Array.toList_append,List.all_append,List.all_append,ha.one,hb.one]
  rfl
 ·rw [Array.getElem?_append_left (by rw [Array.size_append,sa]; show 6+k < 6+12; omega),Array.getElem?_append_right (by show 6≤6+k; omega)]
  show ca[6+k - 6]?=_
  congr 1
  omega
 ·rw [Array.getElem?_append_right (by rw [Array.size_append,sa]; show 6+12≤18+k; omega),Array.size_append,sa]
  show cb[18+k - (6+12)]?=_
  congr 1
  omega
set_option maxRecDepth 100000 in
theorem o_ClearBad {N lo hi:Nat} {w:World} {vg:Value} {ca cb:Array Value} {G:Grd} {Ra Rb:Nat→Raw} (h:GrdV N lo hi w vg G) (hN:N≤w.heap.size) (ha:PtA N w ca Ra) (hb:PtA N w cb Rb) (sa:∀ i,i < 3→RawSz (Ra i)) (sb:∀ i,i < 3→RawSz (Rb i)) (hc:chk G Ra Rb 0 Ra≠0) :
  Calls Tryz.prog 20 #[vg,.agg ca,.agg cb] w (RetV w (.tuple #[.bool false,nilRat,.int .i64 (chk G Ra Rb 0 Ra)])):=by
 obtain⟨A,c,rfl,hnc,hcm,hz⟩:=h.parts;obtain⟨r,hr⟩:=hid_eq (chk G Ra Rb 0 Ra);rw [←hr.out] at hc ⊢;have t0:(r != 0)=true:=by simpa using hc
 have HG:=Lib.hid h;have HA:=Lib.hid ha;have HB:=Lib.hid hb;have SA:=Lib.hid sa;have SB:=Lib.hid sb;have ZA:=Lib.hid ha.size;have ZB:=Lib.hid hb.size;clear h ha hb sa sb hz hnc hcm hc;go_enter Tryz.func20,Tryz.ntmps20;go_upto_region 1 with (fail);refine boxes4 ?_;intro W hE hsz B0 B1 B2 B3;obtain⟨a0,a1,a2,a3,a4,a5⟩:=cells_g B0;refine wp_region_lit ?_;refine wpList_plain rfl (fun K hK=>?_);go_simp;refine hK _ _ ?_;clear hK K;try simp only [nr]
 refine wpList_load_row rfl 43 _ rfl _ (by rfl) _ ca _ _ B1 Tryz.underlying43 rfl (by rw [ZA.out]; exact info_pt) ?_;try simp only [nr]
 refine wpList_load_row rfl 43 _ rfl _ (by rfl) _ cb _ _ B2 Tryz.underlying43 rfl (by rw [ZB.out]; exact info_pt) ?_;try simp only [nr]
 go_wp2_with (go_at_call 58; refine Hid.out ?_);have hL0:LsR N 0 W.heap.size W (.slice none 0 0) 0 Ra:=⟨by omega,Nat.le_refl _,none,0,rfl,Nat.le_refl _,by unfold maxLen; omega,fun h=>absurd h (by omega)⟩
 refine (o_checked (HG.out.ext hE) (HA.out.ext hE) (HB.out.ext hE) hL0 SA.out SB.out (fun i hi=>absurd hi (by omega))).mono ?_;rw [←hr.out];rintro e w1 ⟨rfl,e1⟩
 rename_i K9 hK9
 refine hK9 _ _ ?_;clear hK9 K9 a0 a1 a2 a3 a4 a5 hL0;try simp only [nr]
 refine wpList_plain rfl (fun K hK=>?_);go_simp;refine hK _ _ ?_;clear hK K;try simp only [nr]
 refine wpList_nil ?_;have B3':=e1.block B3;obtain⟨z0,z1,z2,z3,z4,z5,z6,z7⟩:=cells4 B3';go_wp2;obtain⟨wR,ER,FR,UR⟩:=ex4 B3' (.bool false) (.slice none 0 0) (.bool false) (.slice none 0 0);rw [ER];obtain⟨v0,v1,v2,v3,-⟩:=cells4 FR;refine bodyPost_ret (v:=.tuple #[.bool false,nilRat,.int .i64 r]) ?_ rfl ?_
 ·simp [results,Tryz.results20,v0,v1,v2,v3,go_sem,nilRat]
 exact⟨rfl,UR.ext (hE.trans e1) (by omega)⟩
def RetClr (N:Nat) (w:World) (G:Grd) (K:Nat) (a b:Nat→Rat) (e:Ending) (w':World):Prop :=
 ∃ is v t,e=.returned (.tuple #[.bool is,v,.int .i64 0])∧RatV N w' v t∧Ht (456*K+24000) t∧(is=true→clrF G a b∧t=0)∧(is=false→blkF G a b t)∧Ext w w'
theorem chk_ok {G:Grd} {a b:Nat→Rat} {k:Nat} {R:Nat→Raw} (hg:grdCode G=0) (hr:∀ i,i < k→okR (R i)=true):chk G (fun i=>raw (a i)) (fun i=>raw (b i)) k R=0:=by
 unfold chk;rw [if_neg (by rw [hg]; simp)];have h1:allB 3 (fun i=>okR (raw (a i)))=true:=allB_true.2 fun i _=>okR_raw _
 have h2:allB 3 (fun i=>okR (raw (b i)))=true:=allB_true.2 fun i _=>okR_raw _
 have h3:allB k (fun i=>okR (R i))=true:=allB_true.2 hr;rw [h1,h2,h3]
 rfl
set_option maxRecDepth 100000 in
theorem o_Clear {N lo hi:Nat} {w:World} {vg:Value} {ca cb:Array Value} {G:Grd} {a b:Nat→Rat} {K:Nat} (h:GrdV N lo hi w vg G) (hg:grdCode G=0) (hok:SOk G K a b) (hK:K≤150) (hN:N≤w.heap.size) (ha:PtA N w ca (fun i=>raw (a i))) (hb:PtA N w cb (fun i=>raw (b i))) :
  Calls Tryz.prog 20 #[vg,.agg ca,.agg cb] w (RetClr N w G K a b):=by
 obtain⟨A,c,rfl,hnc,hcm,hz⟩:=h.parts;have hc:=chk_ok (a:=a) (b:=b) (k:=0) (R:=fun i=>raw (a i)) hg (fun i hi=>absurd hi (by omega));have HG:=Lib.hid h;have HC:=Lib.hid hc;have HA:=Lib.hid ha;have HB:=Lib.hid hb;have SA:Hid (∀ i,i < 3→RawSz (raw (a i))):=fun i hi=>sz_len ((hok.ka i hi).sz (by omega))
 have SB:Hid (∀ i,i < 3→RawSz (raw (b i))):=fun i hi=>sz_len ((hok.kb i hi).sz (by omega))
 have HO:=Lib.hid hok;have ZA:=Lib.hid ha.size;have ZB:=Lib.hid hb.size;clear h ha hb hz hnc hcm hc hok hg;go_enter Tryz.func20,Tryz.ntmps20;go_upto_region 1 with (fail);refine boxes4 ?_;intro W hE hsz B0 B1 B2 B3;obtain⟨a0,a1,a2,a3,a4,a5⟩:=cells_g B0;refine wp_region_lit ?_;refine wpList_plain rfl (fun K hK=>?_);go_simp;refine hK _ _ ?_;clear hK K;try simp only [nr]
 refine wpList_load_row rfl 43 _ rfl _ (by rfl) _ ca _ _ B1 Tryz.underlying43 rfl (by rw [ZA.out]; exact info_pt) ?_;try simp only [nr]
 refine wpList_load_row rfl 43 _ rfl _ (by rfl) _ cb _ _ B2 Tryz.underlying43 rfl (by rw [ZB.out]; exact info_pt) ?_;try simp only [nr]
 go_wp2_with (go_at_call 58; refine Hid.out ?_);have hL0:LsR N 0 W.heap.size W (.slice none 0 0) 0 (fun i=>raw (a i)):=⟨by omega,Nat.le_refl _,none,0,rfl,Nat.le_refl _,by unfold maxLen; omega,fun h=>absurd h (by omega)⟩
 refine (o_checked (HG.out.ext hE) (HA.out.ext hE) (HB.out.ext hE) hL0 SA.out SB.out (fun i hi=>absurd hi (by omega))).mono ?_;rw [HC.out];rintro e w1 ⟨rfl,e1⟩
 rename_i K9 hK9
 refine hK9 _ _ ?_;clear hK9 K9 a0 a1 a2 a3 a4 a5 hL0;try simp only [nr]
 refine wpList_plain rfl (fun K hK=>?_);go_simp;refine hK _ _ ?_;clear hK K;try simp only [nr]
 refine wpList_nil ?_;replace B0:=e1.block B0;replace B1:=e1.block B1;replace B2:=e1.block B2;replace B3:=e1.block B3;replace hE:=hE.trans e1;go_upto_region 4 with (fail);obtain⟨a0,a1,a2,a3,a4,a5⟩:=cells_g B0;obtain⟨cs,hcs⟩:=hid_eq (#[.int .i64 G.x0,.int .i64 G.y0,.int .i64 G.st,.int .i64 G.wd,.int .i64 G.ht,.slice A G.n c] ++ ca ++ cb);have HSEG:Hid (SegV N lo hi w1 cs G a b):=by rw [hcs.out]; exact seg_mk (by have:=hE.size; omega) (HG.out.ext hE) (HA.out.ext hE) (HB.out.ext hE)
 refine wp_region_lit ?_;refine wpList_plain rfl (fun K hK=>?_);go_simp;refine hK _ _ ?_;clear hK K;try simp only [nr]
 refine wpList_load_row rfl 43 _ rfl _ (by rfl) _ ca _ _ B1 Tryz.underlying43 rfl (by rw [ZA.out]; exact info_pt) ?_;try simp only [nr]
 refine wpList_load_row rfl 43 _ rfl _ (by rfl) _ cb _ _ B2 Tryz.underlying43 rfl (by rw [ZB.out]; exact info_pt) ?_;try simp only [nr]
 refine wpList_build_eq rfl _ _ rfl (l:=[(0,.agg #[.int .i64 G.x0,.int .i64 G.y0,.int .i64 G.st,.int .i64 G.wd,.int .i64 G.ht,.slice A G.n c]),(1,.agg ca),(2,.agg cb)]) (by simp only [List.map_toArray,List.map_cons,List.map_nil]; rfl) ((built_segO ZA.out ZB.out).trans (congrArg some hcs.out.symm)) ?_;try simp only [nr]
 go_wp2_with (go_at_call 63; refine Hid.out ?_);refine (o_below HSEG.out HO.out hK).mono ?_;clear a0 a1 a2 a3 a4 a5;rintro e w2 (⟨v,t,rfl,hv,hbk,hk,e2⟩ | ⟨rfl,hcl,e2⟩)
 ·obtain⟨bv,Av,kv,cv,A'v,k'v,c'v,rfl,hbv,yv,zv⟩:=hv.parts;go_upto_region 5 with (fail);refine boxes1 ?_;intro w3 e3 hsz3 B4;have HBK:=Lib.hid hbk;have HK:=Lib.hid hk;have hRv:=hv.ext e3;replace B3:=e3.block (e2.block B3);replace hE:=(hE.trans e2).trans e3;obtain⟨g4,hg4⟩:∃ g4,g4=w2.heap.size:=⟨_,rfl⟩
  rw [←hg4] at B4 ⊢;clear B0 B1 B2 e1 e2 hg4 hbk hk hv yv zv hsz3 e3;go_upto_region 7 with (fail);obtain⟨x0,x1,x2,x3,-⟩:=cells4 B4;obtain⟨z0,z1,z2,z3,z4,z5,z6,z7⟩:=cells4 B3;refine regI [Mn.rat N (t),Mn.eq (.bool false),Mn.any,Mn.any] [some 31,some 6,none,some 8] [2,3] [true,true,false,false] 2 (by kernel_rfl) ?_ ?_
  ·show ∀ i,i < 4→_
   iterate 4 refine fs ?_ ?_
   ·exact fz
   all_goals intro hl
   all_goals first | exact absurd hl (by decide) | skip
   all_goals clear hl
   all_goals refine stp rfl ?_
   all_goals intro ac wi eI hB hA K hK
   have o10:=oOf (hB 10 (by kernel_rfl)) rfl;clear hB hA;have cc0:=eI.cell x0;have cc1:=eI.cell x1;have cc2:=eI.cell x2;have cc3:=eI.cell x3
   ·go_simp;exact hK.out _ _ (Ext.refl _) (hRv.ext eI)
   rotate_left
   all_goals clear hB hA
   all_goals go_simp
   all_goals exact hK.out _ _ (Ext.refl _) rfl
  intro vals wz eZ hJ;have J31:Mn.p (Mn.rat N (t)) (vals 0) wz:=hJ 0 (by decide) (by decide);have J6:vals 1=_:=hJ 1 (by decide) (by decide);clear hJ;simp only [pr,Nat.reduceAdd,J6];clear J6
  generalize vals 0=z31 at J31 ⊢
  obtain⟨bz,Az,kz,cz,Az',kz',cz',rfl,hbz,gz1,gz2⟩:=RatV.parts J31;replace B3:=eZ.block B3;clear z0 z1 z2 z3 z4 z5 z6 z7;obtain⟨z0,z1,z2,z3,z4,z5,z6,z7⟩:=cells4 B3;refine stepL_late (i:=2) rfl (by kernel_rfl) (by kernel_rfl) (fun K hK=>?_);go_simp;refine hK.out _ _ ?_;clear hK K;try simp only [nr]
  refine stepL_late (i:=3) rfl (by kernel_rfl) (by kernel_rfl) (fun K hK=>?_);go_simp;refine hK.out _ _ ?_;clear hK K;try simp only [nr]
  refine stepL_done (by kernel_rfl) ?_ _;obtain⟨wR,ER,FR,UR⟩:=ex4 B3 (.bool bz) (.slice Az kz cz) (.bool false) (.slice Az' kz' cz');rw [ER];have hTR:=NoU.mk B3 (by decide);obtain⟨v0,v1,v2,v3,-⟩:=cells4 FR;have hRR:RatV N wR _ _:=RatV.mk hbz (gz1.upd UR (by omega) hTR) (gz2.upd UR (by omega) hTR);have hEF:=UR.ext (hE.trans eZ) (by omega);go_wp2;refine bodyPost_ret (v:=.tuple #[.bool false,.agg #[.bool bz,.slice Az kz cz,.bool false,.slice Az' kz' cz'],.int .i64 0]) ?_ rfl ?_
  ·simp [results,Tryz.results20,v0,v1,v2,v3,go_sem]
  exact⟨false,_,t,rfl,hRR,HK.out,fun h=>(by cases h),fun _=>HBK.out,hEF⟩
 ·unfold nilRat;go_upto_region 5 with (fail);refine boxes1 ?_;intro w3 e3 hsz3 B4;have HCL:=Lib.hid hcl;replace B3:=e3.block (e2.block B3);replace hE:=(hE.trans e2).trans e3;clear B0 B1 B2 e1 e2 hcl hsz3 e3 B4;go_wp2_with (go_at_call 61; refine Hid.out ?_);refine (o_whole (N:=N) (by have:=hE.size; omega) 0 (by omega) (by omega)).mono ?_;rintro e w4 hh;obtain⟨bz,Az,kz,cz,Az',kz',cz',rfl,hbz,gz1,gz2,e4⟩:=hh.form;replace B3:=e4.block B3;replace hE:=hE.trans e4;obtain⟨z0,z1,z2,z3,z4,z5,z6,z7⟩:=cells4 B3;go_wp2;obtain⟨wR,ER,FR,UR⟩:=ex4 B3 (.bool bz) (.slice Az kz cz) (.bool false) (.slice Az' kz' cz');rw [ER];have hTR:=NoU.mk B3 (by decide);obtain⟨v0,v1,v2,v3,-⟩:=cells4 FR;have hRR:RatV N wR _ _:=RatV.mk hbz (gz1.upd UR (by omega) hTR) (gz2.upd UR (by omega) hTR);have hEF:=UR.ext hE (by omega);refine bodyPost_ret (v:=.tuple #[.bool true,.agg #[.bool bz,.slice Az kz cz,.bool false,.slice Az' kz' cz'],.int .i64 0]) ?_ rfl ?_
  ·simp [results,Tryz.results20,v0,v1,v2,v3,go_sem]
  exact⟨true,_,0,rfl,hRR,Ht.zero.mono (by omega),fun _=>⟨HCL.out,rfl⟩,fun h=>(by cases h),hEF⟩
end Go.Proofs.YtphpkhoeplcedaaGreat
