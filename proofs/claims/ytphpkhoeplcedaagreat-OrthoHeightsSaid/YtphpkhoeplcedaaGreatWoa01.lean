import Derived.Test.YtphpkhoeplcedaaGreatWb35
set_option linter.all false
set_option maxHeartbeats 8000000
set_option maxRecDepth 100000
namespace Go.Proofs.YtphpkhoeplcedaaGreat
open Go.RowKit
theorem okR_spec {R:Raw} (h:okR R=true):∃ q:Rat,R=raw q:=by
 obtain⟨b1,l1,b2,l2⟩:=R;unfold okR at h;simp only [Bool.and_eq_true,decide_eq_true_eq] at h;obtain⟨⟨⟨h1,h2⟩,h3⟩,h4⟩:=h;obtain⟨e1,e2,e3⟩:=okB_spec h1;obtain⟨f1,f2,f3⟩:=okB_spec h2;have hb2:b2=false:=by rw [f2]; simp; omega
 subst hb2;have hz:zval false l2=(val l2:Int):=by unfold zval; simp
 rw [hz] at h3 h4;refine⟨⟨zval b1 l1,val l2,by omega,?_⟩,?_⟩
 ·exact h4
 ·unfold raw;simp only [Raw.mk.injEq];exact⟨e2,by rw [←e3]; exact e1,trivial,f1⟩
theorem o_HeightBad {N lo hi:Nat} {w:World} {vg vp:Value} {G:Grd} {R R':Raw} (h:GrdV N lo hi w vg G) (hp:PlV N w vp R R') (hN:N≤w.heap.size) (sx:RawSz R) (sy:RawSz R') (hc:chk2 G R R'≠0) :
  Calls Tryz.prog 12 #[vg,vp] w (RetV w (.tuple #[nilRat,.int .i64 (chk2 G R R')])):=by
 obtain⟨A,c,rfl,hnc,hcm,hz⟩:=h.parts;obtain⟨A1,n1,c1,A2,n2,c2,A3,n3,c3,A4,n4,c4,rfl,hx,hy⟩:=hp.parts;obtain⟨r,hr⟩:=hid_eq (chk2 G R R');rw [←hr.out] at hc ⊢;have HG:=Lib.hid h;have HX:=Lib.hid hx;have HY:=Lib.hid hy;have SX:=Lib.hid sx;have SY:=Lib.hid sy;have HR0:=Lib.hid hc;obtain⟨q,hq⟩:=hid_eq (grdCode G);obtain⟨x1,hx1⟩:=hid_eq (okR R && okR R');have HR1:Hid (r=if q≠0 then q else if x1 then 0 else 1):=by rw [Hid,hr.out,hq.out,hx1.out]; rfl
 clear h hp hx hy sx sy hz hnc hcm hc hr;go_enter Tryz.func12,Tryz.ntmps12;go_wp2_with (go_at_call 49; refine Hid.out ?_);refine boxesC3 ?_;intro W hE hsz B0 B1 B2;refine (te_check (HG.out.ext hE)).mono ?_;rw [←hq.out];rintro e w1 ⟨rfl,e1⟩;replace hE:=hE.trans e1;replace B1:=e1.block B1;replace B2:=e1.block B2;clear B0
 by_cases h0:q=0
 case neg =>
  have t0:(q != 0)=true:=by simpa using h0
  have HR:Hid (q=r):=by rw [Hid,HR1.out,if_pos h0]
  clear h0;obtain⟨z0,z1,z2,z3,z4,z5,z6,z7⟩:=cells4 B2;go_wp2;obtain⟨wR,ER,FR,UR⟩:=ex4 B2 (.bool false) (.slice none 0 0) (.bool false) (.slice none 0 0);rw [ER];obtain⟨v0,v1,v2,v3,-⟩:=cells4 FR;refine bodyPost_ret (v:=.tuple #[nilRat,.int .i64 (q)]) ?_ rfl ?_
  ·simp [results,Tryz.results12,v0,v1,v2,v3,go_sem,nilRat]
  rw [HR.out];exact⟨rfl,UR.ext hE (by omega)⟩
 have t0:(q != 0)=false:=by simpa using h0
 have HR2:Hid (r=if x1 then 0 else 1):=by rw [Hid,HR1.out,if_neg (by simpa using h0)]
 clear h0;obtain⟨p0,p1,p2,p3,p4,p5,p6,p7⟩:=cells8 B1;go_wp2_with (go_at_call 50; refine Hid.out ?_);refine boxesC1 ?_;intro W2 hE2 hsz2 BX;replace hE:=hE.trans hE2;refine (o_canonical (ls_two (by have:=hE.size; omega) BX (HX.out.ext hE) (HY.out.ext hE)) (fun i hi=>ite_all SX.out SY.out)).mono ?_;rintro e w3 ⟨rfl,e3⟩;have HB:Hid (allB 2 (fun i=>okR (if i=0 then R else R'))=x1):=by rw [Hid,hx1.out]; simp [allB,List.range_succ]
 rw [HB.out];cases x1 with
 | true=>exact absurd HR2.out HR0.out
 | false =>
  have HR:Hid (1=r):=by rw [Hid,HR2.out]; rfl
  replace B2:=e3.block (hE2.block B2);replace hE:=hE.trans e3;clear p0 p1 p2 p3 p4 p5 p6 p7 BX;obtain⟨z0,z1,z2,z3,z4,z5,z6,z7⟩:=cells4 B2;go_wp2;obtain⟨wR,ER,FR,UR⟩:=ex4 B2 (.bool false) (.slice none 0 0) (.bool false) (.slice none 0 0);rw [ER];obtain⟨v0,v1,v2,v3,-⟩:=cells4 FR;refine bodyPost_ret (v:=.tuple #[nilRat,.int .i64 (1)]) ?_ rfl ?_
  ·simp [results,Tryz.results12,v0,v1,v2,v3,go_sem,nilRat]
  rw [HR.out];exact⟨rfl,UR.ext hE (by omega)⟩
def ratOf (R:Raw):Rat:=Rat.divInt (zval R.b1 R.l1) (zval R.b2 R.l2)
theorem ratOf_raw (q:Rat):ratOf (raw q)=q:=by
 unfold ratOf raw;have h4:zval false (dg q.den)=(q.den:Int):=by unfold zval; rw [val_dg]; simp
 simp only [zval_canon,h4];exact Rat.num_divInt_den q
theorem raw_ratOf {R:Raw} (h:okR R=true):R=raw (ratOf R):=by
 obtain⟨q,rfl⟩:=okR_spec h;rw [ratOf_raw]
theorem few_parts {G:Grd} {R R':Raw} (h:few49 G 2 (fun i=>if i=0 then R else R')=true):briefB R=true∧briefB R'=true:=by
 unfold few49 at h;rw [Bool.and_eq_true] at h;exact⟨allB_true.1 h.2 0 (by omega),allB_true.1 h.2 1 (by omega)⟩
theorem chk2_parts {G:Grd} {R R':Raw} (h:chk2 G R R'=0):grdCode G=0∧okR R=true∧okR R'=true:=by
 unfold chk2 at h
 split at h
 ·rename_i h0; exact absurd h h0
 ·rename_i h0
  split at h
  ·rename_i h1
   rw [Bool.and_eq_true] at h1;exact⟨by simpa using h0,h1.1,h1.2⟩
  ·cases h
theorem l49_heights {N lo hi:Nat} {w:World} {vg vp:Value} {G:Grd} {R R':Raw} (h:GrdV N lo hi w vg G) (hp:PlV N w vp R R') (hN:N≤w.heap.size) :
  Calls Tryz.prog 3 #[vg,vp] w (RetV w (.bool true)):=by
 obtain⟨A,c,rfl,hnc,hcm,hz⟩:=h.parts;have HP:=Lib.hid hp;obtain⟨A1,n1,c1,A2,n2,c2,A3,n3,c3,A4,n4,c4,rfl,hx,hy⟩:=hp.parts;have HG:=Lib.hid h;have HX:=Lib.hid hx;have HY:=Lib.hid hy;clear h hp hx hy hz hnc hcm;go_enter Tryz.func3,Tryz.ntmps3;go_wp2_with (go_at_call 10; refine Hid.out ?_);refine boxesC2 ?_;intro W hE hsz B0 B1;refine (l49_known).mono ?_;rintro e w1 ⟨rfl,e1⟩;replace hE:=hE.trans e1;replace B0:=e1.block B0;replace B1:=e1.block B1;have hs1:=e1.size;clear e1;obtain⟨p0,p1,p2,p3,p4,p5,p6,p7⟩:=cells8 B1;obtain⟨a0,a1,a2,a3,a4,a5⟩:=cells_g B0;go_wp2_with (go_at_call 11; refine Hid.out ?_);refine boxesC1 ?_;intro W2 hE2 hsz2 BX;replace hE:=hE.trans hE2;have hN2:N≤W2.heap.size:=by have:=hE.size; omega
 refine (l49_few (HG.out.ext hE) (ls_two hN2 BX (HX.out.ext hE) (HY.out.ext hE))).mono ?_;obtain⟨fw,hfw⟩:=hid_eq (few49 G 2 (fun i=>if i=0 then R else R'));rw [←hfw.out];rintro e w3 ⟨rfl,e3⟩;replace B0:=e3.block (hE2.block B0);replace B1:=e3.block (hE2.block B1);replace hE:=hE.trans e3;clear p0 p1 p2 p3 p4 p5 p6 p7 a0 a1 a2 a3 a4 a5 BX hN2;cases fw with
 | false =>
  go_wp2;go_ret;exact⟨rfl,hE⟩
 | true =>
 obtain⟨fx,fy⟩:=few_parts hfw.out.symm;have SX:=Lib.hid (brief_raw fx).1;have SY:=Lib.hid (brief_raw fy).1;obtain⟨p0,p1,p2,p3,p4,p5,p6,p7⟩:=cells8 B1;obtain⟨a0,a1,a2,a3,a4,a5⟩:=cells_g B0;have hN3:N≤w3.heap.size:=by have:=hE.size; omega
 by_cases hc:chk2 G R R'=0
 case neg =>
  obtain⟨r,hr⟩:=hid_eq (chk2 G R R');have HB0:=Lib.hid (o_HeightBad (HG.out.ext hE) ((⟨_,_,_,_,_,_,_,_,rfl,HX.out.ext hE,HY.out.ext hE⟩:PlV N w3 _ R R')) hN3 SX.out SY.out hc);rw [←hr.out] at HB0 hc;go_wp2_with (go_at_call 12; refine Hid.out ?_);refine (HB0.out).mono ?_;rintro e w4 ⟨rfl,e4⟩;unfold nilRat;replace B0:=e4.block B0;replace B1:=e4.block B1;replace hE:=hE.trans e4;clear p0 p1 p2 p3 p4 p5 p6 p7 a0 a1 a2 a3 a4 a5 HB0;go_upto_region 6 with (fail);refine boxes1 ?_;intro w5 e5 hsz5 BH;have BH':w5.heap[w4.heap.size]?=some (.cells #[.bool false,.slice none 0 0,.bool false,.slice none 0 0] 29 (0,0)):=BH;obtain⟨gH,hgH⟩:∃ gH,gH=w4.heap.size:=⟨_,rfl⟩
  rw [←hgH] at BH' ⊢;replace B0:=e5.block B0;replace B1:=e5.block B1;replace hE:=hE.trans e5;clear BH hgH;obtain⟨p0,p1,p2,p3,p4,p5,p6,p7⟩:=cells8 B1;obtain⟨a0,a1,a2,a3,a4,a5⟩:=cells_g B0;go_wp2_with (go_at_call 13; refine Hid.out ?_);refine boxesC1 ?_;intro W6 hE6 hsz6 BX;replace hE:=hE.trans hE6;have hN6:N≤W6.heap.size:=by have:=hE.size; omega
  refine (l49_code (HG.out.ext hE) (ls_two hN6 BX (HX.out.ext hE) (HY.out.ext hE)) (fun i hi=>ite_all SX.out SY.out)).mono ?_;rw [code_chk2,←hr.out];rintro e w7 ⟨rfl,e7⟩;replace hE:=hE.trans e7;obtain⟨q0,q1,q2,q3,-⟩:=cells4 (e7.block (hE6.block BH'));have t0:(r == 0)=false:=by simpa using hc
  have t1:(r == r)=true:=by simp
  clear p0 p1 p2 p3 p4 p5 p6 p7 a0 a1 a2 a3 a4 a5 BX BH' B0 B1 hc;go_wp2_with (go_at_call 16; refine Hid.out ?_);refine (r2_zero).mono ?_;rintro e w8 ⟨rfl,e8⟩;go_wp2;go_ret;exact⟨rfl,hE.trans e8⟩
 obtain⟨hg,o1,o2⟩:=chk2_parts hc;obtain⟨x,rfl⟩:∃ x,R=raw x:=⟨_,raw_ratOf o1⟩
 obtain⟨y,rfl⟩:∃ y,R'=raw y:=⟨_,raw_ratOf o2⟩
 have HB0:=Lib.hid (o_Height (K:=17) (HG.out.ext hE) hg ((⟨_,_,_,_,_,_,_,_,rfl,HX.out.ext hE,HY.out.ext hE⟩:PlV N w3 _ (raw x) (raw y))) hN3 (brief_ht fx) (brief_ht fy) (by omega) (brief_bd fx) (brief_bd fy));obtain⟨o,ho⟩:=hid_eq (hgtF G x y);rw [←ho.out] at HB0;have HHQ:Hid (∀ q,o=some q→Ht 400 q):=fun q e=>(hgt_ht (grd_ok hg) (brief_ht fx) (brief_ht fy) (by rw [←ho.out,e])).mono (by omega)
 go_wp2_with (go_at_call 12; refine Hid.out ?_);refine (HB0.out).mono ?_;rintro e w4 hh;clear HB0;cases o with
 | some q =>
  obtain⟨v,rfl,hv,e4⟩:=hh;obtain⟨bz,Az,kz,cz,Az',kz',cz',rfl,-,-,-⟩:=hv.parts;replace B0:=e4.block B0;replace B1:=e4.block B1;replace hE:=hE.trans e4;clear p0 p1 p2 p3 p4 p5 p6 p7 a0 a1 a2 a3 a4 a5;go_upto_region 6 with (fail);refine boxes1 ?_;intro w5 e5 hsz5 BH;have BH':w5.heap[w4.heap.size]?=some (.cells #[.bool bz,.slice Az kz cz,.bool false,.slice Az' kz' cz'] 29 (0,0)):=BH;obtain⟨gH,hgH⟩:∃ gH,gH=w4.heap.size:=⟨_,rfl⟩
  rw [←hgH] at BH' ⊢;replace B0:=e5.block B0;replace B1:=e5.block B1;replace hE:=hE.trans e5;clear BH hgH;obtain⟨p0,p1,p2,p3,p4,p5,p6,p7⟩:=cells8 B1;obtain⟨a0,a1,a2,a3,a4,a5⟩:=cells_g B0;go_wp2_with (go_at_call 13; refine Hid.out ?_);refine boxesC1 ?_;intro W6 hE6 hsz6 BX;replace hE:=hE.trans hE6;have hN6:N≤W6.heap.size:=by have:=hE.size; omega
  refine (l49_code (HG.out.ext hE) (ls_two hN6 BX (HX.out.ext hE) (HY.out.ext hE)) (fun i hi=>ite_all SX.out SY.out)).mono ?_;rw [code_chk2,hc];rintro e w7 ⟨rfl,e7⟩;replace hE:=hE.trans e7;replace B0:=e7.block (hE6.block B0);replace B1:=e7.block (hE6.block B1);have BH7:=e7.block (hE6.block BH');clear p0 p1 p2 p3 p4 p5 p6 p7 a0 a1 a2 a3 a4 a5 BX BH';obtain⟨p0,p1,p2,p3,p4,p5,p6,p7⟩:=cells8 B1;obtain⟨a0,a1,a2,a3,a4,a5⟩:=cells_g B0;have HHT:=l49_height (K:=17) (HG.out.ext hE) (grd_ok hg) ((show RatV N w _ x from HX.out).ext hE) ((show RatV N w _ y from HY.out).ext hE) (brief_ht fx) (brief_ht fy) (by omega);rw [hgt_eq,←ho.out] at HHT;have HHT':=Lib.hid HHT;clear HHT;go_wp2_with (go_at_call 14; refine Hid.out ?_);refine (HHT'.out).mono ?_;rintro e w8 ⟨v,rfl,hv2,e8⟩;obtain⟨bu,Au,ku,cu,Au',ku',cu',rfl,-,-,-⟩:=hv2.parts;replace BH7:=e8.block BH7;clear p0 p1 p2 p3 p4 p5 p6 p7 a0 a1 a2 a3 a4 a5 B0 B1;go_upto_region 9 with (fail);refine boxes1 ?_;intro w9 e9 hsz9 BU;have BU':w9.heap[w8.heap.size]?=some (.cells #[.bool bu,.slice Au ku cu,.bool false,.slice Au' ku' cu'] 29 (0,0)):=BU;obtain⟨gU,hgU⟩:∃ gU,gU=w8.heap.size:=⟨_,rfl⟩
  rw [←hgU] at BU' ⊢;clear BU hgU;obtain⟨q0,q1,q2,q3,-⟩:=cells4 (e9.block BH7);obtain⟨r0,r1,r2,r3,-⟩:=cells4 BU';clear BU' BH7;go_wp2_with (go_at_call 15; refine Hid.out ?_);refine (r2_same (((((hv.ext e5).ext hE6).ext e7).ext e8).ext e9) (hv2.ext e9) ((HHQ.out q rfl).sz (by omega)) rfl).mono ?_;rintro e w10 ⟨rfl,e10⟩;go_wp2;go_ret;exact⟨rfl,((hE.trans e8).trans e9).trans e10⟩
 | none =>
  obtain⟨rfl,e4⟩:=hh;unfold nilRat;replace B0:=e4.block B0;replace B1:=e4.block B1;replace hE:=hE.trans e4;clear p0 p1 p2 p3 p4 p5 p6 p7 a0 a1 a2 a3 a4 a5;go_upto_region 6 with (fail);refine boxes1 ?_;intro w5 e5 hsz5 BH;have BH':w5.heap[w4.heap.size]?=some (.cells #[.bool false,.slice none 0 0,.bool false,.slice none 0 0] 29 (0,0)):=BH;obtain⟨gH,hgH⟩:∃ gH,gH=w4.heap.size:=⟨_,rfl⟩
  rw [←hgH] at BH' ⊢;replace B0:=e5.block B0;replace B1:=e5.block B1;replace hE:=hE.trans e5;clear BH hgH;obtain⟨p0,p1,p2,p3,p4,p5,p6,p7⟩:=cells8 B1;obtain⟨a0,a1,a2,a3,a4,a5⟩:=cells_g B0;go_wp2_with (go_at_call 13; refine Hid.out ?_);refine boxesC1 ?_;intro W6 hE6 hsz6 BX;replace hE:=hE.trans hE6;have hN6:N≤W6.heap.size:=by have:=hE.size; omega
  refine (l49_code (HG.out.ext hE) (ls_two hN6 BX (HX.out.ext hE) (HY.out.ext hE)) (fun i hi=>ite_all SX.out SY.out)).mono ?_;rw [code_chk2,hc];rintro e w7 ⟨rfl,e7⟩;replace hE:=hE.trans e7;replace B0:=e7.block (hE6.block B0);replace B1:=e7.block (hE6.block B1);have BH7:=e7.block (hE6.block BH');clear p0 p1 p2 p3 p4 p5 p6 p7 a0 a1 a2 a3 a4 a5 BX BH';obtain⟨p0,p1,p2,p3,p4,p5,p6,p7⟩:=cells8 B1;obtain⟨a0,a1,a2,a3,a4,a5⟩:=cells_g B0;have HHT:=l49_height (K:=17) (HG.out.ext hE) (grd_ok hg) ((show RatV N w _ x from HX.out).ext hE) ((show RatV N w _ y from HY.out).ext hE) (brief_ht fx) (brief_ht fy) (by omega);rw [hgt_eq,←ho.out] at HHT;have HHT':=Lib.hid HHT;clear HHT;go_wp2_with (go_at_call 14; refine Hid.out ?_);refine (HHT'.out).mono ?_;rintro e w8 ⟨rfl,e8⟩;replace BH7:=e8.block BH7;clear p0 p1 p2 p3 p4 p5 p6 p7 a0 a1 a2 a3 a4 a5 B0 B1;go_upto_region 9 with (fail);refine boxes1 ?_;intro w9 e9 hsz9 BU;clear BU;obtain⟨q0,q1,q2,q3,-⟩:=cells4 (e9.block BH7);clear BH7;go_wp2_with (go_at_call 16; refine Hid.out ?_);refine (r2_zero).mono ?_;rintro e w10 ⟨rfl,e10⟩;go_wp2;go_ret;exact⟨rfl,((hE.trans e8).trans e9).trans e10⟩
end Go.Proofs.YtphpkhoeplcedaaGreat
