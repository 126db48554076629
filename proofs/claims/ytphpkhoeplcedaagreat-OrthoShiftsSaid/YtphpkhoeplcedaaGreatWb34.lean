import Derived.Test.YtphpkhoeplcedaaGreatWb33
import Derived.Test.YtphpkhoeplcedaaGreatWb23
set_option linter.all false
set_option maxHeartbeats 8000000
namespace Go.Proofs.YtphpkhoeplcedaaGreat
open Go.RowKit
def exC:Option Rat→Int
 | some x=>if 0 < x then 0 else 12
 | none=>12
def blkCode (G:Grd) (a b:Nat→Rat) (t:Rat):Int:=if 0 < t∧t < 1 then exC (exF G a b t) else 2
theorem RawV.at4 {N:Nat} {w:World} {b o:Nat} {R:Raw} {x0 x1 x2 x3:Value} (h:RawV N w (.agg #[x0,x1,x2,x3]) R) (h0:w.cell? ⟨b,o,none⟩=some x0) (h1:w.cell? ⟨b,o+1,none⟩=some x1) (h2:w.cell? ⟨b,o+2,none⟩=some x2) (h3:w.cell? ⟨b,o+3,none⟩=some x3):At4 N w b o R:=by
 obtain⟨s,t,e,g1,g2⟩:=h;injection e with e
 simp only [Array.mk.injEq,List.cons.injEq,and_true] at e;obtain⟨rfl,rfl,rfl,rfl⟩:=e;exact⟨_,_,h0,h1,h2,h3,g1,g2⟩
theorem ls_one {N:Nat} {w:World} {b:Nat} {R:Raw} {x0 x1 x2 x3:Value} {t:TypeId} (hN:N≤w.heap.size) (hb:w.heap[b]?=some (.cells #[x0,x1,x2,x3] t (0,0))) (h:RawV N w (.agg #[x0,x1,x2,x3]) R):LsR N 0 w.heap.size w (.slice (some ⟨b,0,none⟩) 1 1) 1 (fun _=>R) :=
 ⟨hN,Nat.le_refl _,some ⟨b,0,none⟩,1,rfl,Nat.le_refl _,by unfold maxLen; omega,fun _=>⟨b,0,rfl,Nat.zero_le _,blk_lt hb,fun i hi=>by
  obtain rfl:i=0:=by omega
  exact h.at4 (by rw [cell_blk hb]; rfl) (by rw [cell_blk hb]; rfl) (by rw [cell_blk hb]; rfl) (by rw [cell_blk hb]; rfl)⟩⟩
set_option maxRecDepth 100000 in
theorem o_BlockedBad {N lo hi:Nat} {w:World} {vg vt:Value} {ca cb:Array Value} {G:Grd} {Ra Rb:Nat→Raw} {R:Raw} (h:GrdV N lo hi w vg G) (ha:PtA N w ca Ra) (hb:PtA N w cb Rb) (ht:RawV N w vt R) (sa:∀ i,i < 3→RawSz (Ra i)) (sb:∀ i,i < 3→RawSz (Rb i)) (st:RawSz R) (hc:chk G Ra Rb 1 (fun _=>R)≠0) :
  Calls Tryz.prog 18 #[vg,.agg ca,.agg cb,vt] w (RetV w (.int .i64 (chk G Ra Rb 1 (fun _=>R)))):=by
 have hN:=ht.le;obtain⟨A,c,rfl,hnc,hcm,hz⟩:=h.parts;have HT:=Lib.hid ht;obtain⟨At,kt,ct,At',kt',ct',rfl,-,-⟩:=ht.parts;obtain⟨r,hr⟩:=hid_eq (chk G Ra Rb 1 (fun _=>R));rw [←hr.out] at hc ⊢;have t0:(r != 0)=true:=by simpa using hc
 have HG:=Lib.hid h;have HA:=Lib.hid ha;have HB:=Lib.hid hb;have SA:=Lib.hid sa;have SB:=Lib.hid sb;have SM:=Lib.hid st;have ZA:=Lib.hid ha.size;have ZB:=Lib.hid hb.size;clear h ha hb sa sb hz hnc hcm hc st ht;go_enter Tryz.func18,Tryz.ntmps18;go_upto_region 1 with (fail);refine boxes4 ?_;intro W hE hsz B0 B1 B2 B3;obtain⟨a0,a1,a2,a3,a4,a5⟩:=cells_g B0;obtain⟨x0,x1,x2,x3,-⟩:=cells4 B3;refine wp_region_lit ?_;refine wpList_plain rfl (fun K hK=>?_);go_simp;refine hK _ _ ?_;clear hK K;try simp only [nr]
 refine wpList_load_row rfl 43 _ rfl _ (by rfl) _ ca _ _ B1 Tryz.underlying43 rfl (by rw [ZA.out]; exact info_pt) ?_;try simp only [nr]
 refine wpList_load_row rfl 43 _ rfl _ (by rfl) _ cb _ _ B2 Tryz.underlying43 rfl (by rw [ZB.out]; exact info_pt) ?_;try simp only [nr]
 refine wpList_plain rfl (fun K hK=>?_);go_simp;refine hK _ _ ?_;clear hK K;try simp only [nr]
 refine wpList_plain rfl (fun K hK=>?_);go_simp;refine hK _ _ ?_;clear hK K;try simp only [nr]
 refine boxes1 ?_;intro W2 hE2 hsz2 BX;replace hE:=hE.trans hE2;replace B0:=hE2.block B0;replace B1:=hE2.block B1;replace B2:=hE2.block B2;replace B3:=hE2.block B3;clear a0 a1 a2 a3 a4 a5 x0 x1 x2 x3;go_wp2_with (go_at_call 58; refine Hid.out ?_);refine (o_checked (HG.out.ext hE) (HA.out.ext hE) (HB.out.ext hE) (ls_one (by have:=hE.size; omega) BX (HT.out.ext hE)) SA.out SB.out (fun i hi=>SM.out)).mono ?_;rw [←hr.out];rintro e w1 ⟨rfl,e1⟩;have hEF:=hE.trans e1;go_wp2;go_ret;exact⟨rfl,hEF⟩
set_option maxRecDepth 100000 in
theorem o_Blocked {N lo hi:Nat} {w:World} {vg vt:Value} {ca cb:Array Value} {G:Grd} {a b:Nat→Rat} {t:Rat} {K:Nat} (h:GrdV N lo hi w vg G) (hg:grdCode G=0) (hok:SOk G K a b) (hkt:Ht K t) (hK:K≤100000) (ha:PtA N w ca (fun i=>raw (a i))) (hb:PtA N w cb (fun i=>raw (b i))) (ht:RatV N w vt t) :
  Calls Tryz.prog 18 #[vg,.agg ca,.agg cb,vt] w (RetV w (.int .i64 (blkCode G a b t))):=by
 have hN:=ht.le;obtain⟨A,c,rfl,hnc,hcm,hz⟩:=h.parts;have HT:=Lib.hid ht;obtain⟨bt,At,kt,ct,At',kt',ct',rfl,-,-,-⟩:=ht.parts;obtain⟨r,hr⟩:=hid_eq (blkCode G a b t);rw [←hr.out];have hc:=chk_ok (a:=a) (b:=b) (k:=1) (R:=fun _=>raw t) hg (fun i hi=>okR_raw _);have HG:=Lib.hid h;have HC:=Lib.hid hc;have HA:=Lib.hid ha;have HB:=Lib.hid hb;have SA:Hid (∀ i,i < 3→RawSz (raw (a i))):=fun i hi=>sz_len ((hok.ka i hi).sz (by omega))
 have SB:Hid (∀ i,i < 3→RawSz (raw (b i))):=fun i hi=>sz_len ((hok.kb i hi).sz (by omega))
 have ST:Hid (Sz t):=hkt.sz (by omega);have HKT:=Lib.hid hkt;have HO:=Lib.hid hok;have ZA:=Lib.hid ha.size;have ZB:=Lib.hid hb.size;clear h ha hb hz hnc hcm hc hok hg ht hkt;go_enter Tryz.func18,Tryz.ntmps18;go_upto_region 1 with (fail);refine boxes4 ?_;intro W hE hsz B0 B1 B2 B3;obtain⟨a0,a1,a2,a3,a4,a5⟩:=cells_g B0;obtain⟨x0,x1,x2,x3,-⟩:=cells4 B3;refine wp_region_lit ?_;refine wpList_plain rfl (fun K hK=>?_);go_simp;refine hK _ _ ?_;clear hK K;try simp only [nr]
 refine wpList_load_row rfl 43 _ rfl _ (by rfl) _ ca _ _ B1 Tryz.underlying43 rfl (by rw [ZA.out]; exact info_pt) ?_;try simp only [nr]
 refine wpList_load_row rfl 43 _ rfl _ (by rfl) _ cb _ _ B2 Tryz.underlying43 rfl (by rw [ZB.out]; exact info_pt) ?_;try simp only [nr]
 refine wpList_plain rfl (fun K hK=>?_);go_simp;refine hK _ _ ?_;clear hK K;try simp only [nr]
 refine wpList_plain rfl (fun K hK=>?_);go_simp;refine hK _ _ ?_;clear hK K;try simp only [nr]
 refine boxes1 ?_;intro W2 hE2 hsz2 BX;replace hE:=hE.trans hE2;replace B0:=hE2.block B0;replace B1:=hE2.block B1;replace B2:=hE2.block B2;replace B3:=hE2.block B3;clear a0 a1 a2 a3 a4 a5 x0 x1 x2 x3;go_wp2_with (go_at_call 58; refine Hid.out ?_);refine (o_checked (HG.out.ext hE) (HA.out.ext hE) (HB.out.ext hE) (ls_one (R:=raw t) (by have:=hE.size; omega) BX (HT.out.ext hE)) SA.out SB.out (fun i hi=>sz_len ST.out)).mono ?_;rw [HC.out];rintro e w1 ⟨rfl,e1⟩;replace B0:=e1.block B0;replace B1:=e1.block B1;replace B2:=e1.block B2;replace B3:=e1.block B3;replace hE:=hE.trans e1;clear BX;go_upto_region 4 with (fail);obtain⟨x0,x1,x2,x3,-⟩:=cells4 B3;have hRt:=HT.out.ext hE;obtain⟨st,hst⟩:=hid_eq t.num.sign
 by_cases hs1:0 < st
 case neg =>
  have p1:decide (st≤0)=true:=decide_eq_true (by omega)
  have HR:Hid (2=r):=by
   rw [Hid,hr.out];unfold blkCode;rw [if_neg (fun h=>hs1 (by rw [hst.out]; exact sign_pos.2 h.1))]
  clear hs1;refine regI [Mn.rat N (t),Mn.eq (.int .i64 st),Mn.eq (.bool true),Mn.eq (.bool true),Mn.eq undef,Mn.eq undef,Mn.eq undef,Mn.eq undef,Mn.eq (.bool true)] [some 21,some 22,some 23,some 24,some 25,some 26,some 27,some 28,some 29] [] [true,true,true,true,true,true,true,true,true] 0 (by kernel_rfl) ?_ ?_
  ·show ∀ i,i < 9→_
   iterate 9 refine fs ?_ ?_
   ·exact fz
   all_goals intro hl
   all_goals clear hl
   all_goals refine stp rfl ?_
   all_goals intro ac wi eI hB hA K hK
   have o7:=oOf (hB 7 (by kernel_rfl)) rfl;clear hB hA;have cc0:=eI.cell x0;have cc1:=eI.cell x1;have cc2:=eI.cell x2;have cc3:=eI.cell x3
   ·go_simp;exact hK.out _ _ (Ext.refl _) (hRt.ext eI)
   obtain⟨x21,s21,j21⟩:=hA 0 (by kernel_rfl) 21 rfl;replace j21:Mn.p (Mn.rat N (t)) x21 wi:=j21;clear hB hA
   ·go_simp;refine (f_sign j21 ST.out).mono ?_;rw [←hst.out];rintro e wj ⟨rfl,ej⟩;go_wp2_with fail;exact hK.out _ _ ej rfl
   obtain⟨_,s22,rfl⟩:=hA 1 (by kernel_rfl) 22 rfl
   rotate_left
   obtain⟨_,s23,rfl⟩:=hA 2 (by kernel_rfl) 23 rfl
   rotate_left
   obtain⟨_,s24,rfl⟩:=hA 3 (by kernel_rfl) 24 rfl;clear hB hA;rw [if_neg (by simp [Region.wanted,yielded,s24,undef])];exact hK.out _ _ (Ext.refl _) rfl;obtain⟨_,s24,rfl⟩:=hA 3 (by kernel_rfl) 24 rfl;clear hB hA;rw [if_neg (by simp [Region.wanted,yielded,s24,undef])];exact hK.out _ _ (Ext.refl _) rfl;obtain⟨_,s24,rfl⟩:=hA 3 (by kernel_rfl) 24 rfl;clear hB hA;rw [if_neg (by simp [Region.wanted,yielded,s24,undef])];exact hK.out _ _ (Ext.refl _) rfl;obtain⟨_,s24,rfl⟩:=hA 3 (by kernel_rfl) 24 rfl;clear hB hA;rw [if_neg (by simp [Region.wanted,yielded,s24,undef])];exact hK.out _ _ (Ext.refl _) rfl;obtain⟨_,s24,rfl⟩:=hA 3 (by kernel_rfl) 24 rfl;obtain⟨_,s28,rfl⟩:=hA 7 (by kernel_rfl) 28 rfl
   rotate_left
   all_goals clear hB hA
   all_goals go_simp
   all_goals exact hK.out _ _ (Ext.refl _) rfl
  intro vals wz eZ hJ;have J29:vals 8=_:=hJ 8 (by decide) (by decide);clear hJ;simp only [pr,Nat.reduceAdd,J29];clear J29;refine stepL_done (by kernel_rfl) ?_ _;go_wp2;go_ret;exact⟨ret_int HR.out,hE.trans eZ⟩
 have p1:decide (st≤0)=false:=decide_eq_false (by omega);have HT0:Hid (0 < t):=sign_pos.1 (by rw [←hst.out]; exact hs1);obtain⟨ct,hct⟩:=hid_eq (cmpQ t 1);obtain⟨pc,hpc⟩:=hid_eq (decide (0≤ct));have p2:decide (0≤ct)=pc:=hpc.out.symm;clear hs1;refine regI [Mn.rat N (t),Mn.eq (.int .i64 st),Mn.eq (.bool false),Mn.eq (.bool false),Mn.rat N (t),Mn.rat N (((1:Int):Rat)),Mn.eq (.int .i64 ct),Mn.eq (.bool pc),Mn.eq (.bool pc)] [some 21,some 22,some 23,some 24,some 25,some 26,some 27,some 28,some 29] [] [true,true,true,true,true,true,true,true,true] 0 (by kernel_rfl) ?_ ?_
 ·show ∀ i,i < 9→_
  iterate 9 refine fs ?_ ?_
  ·exact fz
  all_goals intro hl
  all_goals clear hl
  all_goals refine stp rfl ?_
  all_goals intro ac wi eI hB hA K hK
  have o7:=oOf (hB 7 (by kernel_rfl)) rfl;clear hB hA;have cc0:=eI.cell x0;have cc1:=eI.cell x1;have cc2:=eI.cell x2;have cc3:=eI.cell x3
  ·go_simp;exact hK.out _ _ (Ext.refl _) (hRt.ext eI)
  obtain⟨x21,s21,j21⟩:=hA 0 (by kernel_rfl) 21 rfl;replace j21:Mn.p (Mn.rat N (t)) x21 wi:=j21;clear hB hA
  ·go_simp;refine (f_sign j21 ST.out).mono ?_;rw [←hst.out];rintro e wj ⟨rfl,ej⟩;go_wp2_with fail;exact hK.out _ _ ej rfl
  obtain⟨_,s22,rfl⟩:=hA 1 (by kernel_rfl) 22 rfl
  rotate_left
  obtain⟨_,s23,rfl⟩:=hA 2 (by kernel_rfl) 23 rfl
  rotate_left
  obtain⟨_,s24,rfl⟩:=hA 3 (by kernel_rfl) 24 rfl;have o7:=oOf (hB 7 (by kernel_rfl)) rfl;clear hB hA;rw [if_pos (by simp [Region.wanted,yielded,s24])];have cc0:=eI.cell x0;have cc1:=eI.cell x1;have cc2:=eI.cell x2;have cc3:=eI.cell x3
  ·go_simp;exact hK.out _ _ (Ext.refl _) (hRt.ext eI)
  obtain⟨_,s24,rfl⟩:=hA 3 (by kernel_rfl) 24 rfl;clear hB hA;rw [if_pos (by simp [Region.wanted,yielded,s24])]
  ·go_simp;refine (o_whole (Nat.le_trans (by have:=hE.size; omega:N≤w1.heap.size) eI.size) 1 (by omega) (by omega)).mono ?_;rintro e wj ⟨vj,rfl,hj,ej⟩;go_wp2_with fail;exact hK.out _ _ ej hj
  obtain⟨_,s24,rfl⟩:=hA 3 (by kernel_rfl) 24 rfl;obtain⟨x25,s25,j25⟩:=hA 4 (by kernel_rfl) 25 rfl;replace j25:Mn.p (Mn.rat N (t)) x25 wi:=j25;obtain⟨x26,s26,j26⟩:=hA 5 (by kernel_rfl) 26 rfl;replace j26:Mn.p (Mn.rat N (((1:Int):Rat))) x26 wi:=j26;clear hB hA;rw [if_pos (by simp [Region.wanted,yielded,s24])]
  ·go_simp;refine (f_compare j25 j26 ST.out (sz_int (by decide))).mono ?_;rw [show (t.num*(((1:Int):Rat)).den - (((1:Int):Rat)).num*t.den).sign=ct from hct.out.symm];rintro e wj ⟨rfl,ej⟩;go_wp2_with fail;exact hK.out _ _ ej rfl
  obtain⟨_,s24,rfl⟩:=hA 3 (by kernel_rfl) 24 rfl;obtain⟨_,s27,rfl⟩:=hA 6 (by kernel_rfl) 27 rfl;rw [if_pos (by simp [Region.wanted,yielded,s24])]
  rotate_left
  obtain⟨_,s24,rfl⟩:=hA 3 (by kernel_rfl) 24 rfl;obtain⟨_,s28,rfl⟩:=hA 7 (by kernel_rfl) 28 rfl
  rotate_left
  all_goals clear hB hA
  all_goals go_simp
  all_goals exact hK.out _ _ (Ext.refl _) rfl
 intro vals wz eZ hJ;have J29:vals 8=_:=hJ 8 (by decide) (by decide);clear hJ;simp only [pr,Nat.reduceAdd,J29];clear J29;refine stepL_done (by kernel_rfl) ?_ _;clear x0 x1 x2 x3 hRt p2;replace B0:=eZ.block B0;replace B1:=eZ.block B1;replace B2:=eZ.block B2;replace B3:=eZ.block B3;replace hE:=hE.trans eZ;clear eZ;obtain⟨w2,hw2⟩:∃ w2,w2=wz:=⟨_,rfl⟩
 subst hw2;cases pc with
 | true =>
  have HR:Hid (2=r):=by
   rw [Hid,hr.out];unfold blkCode;rw [if_neg (fun h=>absurd (cmp_neg.2 h.2) (by have:=of_decide_eq_true hpc.out.symm; rw [←hct.out]; omega))]
  clear hpc;go_wp2;go_ret;exact⟨ret_int HR.out,hE⟩
 | false =>
 have HT1:Hid (t < 1):=cmp_neg.1 (by have:=of_decide_eq_false hpc.out.symm; rw [←hct.out]; omega);obtain⟨o,ho⟩:=hid_eq (exF G a b t)
 have HR0:Hid (r=exC o):=by
  rw [Hid,hr.out,ho.out];unfold blkCode;rw [if_pos ⟨HT0.out,HT1.out⟩]
 clear hpc hr;go_upto_region 6 with (fail);obtain⟨a0,a1,a2,a3,a4,a5⟩:=cells_g B0;obtain⟨x0,x1,x2,x3,-⟩:=cells4 B3;obtain⟨cs,hcs⟩:=hid_eq (#[.int .i64 G.x0,.int .i64 G.y0,.int .i64 G.st,.int .i64 G.wd,.int .i64 G.ht,.slice A G.n c] ++ ca ++ cb);have HSEG:Hid (SegV N lo hi w2 cs G a b):=by rw [hcs.out]; exact seg_mk (by have:=hE.size; omega) (HG.out.ext hE) (HA.out.ext hE) (HB.out.ext hE)
 refine wp_region_lit ?_;refine wpList_plain rfl (fun K hK=>?_);go_simp;refine hK _ _ ?_;clear hK K;try simp only [nr]
 refine wpList_load_row rfl 43 _ rfl _ (by rfl) _ ca _ _ B1 Tryz.underlying43 rfl (by rw [ZA.out]; exact info_pt) ?_;try simp only [nr]
 refine wpList_load_row rfl 43 _ rfl _ (by rfl) _ cb _ _ B2 Tryz.underlying43 rfl (by rw [ZB.out]; exact info_pt) ?_;try simp only [nr]
 refine wpList_build_eq rfl _ _ rfl (l:=[(0,.agg #[.int .i64 G.x0,.int .i64 G.y0,.int .i64 G.st,.int .i64 G.wd,.int .i64 G.ht,.slice A G.n c]),(1,.agg ca),(2,.agg cb)]) (by simp only [List.map_toArray,List.map_cons,List.map_nil]; rfl) ((built_segO ZA.out ZB.out).trans (congrArg some hcs.out.symm)) ?_;try simp only [nr]
 go_wp2_with (go_at_call 62; refine Hid.out ?_);refine (o_excess HSEG.out (HT.out.ext hE) HO.out HKT.out hK (Rat.le_of_lt HT0.out) (Rat.le_of_lt HT1.out)).mono ?_;rw [←ho.out];clear a0 a1 a2 a3 a4 a5 x0 x1 x2 x3;rintro e w3 ⟨v7,q7,rfl,hq7,hv7,e7⟩;have HQ:=Lib.hid hq7;obtain⟨bv,Av,kv,cv,A'v,k'v,c'v,rfl,hbv,yv,zv⟩:=RatV.parts hv7;clear hq7;go_upto_region 7 with (fail);refine boxes1 ?_;intro w9 e9 hsz9 B9;have HV:=Lib.hid (hv7.ext e9);replace hE:=(hE.trans e7).trans e9;obtain⟨y0,y1,y2,y3,-⟩:=cells4 B9;clear hv7 yv zv hsz9 B0 B1 B2 B3 e7 e9;cases o with
 | none =>
  have HR:Hid (12=r):=HR0.out.symm;go_wp2;go_ret;exact⟨ret_int HR.out,hE⟩
 | some x =>
  obtain rfl:=HQ.out x rfl;have HXZ:Hid (Sz x):=(ex_ht HO.out.g HO.out.ka HO.out.kb HKT.out ho.out.symm).sz (by omega);obtain⟨sx',hsx⟩:=hid_eq x.num.sign
  by_cases hx0:0 < x
  ·have p1:decide (sx'≤0)=false:=decide_eq_false (by have:=sign_pos.2 hx0; rw [hsx.out]; omega);have HR:Hid (0=r):=by rw [Hid,HR0.out]; exact (if_pos hx0).symm
   clear hx0;go_wp2_with (go_at_call 59; refine Hid.out ?_);refine (f_sign HV.out HXZ.out).mono ?_;rw [←hsx.out];rintro e wA ⟨rfl,eA⟩;go_wp2;go_ret;exact⟨ret_int HR.out,hE.trans eA⟩
  ·have p1:decide (sx'≤0)=true:=decide_eq_true (by have h9:¬ 0 < x.num.sign:=fun h=>hx0 (sign_pos.1 h); rw [hsx.out]; omega);have HR:Hid (12=r):=by rw [Hid,HR0.out]; exact (if_neg hx0).symm
   clear hx0;go_wp2_with (go_at_call 59; refine Hid.out ?_);refine (f_sign HV.out HXZ.out).mono ?_;rw [←hsx.out];rintro e wA ⟨rfl,eA⟩;go_wp2;go_ret;exact⟨ret_int HR.out,hE.trans eA⟩
theorem ls_two {N:Nat} {w:World} {b:Nat} {R R':Raw} {x0 x1 x2 x3 y0 y1 y2 y3:Value} {t:TypeId} (hN:N≤w.heap.size) (hb:w.heap[b]?=some (.cells #[x0,x1,x2,x3,y0,y1,y2,y3] t (0,0))) (h:RawV N w (.agg #[x0,x1,x2,x3]) R) (h':RawV N w (.agg #[y0,y1,y2,y3]) R'):LsR N 0 w.heap.size w (.slice (some ⟨b,0,none⟩) 2 2) 2 (fun i=>if i=0 then R else R') :=
 ⟨hN,Nat.le_refl _,some ⟨b,0,none⟩,2,rfl,Nat.le_refl _,by unfold maxLen; omega,fun _=>⟨b,0,rfl,Nat.zero_le _,blk_lt hb,fun i hi=>by
  have hi':i=0∨i=1:=by omega
  rcases hi' with rfl | rfl
  ·exact h.at4 (by rw [cell_blk hb]; rfl) (by rw [cell_blk hb]; rfl) (by rw [cell_blk hb]; rfl) (by rw [cell_blk hb]; rfl)
  ·exact h'.at4 (by rw [cell_blk hb]; rfl) (by rw [cell_blk hb]; rfl) (by rw [cell_blk hb]; rfl) (by rw [cell_blk hb]; rfl)⟩⟩
theorem cells8 {w:World} {g:Nat} {t:TypeId} {x0 x1 x2 x3 x4 x5 x6 x7:Value} (h:w.heap[g]?=some (.cells #[x0,x1,x2,x3,x4,x5,x6,x7] t (0,0))):w.cell? ⟨g,0,none⟩=some x0∧w.cell? ⟨g,1,none⟩=some x1∧w.cell? ⟨g,2,none⟩=some x2∧w.cell? ⟨g,3,none⟩=some x3∧w.cell? ⟨g,4,none⟩=some x4∧w.cell? ⟨g,5,none⟩=some x5∧w.cell? ⟨g,6,none⟩=some x6∧w.cell? ⟨g,7,none⟩=some x7:=by
 refine⟨?_,?_,?_,?_,?_,?_,?_,?_⟩ <;> exact cell_blk h _
theorem ite_all {p:Raw→Prop} {R R':Raw} {c:Prop} [Decidable c] (h:p R) (h':p R'):p (if c then R else R'):=by split <;> assumption
def PlV (N:Nat) (w:World) (v:Value) (R R':Raw):Prop:=∃ x0 x1 x2 x3 y0 y1 y2 y3,v=.agg #[x0,x1,x2,x3,y0,y1,y2,y3]∧RawV N w (.agg #[x0,x1,x2,x3]) R∧RawV N w (.agg #[y0,y1,y2,y3]) R'
theorem PlV.parts {N:Nat} {w:World} {v:Value} {R R':Raw} (h:PlV N w v R R'):∃ A n c B m d A' n' c' B' m' d',v=.agg #[.bool R.b1,.slice A n c,.bool R.b2,.slice B m d,.bool R'.b1,.slice A' n' c',.bool R'.b2,.slice B' m' d']∧RawV N w (.agg #[.bool R.b1,.slice A n c,.bool R.b2,.slice B m d]) R∧RawV N w (.agg #[.bool R'.b1,.slice A' n' c',.bool R'.b2,.slice B' m' d']) R':=by
 obtain⟨x0,x1,x2,x3,y0,y1,y2,y3,rfl,h1,h2⟩:=h;obtain⟨A,n,c,B,m,d,e,k1,k2⟩:=h1.parts;injection e with e
 simp only [Array.mk.injEq,List.cons.injEq,and_true] at e;obtain⟨rfl,rfl,rfl,rfl⟩:=e;obtain⟨A',n',c',B',m',d',e,k1,k2⟩:=h2.parts;injection e with e
 simp only [Array.mk.injEq,List.cons.injEq,and_true] at e;obtain⟨rfl,rfl,rfl,rfl⟩:=e;exact⟨A,n,c,B,m,d,A',n',c',B',m',d',rfl,h1,h2⟩
def chk2 (G:Grd) (R R':Raw):Int:=if grdCode G≠0 then grdCode G else if okR R && okR R' then 0 else 1
def RetHt (N:Nat) (w:World) (o:Option Rat) (e:Ending) (w':World):Prop :=
 match o with
 | some q=>∃ v,e=.returned (.tuple #[v,.int .i64 0])∧RatV N w' v q∧Ext w w'
 | none=>e=.returned (.tuple #[nilRat,.int .i64 15])∧Ext w w'
set_option maxRecDepth 100000 in
theorem o_Height {N lo hi:Nat} {w:World} {vg vp:Value} {G:Grd} {x y:Rat} {K:Nat} (h:GrdV N lo hi w vg G) (hg:grdCode G=0) (hp:PlV N w vp (raw x) (raw y)) (hN:N≤w.heap.size) (hkx:Ht K x) (hky:Ht K y) (hK:K≤100000) (hx : -100000000≤x∧x≤100000000) (hy : -100000000≤y∧y≤100000000) :
  Calls Tryz.prog 12 #[vg,vp] w (RetHt N w (hgtF G x y)):=by
 have hG:=grd_ok hg;obtain⟨A,c,rfl,hnc,hcm,hz⟩:=h.parts;obtain⟨A1,n1,c1,A2,n2,c2,A3,n3,c3,A4,n4,c4,rfl,hvx,hvy⟩:=hp.parts;obtain⟨o,ho⟩:=hid_eq (hgtF G x y);rw [←ho.out];have HG:=Lib.hid h;have HX:Hid (RatV N w _ x):=hvx;have HY:Hid (RatV N w _ y):=hvy;have SX:Hid (Sz x):=hkx.sz (by omega);have SY:Hid (Sz y):=hky.sz (by omega);have HC:=Lib.hid hg
 have HH:Hid (∀ (N lo hi:Nat) (w:World) (vg vx vy:Value),GrdV N lo hi w vg G→RatV N w vx x→RatV N w vy y→Calls Tryz.prog 51 #[vg,vx,vy] w (RetHgt N w o)):=by
  intro N lo hi w vg vx vy h1 h2 h3;rw [ho.out];exact o_height h1 hG h2 h3 hkx hky (by omega) (flo_bd hx.1 hx.2 hG.x0 hG.x1 hG.s0) (flo_bd hy.1 hy.2 hG.y0 hG.y1 hG.s0)
 have HKX:=Lib.hid (hgt_ht hG hkx hky (h:=(o.getD 0)));have HO:=ho;clear h hp hvx hvy hz hnc hcm ho hkx hky hx hy hg;go_enter Tryz.func12,Tryz.ntmps12;go_wp2_with (go_at_call 49; refine Hid.out ?_);refine boxesC3 ?_;intro W hE hsz B0 B1 B2;refine (te_check (HG.out.ext hE)).mono ?_;rw [HC.out];rintro e w1 ⟨rfl,e1⟩;replace hE:=hE.trans e1;replace B0:=e1.block B0;replace B1:=e1.block B1;replace B2:=e1.block B2;obtain⟨p0,p1,p2,p3,p4,p5,p6,p7⟩:=cells8 B1;go_wp2_with (go_at_call 50; refine Hid.out ?_);refine boxesC1 ?_;intro W2 hE2 hsz2 BX;replace hE:=hE.trans hE2;refine (o_canonical (ls_two (R:=raw x) (R':=raw y) (by have:=hE.size; omega) BX (HX.out.ext hE) (HY.out.ext hE)) (fun i hi=>ite_all (p:=RawSz) (sz_len SX.out) (sz_len SY.out))).mono ?_;rintro e w3 ⟨rfl,e3⟩;have HB:Hid (allB 2 (fun i=>okR (if i=0 then raw x else raw y))=true):=allB_true.2 fun i _=>ite_all (p:=fun R=>okR R=true) (okR_raw _) (okR_raw _)
 rw [HB.out];replace B0:=e3.block (hE2.block B0);replace B1:=e3.block (hE2.block B1);replace B2:=e3.block (hE2.block B2);replace hE:=hE.trans e3;clear p0 p1 p2 p3 p4 p5 p6 p7 BX;obtain⟨p0,p1,p2,p3,p4,p5,p6,p7⟩:=cells8 B1;obtain⟨a0,a1,a2,a3,a4,a5⟩:=cells_g B0;go_wp2_with (go_at_call 51; refine Hid.out ?_);refine (HH.out N lo hi w3 _ _ _ (HG.out.ext hE) (HX.out.ext hE) (HY.out.ext hE)).mono ?_;clear p0 p1 p2 p3 p4 p5 p6 p7 a0 a1 a2 a3 a4 a5;cases o with
 | none =>
  rintro e w4 ⟨rfl,e4⟩;go_upto_region 7 with (fail);refine boxes1 ?_;intro w5 e5 hsz5 B4;replace B2:=e5.block (e4.block B2);replace hE:=(hE.trans e4).trans e5;clear B0 B1 B4;obtain⟨z0,z1,z2,z3,z4,z5,z6,z7⟩:=cells4 B2;go_wp2;obtain⟨wR,ER,FR,UR⟩:=ex4 B2 (.bool false) (.slice none 0 0) (.bool false) (.slice none 0 0);rw [ER];obtain⟨v0,v1,v2,v3,-⟩:=cells4 FR;refine bodyPost_ret (v:=.tuple #[nilRat,.int .i64 (15)]) ?_ rfl ?_
  ·simp [results,Tryz.results12,v0,v1,v2,v3,go_sem,nilRat]
  exact⟨rfl,UR.ext hE (by omega)⟩
 | some q =>
  rintro e w4 ⟨v,rfl,hv,e4⟩;obtain⟨bv,Av,kv,cv,A'v,k'v,c'v,rfl,hbv,yv,zv⟩:=hv.parts;go_upto_region 7 with (fail);refine boxes1 ?_;intro w5 e5 hsz5 B4;replace B2:=e5.block (e4.block B2);replace hE:=(hE.trans e4).trans e5;replace yv:=yv.ext e5;replace zv:=zv.ext e5;clear B0 B1;obtain⟨x0,x1,x2,x3,-⟩:=cells4 B4;obtain⟨z0,z1,z2,z3,z4,z5,z6,z7⟩:=cells4 B2;go_wp2;obtain⟨wR,ER,FR,UR⟩:=ex4 B2 (.bool bv) (.slice Av kv cv) (.bool false) (.slice A'v k'v c'v);rw [ER];have hTR:=NoU.mk B2 (by decide);obtain⟨v0,v1,v2,v3,-⟩:=cells4 FR;have hRR:RatV N wR _ _:=RatV.mk hbv (yv.upd UR (by omega) hTR) (zv.upd UR (by omega) hTR);refine bodyPost_ret (v:=.tuple #[.agg #[.bool bv,.slice Av kv cv,.bool false,.slice A'v k'v c'v],.int .i64 0]) ?_ rfl ?_
  ·simp [results,Tryz.results12,v0,v1,v2,v3,go_sem]
  exact⟨_,rfl,hRR,UR.ext hE (by omega)⟩
theorem set_same {w:World} {g i:Nat} {cs:Array Value} {t:TypeId} {v:Value} (h:w.heap[g]?=some (.cells cs t (0,0))) (hv:cs[i]?=some v):w.setCell ⟨g,i,none⟩ v=w:=by
 obtain⟨hg,hge⟩:=Array.getElem?_eq_some_iff.1 h;obtain⟨hi,hie⟩:=Array.getElem?_eq_some_iff.1 hv;unfold World.setCell;have:∀ H:Array Obj,H=w.heap→({ w with heap:=H }:World)=w:=fun H e=>by rw [e]
 refine this _ ?_
 apply Array.ext_getElem?
 intro k;rw [Array.getElem?_modify]
 split
 ·rename_i hk
  subst hk;rw [h]
  show some (Obj.cells (cs.setIfInBounds i v) t (0,0))=_
  congr 2
  apply Array.ext_getElem?
  intro j;rw [Array.getElem?_setIfInBounds]
  by_cases hj:i=j
  ·subst hj; rw [if_pos rfl,if_pos hi,hv]
  ·rw [if_neg hj]
 ·rfl
theorem same4 {w:World} {g:Nat} {t:TypeId} {x0 x1 x2 x3:Value} (h:w.heap[g]?=some (.cells #[x0,x1,x2,x3] t (0,0))):(((w.setCell ⟨g,0,none⟩ x0).setCell ⟨g,1,none⟩ x1).setCell ⟨g,2,none⟩ x2).setCell ⟨g,3,none⟩ x3=w:=by
 rw [set_same h rfl,set_same h rfl,set_same h rfl,set_same h rfl]
def RetLoc (N:Nat) (w:World) (p q:Rat) (e:Ending) (w':World):Prop:=∃ a b,e=.returned (.tuple #[a,b])∧RatV N w' a p∧RatV N w' b q∧Ext w w'
structure TOk (G:Grd) (i j z0 z1 z2:Int):Prop where
 i0:0≤i
 i1:i≤64
 j0:0≤j
 j1:j≤64
 a0 : -1048576≤z0
 a1:z0≤1048576
 b0 : -1048576≤z1
 b1:z1≤1048576
 c0 : -1048576≤z2
 c1:z2≤1048576
def triV (i j:Int) (l:Bool) (z0 z1 z2:Int):Value:=.agg #[.int .i64 i,.int .i64 j,.bool l,.int .i64 z0,.int .i64 z1,.int .i64 z2]
theorem loc_eq {x:Rat} {x0 st i:Int} (h:((st:Int):Rat)≠0):(x - ((x0+i*st:Int):Rat)) / (st:Rat)=stepF x x0 st - (i:Rat):=by
 unfold stepF;rw [Rat.intCast_add,Rat.intCast_mul,Rat.div_def,Rat.div_def];have h1:(st:Rat)*(st:Rat)⁻¹=1:=Rat.mul_inv_cancel _ h
 grind
theorem sx_ht {G:Grd} (hG:GOk G) {K:Nat} {x:Rat} (hx:Ht K x):Ht (K+39) (sx G x):=((hx.sub (ht_int (m:=21) (by have:=hG.x0; have:=hG.x1; omega) (by omega))).div (ht_int (m:=17) (by have:=hG.s0; have:=hG.s1; omega) (by omega))).mono (by omega)
theorem sy_ht {G:Grd} (hG:GOk G) {K:Nat} {y:Rat} (hy:Ht K y):Ht (K+39) (sy G y):=((hy.sub (ht_int (m:=21) (by have:=hG.y0; have:=hG.y1; omega) (by omega))).div (ht_int (m:=17) (by have:=hG.s0; have:=hG.s1; omega) (by omega))).mono (by omega)
set_option maxRecDepth 100000 in
theorem l49_local {N lo hi:Nat} {w:World} {vg vx vy:Value} {G:Grd} {i j z0 z1 z2:Int} {l:Bool} {x y:Rat} {K:Nat} (h:GrdV N lo hi w vg G) (hG:GOk G) (ht:TOk G i j z0 z1 z2) (hx:RatV N w vx x) (hy:RatV N w vy y) (hkx:Ht K x) (hky:Ht K y) (hK:K≤1000000) :
  Calls Tryz.prog 105 #[vg,triV i j l z0 z1 z2,vx,vy] w (RetLoc N w (sx G x - (i:Rat)) (sy G y - (j:Rat))):=by
 have hN:=hx.le;obtain⟨A,c,rfl,-,-,-⟩:=h.parts;obtain⟨m1,X1,i1,d1,X2,i2,d2,rfl,hm1,gx1,gx2⟩:=hx.parts;obtain⟨m2,Y1,i3,d3,Y2,i4,d4,rfl,hm2,gy1,gy2⟩:=hy.parts;have HX:=Lib.hid hx;have HY:=Lib.hid hy;obtain⟨p,hp⟩:=hid_eq (sx G x - (i:Rat));obtain⟨q,hq⟩:=hid_eq (sy G y - (j:Rat));rw [←hp.out,←hq.out];have s0:=hG.s0;have s1:=hG.s1;have x0:=hG.x0;have x1:=hG.x1;have y0:=hG.y0;have y1:=hG.y1;have t0:=ht.i0;have t1:=ht.i1;have t2:=ht.j0;have t3:=ht.j1;obtain⟨pi,hpi⟩:=hid_eq (i*G.st);obtain⟨pj,hpj⟩:=hid_eq (j*G.st);have b0:0≤pi:=by rw [hpi.out]; exact Int.mul_nonneg t0 (by omega)
 have b1:pi≤4194304:=by rw [hpi.out]; exact Int.le_trans (Int.mul_le_mul t1 s1 (by omega) (by omega)) (by decide)
 have b2:0≤pj:=by rw [hpj.out]; exact Int.mul_nonneg t2 (by omega)
 have b3:pj≤4194304:=by rw [hpj.out]; exact Int.le_trans (Int.mul_le_mul t3 s1 (by omega) (by omega)) (by decide)
 have hw1:IntKind.i64.wrap (i*G.st)=pi:=by rw [hpi.out]; exact IntWalk.i64_in _ (by rw [←hpi.out]; omega)
 have hw2:IntKind.i64.wrap (j*G.st)=pj:=by rw [hpj.out]; exact IntWalk.i64_in _ (by rw [←hpj.out]; omega)
 have hw3:IntKind.i64.wrap (G.x0+pi)=G.x0+pi:=IntWalk.i64_in _ (by omega);have hw4:IntKind.i64.wrap (G.y0+pj)=G.y0+pj:=IntWalk.i64_in _ (by omega);have HST:Hid (((G.st:Int):Rat)≠0):=by rw [Hid,Ne,Rat.intCast_eq_zero_iff]; omega
 have HSS:Hid (Sz ((G.st:Int):Rat)):=sz_int (by omega);have HP:Hid ((x - ((G.x0+pi:Int):Rat)) / ((G.st:Int):Rat)=p):=by rw [Hid,hp.out,hpi.out]; exact loc_eq HST.out
 have HQ:Hid ((y - ((G.y0+pj:Int):Rat)) / ((G.st:Int):Rat)=q):=by rw [Hid,hq.out,hpj.out]; exact loc_eq HST.out
 have HZX:Hid (Sz x∧Sz (x - ((G.x0+pi:Int):Rat))):=⟨hkx.sz (by omega),(hkx.sub (ht_int (m:=24) (by omega) (by omega))).sz (by omega)⟩
 have HZY:Hid (Sz y∧Sz (y - ((G.y0+pj:Int):Rat))):=⟨hky.sz (by omega),(hky.sub (ht_int (m:=24) (by omega) (by omega))).sz (by omega)⟩
 clear h hG ht hx hy hkx hky gx1 gx2 gy1 gy2 hpi hpj;unfold triV;go_enter Tryz.func105,Tryz.ntmps105;go_upto_region 1 with (fail);refine boxes6 ?_;intro W hE hsz B0 B1 B2 B3 B4 B5;obtain⟨a0,a1,a2,-,-,-⟩:=cells_g B0;obtain⟨c0,c1,-,-,-,-⟩:=cells_g B1;obtain⟨p0,p1,p2,p3,-⟩:=cells4 B2;obtain⟨r0,r1,r2,r3,r4,r5,r6,r7⟩:=cells4 B4;have hRx:=HX.out.ext hE;refine regS [Mn.rat N (x),Mn.eq (.pointer (some ⟨w.heap.size,0,none⟩)),Mn.eq (.int .i64 G.x0),Mn.eq (.pointer (some ⟨w.heap.size+1,0,none⟩)),Mn.eq (.int .i64 i),Mn.eq (.pointer (some ⟨w.heap.size,2,none⟩)),Mn.eq (.int .i64 G.st),Mn.eq (.int .i64 pi),Mn.eq (.int .i64 (G.x0+pi)),Mn.rat N ((G.x0+pi:Int):Rat),Mn.rat N (x - ((G.x0+pi:Int):Rat)),Mn.eq (.pointer (some ⟨w.heap.size,2,none⟩)),Mn.eq (.int .i64 G.st),Mn.rat N ((G.st:Int):Rat),Mn.rc N p,Mn.rc N p,Mn.rat N p,Mn.eq (.int .i64 0),Mn.any] [some 11,some 12,some 13,some 14,some 15,some 16,some 17,some 18,some 19,some 20,some 21,some 22,some 23,some 24,some 25,some 10,some 26,some 27,none] [18] [17] [true,true,true,true,true,true,true,true,true,true,true,true,true,true,true,true,true,true,false] 1 (by kernel_rfl) ?_ ?_ ?_
 ·show ∀ i,i < 19→_
  iterate 19 refine fs ?_ ?_
  ·exact fz
  all_goals intro hl hs
  all_goals first | exact absurd hl (by decide) | exact absurd hs (by decide) | skip
  all_goals clear hl hs
  all_goals refine stp rfl ?_
  all_goals intro ac wi eI hB hA K hK
  have o6:=oOf (hB 6 (by kernel_rfl)) rfl;clear hB hA;have cc0:=eI.cell p0;have cc1:=eI.cell p1;have cc2:=eI.cell p2;have cc3:=eI.cell p3
  ·go_simp;exact hK.out _ _ (Ext.refl _) (hRx.ext eI)
  have o4:=oOf (hB 4 (by kernel_rfl)) rfl
  rotate_left
  obtain⟨_,s12,rfl⟩:=hA 1 (by kernel_rfl) 12 rfl;have cc0:=eI.cell a0
  rotate_left
  have o5:=oOf (hB 5 (by kernel_rfl)) rfl
  rotate_left
  obtain⟨_,s14,rfl⟩:=hA 3 (by kernel_rfl) 14 rfl;have cc0:=eI.cell c0
  rotate_left
  have o4:=oOf (hB 4 (by kernel_rfl)) rfl
  rotate_left
  obtain⟨_,s16,rfl⟩:=hA 5 (by kernel_rfl) 16 rfl;have cc0:=eI.cell a2
  rotate_left
  obtain⟨_,s15,rfl⟩:=hA 4 (by kernel_rfl) 15 rfl;obtain⟨_,s17,rfl⟩:=hA 6 (by kernel_rfl) 17 rfl
  rotate_left
  obtain⟨_,s13,rfl⟩:=hA 2 (by kernel_rfl) 13 rfl;obtain⟨_,s18,rfl⟩:=hA 7 (by kernel_rfl) 18 rfl
  rotate_left
  obtain⟨_,s19,rfl⟩:=hA 8 (by kernel_rfl) 19 rfl;clear hB hA
  ·go_simp;refine (l49_whole (Nat.le_trans (by omega:N≤W.heap.size) eI.size) (G.x0+pi) (by omega) (by omega)).mono ?_;rintro e wj ⟨vj,rfl,hj,ej⟩;go_wp2_with fail;exact hK.out _ _ ej hj
  obtain⟨x11,s11,j11⟩:=hA 0 (by kernel_rfl) 11 rfl;replace j11:Mn.p (Mn.rat N (x)) x11 wi:=j11;obtain⟨x20,s20,j20⟩:=hA 9 (by kernel_rfl) 20 rfl;replace j20:Mn.p (Mn.rat N ((G.x0+pi:Int):Rat)) x20 wi:=j20;clear hB hA
  ·go_simp;refine (r2_sub j11 j20 HZX.out.1 (sz_int (by omega))).mono ?_;rintro e wj ⟨vj,rfl,hj,ej⟩;go_wp2_with fail;exact hK.out _ _ ej hj
  have o4:=oOf (hB 4 (by kernel_rfl)) rfl
  rotate_left
  obtain⟨_,s22,rfl⟩:=hA 11 (by kernel_rfl) 22 rfl;have cc0:=eI.cell a2
  rotate_left
  obtain⟨_,s23,rfl⟩:=hA 12 (by kernel_rfl) 23 rfl;clear hB hA
  ·go_simp;refine (l49_whole (Nat.le_trans (by omega:N≤W.heap.size) eI.size) G.st (by omega) (by omega)).mono ?_;rintro e wj ⟨vj,rfl,hj,ej⟩;go_wp2_with fail;exact hK.out _ _ ej hj
  obtain⟨x21,s21,j21⟩:=hA 10 (by kernel_rfl) 21 rfl;replace j21:Mn.p (Mn.rat N (x - ((G.x0+pi:Int):Rat))) x21 wi:=j21;obtain⟨x24,s24,j24⟩:=hA 13 (by kernel_rfl) 24 rfl;replace j24:Mn.p (Mn.rat N ((G.st:Int):Rat)) x24 wi:=j24;clear hB hA
  ·go_simp;refine (r2_divide j21 j24 HZX.out.2 HSS.out HST.out).mono ?_;rw [HP.out];rintro e wj ⟨vj,rfl,hj,ej⟩;go_wp2_with fail;exact hK.out _ _ ej ⟨vj,rfl,hj⟩
  obtain⟨x25,s25,j25⟩:=hA 14 (by kernel_rfl) 25 rfl;replace j25:Mn.p (Mn.rc N p) x25 wi:=j25;clear hB hA
  ·go_simp;exact hK.out _ _ (Ext.refl _) j25
  obtain⟨x10,s10,j10⟩:=hA 15 (by kernel_rfl) 10 rfl;replace j10:Mn.p (Mn.rc N p) x10 wi:=j10;clear hB hA
  ·obtain⟨vj,rfl,hj⟩:=j10;go_simp;exact hK.out _ _ (Ext.refl _) hj
  all_goals clear hB hA
  all_goals go_simp
  all_goals exact hK.out _ _ (Ext.refl _) rfl
 ·intro i hs;have hi':i=17:=by simpa using hs
  clear hs
  rcases hi' with rfl
  ·refine sft rfl (fun _ _ _ _ h=>h) ?_;intro ac wi eI hB hA;obtain⟨x10,s10,j10⟩:=hA 15 (by kernel_rfl) 10 rfl;replace j10:Mn.p (Mn.rc N p) x10 wi:=j10;clear hB hA;obtain⟨vj,rfl,hj⟩:=j10;refine⟨(.int .i64 0),.inl ⟨rfl,fun w9 _=>?_⟩,rfl⟩;go_simp
 intro vals wz eZ hJ;have J26:Mn.p (Mn.rat N p) (vals 16) wz:=hJ 16 (by decide) (by decide);clear hJ;simp only [pr,Nat.reduceAdd]
 generalize vals 16=z26 at J26 ⊢
 obtain⟨bz,Az,kz,cz,Az',kz',cz',rfl,hbz,gz1,gz2⟩:=RatV.parts J26;replace B0:=eZ.block B0;replace B1:=eZ.block B1;replace B3:=eZ.block B3;replace B4:=eZ.block B4;replace B5:=eZ.block B5;clear r0 r1 r2 r3 r4 r5 r6 r7 a0 a1 a2 c0 c1 p0 p1 p2 p3;obtain⟨r0,r1,r2,r3,r4,r5,r6,r7⟩:=cells4 B4;refine stepL_late (i:=18) rfl (by kernel_rfl) (by kernel_rfl) (fun K hK=>?_);go_simp;refine hK.out _ _ ?_;clear hK K;try simp only [nr]
 refine stepL_done (by kernel_rfl) ?_ _;obtain⟨w2,E2,F2,U2⟩:=ex4 B4 (.bool bz) (.slice Az kz cz) (.bool false) (.slice Az' kz' cz');rw [E2];have C2:=U2.chg (NoU.mk B4 (by decide));have hRp:RatV N w2 _ p:=RatV.mk hbz (gz1.chg C2 (by omega)) (gz2.chg C2 (by omega));replace B0:=U2.blk B0 (by omega);replace B1:=U2.blk B1 (by omega);replace B3:=U2.blk B3 (by omega);replace B5:=U2.blk B5 (by omega);replace hE:=U2.ext (hE.trans eZ) (by omega);have hN2:N≤w2.heap.size:=by have:=hE.size; omega
 clear r0 r1 r2 r3 r4 r5 r6 r7 E2 U2 C2 B4 B2 eZ gz1 gz2 hbz hRx;go_upto_region 2 with (fail);obtain⟨-,a1,a2,-,-,-⟩:=cells_g B0;obtain⟨-,c1,-,-,-,-⟩:=cells_g B1;obtain⟨p0,p1,p2,p3,-⟩:=cells4 B3;obtain⟨r0,r1,r2,r3,r4,r5,r6,r7⟩:=cells4 B5;have hRy:=HY.out.ext hE;refine regS [Mn.rat N (y),Mn.eq (.pointer (some ⟨w.heap.size,1,none⟩)),Mn.eq (.int .i64 G.y0),Mn.eq (.pointer (some ⟨w.heap.size+1,1,none⟩)),Mn.eq (.int .i64 j),Mn.eq (.pointer (some ⟨w.heap.size,2,none⟩)),Mn.eq (.int .i64 G.st),Mn.eq (.int .i64 pj),Mn.eq (.int .i64 (G.y0+pj)),Mn.rat N ((G.y0+pj:Int):Rat),Mn.rat N (y - ((G.y0+pj:Int):Rat)),Mn.eq (.pointer (some ⟨w.heap.size,2,none⟩)),Mn.eq (.int .i64 G.st),Mn.rat N ((G.st:Int):Rat),Mn.rc N q,Mn.rc N q,Mn.rat N q,Mn.eq (.int .i64 0),Mn.any] [some 29,some 30,some 31,some 32,some 33,some 34,some 35,some 36,some 37,some 38,some 39,some 40,some 41,some 42,some 43,some 28,some 44,some 45,none] [18] [17] [true,true,true,true,true,true,true,true,true,true,true,true,true,true,true,true,true,true,false] 1 (by kernel_rfl) ?_ ?_ ?_
 ·show ∀ i,i < 19→_
  iterate 19 refine fs ?_ ?_
  ·exact fz
  all_goals intro hl hs
  all_goals first | exact absurd hl (by decide) | exact absurd hs (by decide) | skip
  all_goals clear hl hs
  all_goals refine stp rfl ?_
  all_goals intro ac wi eI hB hA K hK
  have o7:=oOf (hB 7 (by kernel_rfl)) rfl;clear hB hA;have cc0:=eI.cell p0;have cc1:=eI.cell p1;have cc2:=eI.cell p2;have cc3:=eI.cell p3
  ·go_simp;exact hK.out _ _ (Ext.refl _) (hRy.ext eI)
  have o4:=oOf (hB 4 (by kernel_rfl)) rfl
  rotate_left
  obtain⟨_,s30,rfl⟩:=hA 1 (by kernel_rfl) 30 rfl;have cc0:=eI.cell a1
  rotate_left
  have o5:=oOf (hB 5 (by kernel_rfl)) rfl
  rotate_left
  obtain⟨_,s32,rfl⟩:=hA 3 (by kernel_rfl) 32 rfl;have cc0:=eI.cell c1
  rotate_left
  have o4:=oOf (hB 4 (by kernel_rfl)) rfl
  rotate_left
  obtain⟨_,s34,rfl⟩:=hA 5 (by kernel_rfl) 34 rfl;have cc0:=eI.cell a2
  rotate_left
  obtain⟨_,s33,rfl⟩:=hA 4 (by kernel_rfl) 33 rfl;obtain⟨_,s35,rfl⟩:=hA 6 (by kernel_rfl) 35 rfl
  rotate_left
  obtain⟨_,s31,rfl⟩:=hA 2 (by kernel_rfl) 31 rfl;obtain⟨_,s36,rfl⟩:=hA 7 (by kernel_rfl) 36 rfl
  rotate_left
  obtain⟨_,s37,rfl⟩:=hA 8 (by kernel_rfl) 37 rfl;clear hB hA
  ·go_simp;refine (l49_whole (Nat.le_trans hN2 eI.size) (G.y0+pj) (by omega) (by omega)).mono ?_;rintro e wj ⟨vj,rfl,hj,ej⟩;go_wp2_with fail;exact hK.out _ _ ej hj
  obtain⟨x29,s29,j29⟩:=hA 0 (by kernel_rfl) 29 rfl;replace j29:Mn.p (Mn.rat N (y)) x29 wi:=j29;obtain⟨x38,s38,j38⟩:=hA 9 (by kernel_rfl) 38 rfl;replace j38:Mn.p (Mn.rat N ((G.y0+pj:Int):Rat)) x38 wi:=j38;clear hB hA
  ·go_simp;refine (r2_sub j29 j38 HZY.out.1 (sz_int (by omega))).mono ?_;rintro e wj ⟨vj,rfl,hj,ej⟩;go_wp2_with fail;exact hK.out _ _ ej hj
  have o4:=oOf (hB 4 (by kernel_rfl)) rfl
  rotate_left
  obtain⟨_,s40,rfl⟩:=hA 11 (by kernel_rfl) 40 rfl;have cc0:=eI.cell a2
  rotate_left
  obtain⟨_,s41,rfl⟩:=hA 12 (by kernel_rfl) 41 rfl;clear hB hA
  ·go_simp;refine (l49_whole (Nat.le_trans hN2 eI.size) G.st (by omega) (by omega)).mono ?_;rintro e wj ⟨vj,rfl,hj,ej⟩;go_wp2_with fail;exact hK.out _ _ ej hj
  obtain⟨x39,s39,j39⟩:=hA 10 (by kernel_rfl) 39 rfl;replace j39:Mn.p (Mn.rat N (y - ((G.y0+pj:Int):Rat))) x39 wi:=j39;obtain⟨x42,s42,j42⟩:=hA 13 (by kernel_rfl) 42 rfl;replace j42:Mn.p (Mn.rat N ((G.st:Int):Rat)) x42 wi:=j42;clear hB hA
  ·go_simp;refine (r2_divide j39 j42 HZY.out.2 HSS.out HST.out).mono ?_;rw [HQ.out];rintro e wj ⟨vj,rfl,hj,ej⟩;go_wp2_with fail;exact hK.out _ _ ej ⟨vj,rfl,hj⟩
  obtain⟨x43,s43,j43⟩:=hA 14 (by kernel_rfl) 43 rfl;replace j43:Mn.p (Mn.rc N q) x43 wi:=j43;clear hB hA
  ·go_simp;exact hK.out _ _ (Ext.refl _) j43
  obtain⟨x28,s28,j28⟩:=hA 15 (by kernel_rfl) 28 rfl;replace j28:Mn.p (Mn.rc N q) x28 wi:=j28;clear hB hA
  ·obtain⟨vj,rfl,hj⟩:=j28;go_simp;exact hK.out _ _ (Ext.refl _) hj
  all_goals clear hB hA
  all_goals go_simp
  all_goals exact hK.out _ _ (Ext.refl _) rfl
 ·intro i hs;have hi':i=17:=by simpa using hs
  clear hs
  rcases hi' with rfl
  ·refine sft rfl (fun _ _ _ _ h=>h) ?_;intro ac wi eI hB hA;obtain⟨x28,s28,j28⟩:=hA 15 (by kernel_rfl) 28 rfl;replace j28:Mn.p (Mn.rc N q) x28 wi:=j28;clear hB hA;obtain⟨vj,rfl,hj⟩:=j28;refine⟨(.int .i64 0),.inl ⟨rfl,fun w9 _=>?_⟩,rfl⟩;go_simp
 intro vals wz eZ hJ;have J36:vals 7=_:=hJ 7 (by decide) (by decide);have J28:Mn.p (Mn.rc N q) (vals 15) wz:=hJ 15 (by decide) (by decide);have J44:Mn.p (Mn.rat N q) (vals 16) wz:=hJ 16 (by decide) (by decide);clear hJ;simp only [pr,Nat.reduceAdd,J36];clear J36
 generalize vals 15=z28 at J28 ⊢
 generalize vals 16=z44 at J44 ⊢
 obtain⟨by',Ay,ky,cy,Ay',ky',cy',rfl,hby,gy1,gy2⟩:=RatV.parts J44;replace B5:=eZ.block B5;replace F2:=eZ.block F2;replace hRp:=hRp.ext eZ;clear r0 r1 r2 r3 r4 r5 r6 r7 a1 a2 c1 p0 p1 p2 p3;obtain⟨r0,r1,r2,r3,r4,r5,r6,r7⟩:=cells4 B5;refine stepL_late (i:=18) rfl (by kernel_rfl) (by kernel_rfl) (fun K hK=>?_);go_simp;refine hK.out _ _ ?_;clear hK K;try simp only [nr]
 refine stepL_done (by kernel_rfl) ?_ _;obtain⟨w3,E3,F3,U3⟩:=ex4 B5 (.bool by') (.slice Ay ky cy) (.bool false) (.slice Ay' ky' cy');rw [E3];have C3:=U3.chg (NoU.mk B5 (by decide));have hRq:RatV N w3 _ q:=RatV.mk hby (gy1.chg C3 (by omega)) (gy2.chg C3 (by omega));replace hRp:=hRp.chg C3 (by omega);replace F2:=U3.blk F2 (by omega);replace hE:=U3.ext (hE.trans eZ) (by omega);clear r0 r1 r2 r3 r4 r5 r6 r7 E3 U3 C3 B5 B0 B1 B3 eZ gy1 gy2 hby hRy;go_upto_region 3 with (fail);obtain⟨r0,r1,r2,r3,r4,r5,r6,r7⟩:=cells4 F2;obtain⟨u0,u1,u2,u3,u4,u5,u6,u7⟩:=cells4 F3;have eC:=(Ext.refl w3).drew;refine region_late (fun w'=>w'.cell? ⟨w.heap.size+1+1+1+1,0,none⟩=some (.bool bz)∧w'.cell? ⟨w.heap.size+1+1+1+1,1,none⟩=some (.slice Az kz cz)∧w'.cell? ⟨w.heap.size+1+1+1+1,2,none⟩=some (.bool false)∧w'.cell? ⟨w.heap.size+1+1+1+1,3,none⟩=some (.slice Az' kz' cz')∧w'.cell? ⟨w.heap.size+1+1+1+1+1,0,none⟩=some (.bool by')∧w'.cell? ⟨w.heap.size+1+1+1+1+1,1,none⟩=some (.slice Ay ky cy)∧w'.cell? ⟨w.heap.size+1+1+1+1+1,2,none⟩=some (.bool false)∧w'.cell? ⟨w.heap.size+1+1+1+1+1,3,none⟩=some (.slice Ay' ky' cy')) [] (by kernel_rfl) (by exact⟨eC.cell r0,eC.cell r1,eC.cell r2,eC.cell r3,eC.cell u0,eC.cell u1,eC.cell u2,eC.cell u3⟩) (fun hHeld=>?_);refine sT 0 (h:=?_);try simp only [nr]
 refine sT 1 (h:=?_);try simp only [nr]
 refine stepL_only (i:=2) rfl (by kernel_rfl) (fun K hK=>?_);go_simp;rw [same4 F2];clear hHeld;refine hK.out _ _ (by exact⟨eC.cell r0,eC.cell r1,eC.cell r2,eC.cell r3,eC.cell u0,eC.cell u1,eC.cell u2,eC.cell u3⟩) fun hHeld=>?_
 clear hK K;try simp only [nr]
 refine stepL_only (i:=3) rfl (by kernel_rfl) (fun K hK=>?_);go_simp;rw [same4 F3];clear hHeld;refine hK.out _ _ (by exact⟨eC.cell r0,eC.cell r1,eC.cell r2,eC.cell r3,eC.cell u0,eC.cell u1,eC.cell u2,eC.cell u3⟩) fun hHeld=>?_
 clear hK K;try simp only [nr]
 refine stepL_done (by kernel_rfl) ?_ _;clear hHeld;have hE9:Ext w w3.drew:=hE.drew;have hP9:RatV N w3.drew _ p:=hRp;have hQ9:RatV N w3.drew _ q:=hRq;go_wp2;refine bodyPost_ret (v:=.tuple #[.agg #[.bool bz,.slice Az kz cz,.bool false,.slice Az' kz' cz'],.agg #[.bool by',.slice Ay ky cy,.bool false,.slice Ay' ky' cy']]) ?_ rfl ⟨_,_,rfl,hP9,hQ9,hE9⟩;simp [results,Tryz.results105,r0,r1,r2,r3,u0,u1,u2,u3,go_sem]
def trM (l:Bool) (p q:Rat) (k:Nat):Rat :=
 if k=0 then (if l then 1 - p else p) else if k=1 then (if l then q else 1 - q) else (if l then p - q else q - p)
theorem trM_ht {K:Nat} {l:Bool} {p q:Rat} (hp:Ht K p) (hq:Ht K q) (k:Nat):Ht (2*K+2) (trM l p q k):=by
 have h1:=(Ht.one.sub hp).mono (m:=2*K+2) (by omega);have h2:=(Ht.one.sub hq).mono (m:=2*K+2) (by omega);have h3:=(hp.sub hq).mono (m:=2*K+2) (by omega);have h4:=(hq.sub hp).mono (m:=2*K+2) (by omega);have h5:=hp.mono (m:=2*K+2) (by omega);have h6:=hq.mono (m:=2*K+2) (by omega);unfold trM
 split
 ·split <;> assumption
 ·split
  ·split <;> assumption
  ·split <;> assumption
def Mn.pt (N:Nat) (p:Nat→Rat):Mn:=⟨fun v w=>∃ cs:Array Value,v=.agg cs∧cs.size=12∧cs.toList.all (·.oneCell')=true∧PtV N w cs 0 p,fun e h=>by
 obtain⟨cs,h0,h1,h2,h3⟩:=h
 exact⟨cs,h0,h1,h2,h3.ext e⟩⟩
theorem built_pt (x0 x1 x2 x3 y0 y1 y2 y3 z0 z1 z2 z3:Value):Tryz.prog.built 43 [(0,.agg #[x0,x1,x2,x3]),(1,.agg #[y0,y1,y2,y3]),(2,.agg #[z0,z1,z2,z3])]=some #[x0,x1,x2,x3,y0,y1,y2,y3,z0,z1,z2,z3]:=by kernel_rfl
theorem wp_build_eq {P:Program} {o:Oper} {a:Act} {w:World} {K:Act→World→Prop} {Q:Exit→Act→World→Prop} (t:TypeId) (parts:Array (Nat×Operand)) (ho:o.op=.build t parts) {l:List (Nat×Value)} (hl:(parts.map fun (i,x)=>(i,a.eval x)).toList=l) {cells:Array Value} (hb:P.built t l=some cells)
  (h:K (a.put o.dst (.agg cells)) w):o.wp P a w K Q:=by
 refine wp_build t parts ho (by rw [hl,hb]; rfl) ?_;rw [hl,hb];exact h
theorem wp_store_blk2 {o:Oper} {a:Act} {w:World} {K:Act→World→Prop} {Q:Exit→Act→World→Prop} (ty:TypeId) (x y:Operand) (ho:o.op=.store ty x y) {g:Nat} {cs old:Array Value} {t:TypeId} (hx:a.eval x=.pointer (some ⟨g,0,none⟩)) (hy:a.eval y=.agg cs)
  (hg:w.heap[g]?=some (.cells old t (0,0))) {sz:Nat} (hi:(Tryz.prog.info? ty).map (·.size)=some sz) (hsz:cs.size=sz) (hold:old.size=cs.size) (h1:cs.toList.all (·.oneCell')=true)
  (h:∀ w',w'.heap[g]?=some (.cells cs t (0,0))→Upd g w w'→K (a.put o.dst undef) w'):o.wp Tryz.prog a w K Q :=
 wp_store_row ty x y ho g _ hx hy t _ hg (by rw [hsz]; exact hi) hold (by rw [←Array.all_toList]; exact h1) (h _ (setRow_heap w g old cs t (0,0) hg) ⟨rfl,rfl,rfl,by simp [World.setRow],fun k hk=>setRow_other w g k cs hk⟩)
theorem trM_pt {N:Nat} {w:World} {l:Bool} {p q:Rat} {x0 x1 x2 x3 y0 y1 y2 y3 z0 z1 z2 z3:Value} (h0:RatV N w (.agg #[x0,x1,x2,x3]) (trM l p q 0)) (h1:RatV N w (.agg #[y0,y1,y2,y3]) (trM l p q 1)) (h2:RatV N w (.agg #[z0,z1,z2,z3]) (trM l p q 2)):PtV N w #[x0,x1,x2,x3,y0,y1,y2,y3,z0,z1,z2,z3] 0 (trM l p q):=ptv_lit h0 h1 h2
set_option maxRecDepth 100000 in
theorem l49_margins {N lo hi:Nat} {w:World} {vg vx vy:Value} {G:Grd} {i j z0 z1 z2:Int} {l:Bool} {x y:Rat} {K:Nat} (h:GrdV N lo hi w vg G) (hG:GOk G) (ht:TOk G i j z0 z1 z2) (hx:RatV N w vx x) (hy:RatV N w vy y) (hkx:Ht K x) (hky:Ht K y) (hK:K≤1000000) :
  Calls Tryz.prog 53 #[vg,triV i j l z0 z1 z2,vx,vy] w (RetPt N w (trM l (sx G x - (i:Rat)) (sy G y - (j:Rat)))):=by
 have hN:=hx.le;have HG:=Lib.hid h;obtain⟨A,c,rfl,-,-,-⟩:=h.parts;obtain⟨m1,X1,i1,d1,X2,i2,d2,rfl,hm1,gx1,gx2⟩:=hx.parts;obtain⟨m2,Y1,i3,d3,Y2,i4,d4,rfl,hm2,gy1,gy2⟩:=hy.parts;have HX:=Lib.hid hx;have HY:=Lib.hid hy;have HC:Hid (∀ (w':World),Ext w w'→Calls Tryz.prog 105 #[_,triV i j l z0 z1 z2,_,_] w' (RetLoc N w' (sx G x - (i:Rat)) (sy G y - (j:Rat)))):=fun w' e=>l49_local (l:=l) (h.ext e) hG ht (hx.ext e) (hy.ext e) hkx hky hK
 have hpk:Ht (K+48) (sx G x - (i:Rat)):=((sx_ht hG hkx).sub (ht_int (m:=8) (by have:=ht.i0; have:=ht.i1; omega) (by omega))).mono (by omega);have hqk:Ht (K+48) (sy G y - (j:Rat)):=((sy_ht hG hky).sub (ht_int (m:=8) (by have:=ht.j0; have:=ht.j1; omega) (by omega))).mono (by omega);obtain⟨p,hp⟩:=hid_eq (sx G x - (i:Rat));obtain⟨q,hq⟩:=hid_eq (sy G y - (j:Rat));rw [←hp.out,←hq.out] at HC ⊢;rw [←hp.out] at hpk;rw [←hq.out] at hqk;have HSP:Hid (Sz p):=hpk.sz (by omega);have HSQ:Hid (Sz q):=hqk.sz (by omega);have HS1:Hid (Sz ((1:Int):Rat)):=sz_int (by decide);unfold triV at HC ⊢;clear h hG ht hx hy hkx hky gx1 gx2 gy1 gy2 hpk hqk;go_enter Tryz.func53,Tryz.ntmps53;go_wp2_with (go_at_call 105; refine Hid.out ?_);refine boxesC5 ?_;intro W hE hsz B0 B1 B2 B3 B4;refine (HC.out W hE).mono ?_;rintro e w1 ⟨u,v,rfl,hu,hv,e1⟩;obtain⟨bu,Au,ku,cu,A'u,k'u,c'u,rfl,hbu,gu1,gu2⟩:=hu.parts;obtain⟨bv,Av,kv,cv,A'v,k'v,c'v,rfl,hbv,gv1,gv2⟩:=hv.parts;replace B1:=e1.block B1;replace B4:=e1.block B4;replace hE:=hE.trans e1;go_upto_region 2 with (fail);refine boxes2 ?_;intro w2 e2 hsz2 BU BV;obtain⟨gU,hgU⟩:∃ gU,gU=w1.heap.size:=⟨_,rfl⟩
 rw [←hgU] at BU BV ⊢;have hRu:=hu.ext e2;have hRv:=hv.ext e2;replace B1:=e2.block B1;replace B4:=e2.block B4;replace hE:=hE.trans e2;clear hgU e1 e2 hu hv gu1 gu2 gv1 gv2 B0 B2 B3 hsz2;have hN2:N≤w2.heap.size:=by have:=hE.size; omega
 have hg4:w.heap.size+1+1+1+1 < w2.heap.size:=blk_lt B4;obtain⟨-,-,c2,-,-,-⟩:=cells_g B1;cases l with
 | true =>
  go_upto_region 3 with (fail);clear c2;obtain⟨x0,x1,x2,x3,-⟩:=cells4 BU;obtain⟨y0,y1,y2,y3,-⟩:=cells4 BV;refine regI [Mn.rat N ((1:Int):Rat),Mn.rat N (p),Mn.rat N (1 - p),Mn.rat N (q),Mn.rat N (p),Mn.rat N (q),Mn.rat N (p - q),Mn.pt N (trM true p q),Mn.any] [some 21,some 22,some 23,some 24,some 25,some 26,some 27,some 28,none] [8] [true,true,true,true,true,true,true,true,false] 1 (by kernel_rfl) ?_ ?_
  ·show ∀ i,i < 9→_
   iterate 9 refine fs ?_ ?_
   ·exact fz
   all_goals intro hl
   all_goals first | exact absurd hl (by decide) | skip
   all_goals clear hl
   all_goals refine stp rfl ?_
   all_goals intro ac wi eI hB hA K hK
   clear hB hA
   ·go_simp;refine (l49_whole (Nat.le_trans hN2 eI.size) 1 (by omega) (by omega)).mono ?_;rintro e wj ⟨vj,rfl,hj,ej⟩;go_wp2_with fail;exact hK.out _ _ ej hj
   have o9:=oOf (hB 9 (by kernel_rfl)) rfl;clear hB hA;have cc0:=eI.cell x0;have cc1:=eI.cell x1;have cc2:=eI.cell x2;have cc3:=eI.cell x3
   ·go_simp;exact hK.out _ _ (Ext.refl _) (hRu.ext eI)
   obtain⟨x21,s21,j21⟩:=hA 0 (by kernel_rfl) 21 rfl;replace j21:Mn.p (Mn.rat N ((1:Int):Rat)) x21 wi:=j21;obtain⟨x22,s22,j22⟩:=hA 1 (by kernel_rfl) 22 rfl;replace j22:Mn.p (Mn.rat N (p)) x22 wi:=j22;clear hB hA
   ·go_simp;refine (r2_sub j21 j22 HS1.out HSP.out).mono ?_;rintro e wj ⟨vj,rfl,hj,ej⟩;go_wp2_with fail;exact hK.out _ _ ej hj
   have o10:=oOf (hB 10 (by kernel_rfl)) rfl;clear hB hA;have cc0:=eI.cell y0;have cc1:=eI.cell y1;have cc2:=eI.cell y2;have cc3:=eI.cell y3
   ·go_simp;exact hK.out _ _ (Ext.refl _) (hRv.ext eI)
   have o9:=oOf (hB 9 (by kernel_rfl)) rfl;clear hB hA;have cc0:=eI.cell x0;have cc1:=eI.cell x1;have cc2:=eI.cell x2;have cc3:=eI.cell x3
   ·go_simp;exact hK.out _ _ (Ext.refl _) (hRu.ext eI)
   have o10:=oOf (hB 10 (by kernel_rfl)) rfl;clear hB hA;have cc0:=eI.cell y0;have cc1:=eI.cell y1;have cc2:=eI.cell y2;have cc3:=eI.cell y3
   ·go_simp;exact hK.out _ _ (Ext.refl _) (hRv.ext eI)
   obtain⟨x25,s25,j25⟩:=hA 4 (by kernel_rfl) 25 rfl;replace j25:Mn.p (Mn.rat N (p)) x25 wi:=j25;obtain⟨x26,s26,j26⟩:=hA 5 (by kernel_rfl) 26 rfl;replace j26:Mn.p (Mn.rat N (q)) x26 wi:=j26;clear hB hA
   ·go_simp;refine (r2_sub j25 j26 HSP.out HSQ.out).mono ?_;rintro e wj ⟨vj,rfl,hj,ej⟩;go_wp2_with fail;exact hK.out _ _ ej hj
   obtain⟨x23,s23,j23⟩:=hA 2 (by kernel_rfl) 23 rfl;replace j23:Mn.p (Mn.rat N (1 - p)) x23 wi:=j23;obtain⟨x24,s24,j24⟩:=hA 3 (by kernel_rfl) 24 rfl;replace j24:Mn.p (Mn.rat N (q)) x24 wi:=j24;obtain⟨x27,s27,j27⟩:=hA 6 (by kernel_rfl) 27 rfl;replace j27:Mn.p (Mn.rat N (p - q)) x27 wi:=j27;clear hB hA
   ·obtain⟨ba,Aa,ka,ca,A'a,k'a,c'a,rfl,-,-,-⟩:=RatV.parts j23;obtain⟨bb,Ab,kb,cb,A'b,k'b,c'b,rfl,-,-,-⟩:=RatV.parts j24;obtain⟨bd,Ad,kd,cd,A'd,k'd,c'd,rfl,-,-,-⟩:=RatV.parts j27;rw [if_pos (by rfl)];refine wp_build_eq 43 _ rfl (l:=[(0,.agg #[.bool ba,.slice Aa ka ca,.bool false,.slice A'a k'a c'a]),(1,.agg #[.bool bb,.slice Ab kb cb,.bool false,.slice A'b k'b c'b]),(2,.agg #[.bool bd,.slice Ad kd cd,.bool false,.slice A'd k'd c'd])]) (by simp only [List.map_toArray,List.map_cons,List.map_nil]; simp [Act.eval,s23,s24,s27]) (built_pt _ _ _ _ _ _ _ _ _ _ _ _) ?_;exact hK.out _ _ (Ext.refl _) ⟨_,rfl,rfl,rfl,trM_pt (l:=true) j23 j24 j27⟩
  intro vals wz eZ hJ;have J26:Mn.p (Mn.rat N (q)) (vals 5) wz:=hJ 5 (by decide) (by decide);have J28:Mn.p (Mn.pt N (trM true p q)) (vals 7) wz:=hJ 7 (by decide) (by decide);clear hJ;simp only [pr,Nat.reduceAdd]
  generalize vals 5=z26 at J26 ⊢
  generalize vals 7=z28 at J28 ⊢
  obtain⟨cs,rfl,k1,k2,k3⟩:=J28;replace B4:=eZ.block B4;refine stepL_late (i:=8) rfl (by kernel_rfl) (by kernel_rfl) (fun K hK=>?_);rw [if_pos (by rfl)];refine wp_store_blk2 43 _ _ rfl (by rfl) (by rfl) B4 info_pt k1 (Eq.trans (by rfl:Array.size _=12) k1.symm) k2 ?_;intro w3 D3 U3;refine hK.out _ _ ?_;clear hK K;try simp only [nr]
  refine stepL_done (by kernel_rfl) ?_ _;have C3:=U3.chg (NoU.mk B4 (by decide));have HF:Hid (RetPt N w (trM true p q) (.returned (.agg cs)) w3):=⟨cs,rfl,k1,k2,fun i hi=>(k3 i hi).chg C3 (by omega),U3.ext (hE.trans eZ) (by omega)⟩
  have hz:(Tryz.prog.info? 43).map (·.size)=some cs.size:=by rw [k1]; exact info_pt
  clear k1 k2 k3 U3 C3 B4 x0 x1 x2 x3 y0 y1 y2 y3;go_wp2;exact bodyPost_ret (results_cell_row rfl _ _ _ _ _ _ _ rfl D3 Tryz.underlying43 rfl hz) rfl HF.out
 | false =>
  go_upto_region 4 with (fail);clear c2;obtain⟨x0,x1,x2,x3,-⟩:=cells4 BU;obtain⟨y0,y1,y2,y3,-⟩:=cells4 BV;refine regI [Mn.rat N (p),Mn.rat N ((1:Int):Rat),Mn.rat N (q),Mn.rat N (1 - q),Mn.rat N (q),Mn.rat N (p),Mn.rat N (q - p),Mn.pt N (trM false p q),Mn.any] [some 29,some 30,some 31,some 32,some 33,some 34,some 35,some 36,none] [8] [true,true,true,true,true,true,true,true,false] 1 (by kernel_rfl) ?_ ?_
  ·show ∀ i,i < 9→_
   iterate 9 refine fs ?_ ?_
   ·exact fz
   all_goals intro hl
   all_goals first | exact absurd hl (by decide) | skip
   all_goals clear hl
   all_goals refine stp rfl ?_
   all_goals intro ac wi eI hB hA K hK
   have o9:=oOf (hB 9 (by kernel_rfl)) rfl;clear hB hA;have cc0:=eI.cell x0;have cc1:=eI.cell x1;have cc2:=eI.cell x2;have cc3:=eI.cell x3
   ·go_simp;exact hK.out _ _ (Ext.refl _) (hRu.ext eI)
   clear hB hA
   ·go_simp;refine (l49_whole (Nat.le_trans hN2 eI.size) 1 (by omega) (by omega)).mono ?_;rintro e wj ⟨vj,rfl,hj,ej⟩;go_wp2_with fail;exact hK.out _ _ ej hj
   have o10:=oOf (hB 10 (by kernel_rfl)) rfl;clear hB hA;have cc0:=eI.cell y0;have cc1:=eI.cell y1;have cc2:=eI.cell y2;have cc3:=eI.cell y3
   ·go_simp;exact hK.out _ _ (Ext.refl _) (hRv.ext eI)
   obtain⟨x30,s30,j30⟩:=hA 1 (by kernel_rfl) 30 rfl;replace j30:Mn.p (Mn.rat N ((1:Int):Rat)) x30 wi:=j30;obtain⟨x31,s31,j31⟩:=hA 2 (by kernel_rfl) 31 rfl;replace j31:Mn.p (Mn.rat N (q)) x31 wi:=j31;clear hB hA
   ·go_simp;refine (r2_sub j30 j31 HS1.out HSQ.out).mono ?_;rintro e wj ⟨vj,rfl,hj,ej⟩;go_wp2_with fail;exact hK.out _ _ ej hj
   have o10:=oOf (hB 10 (by kernel_rfl)) rfl;clear hB hA;have cc0:=eI.cell y0;have cc1:=eI.cell y1;have cc2:=eI.cell y2;have cc3:=eI.cell y3
   ·go_simp;exact hK.out _ _ (Ext.refl _) (hRv.ext eI)
   have o9:=oOf (hB 9 (by kernel_rfl)) rfl;clear hB hA;have cc0:=eI.cell x0;have cc1:=eI.cell x1;have cc2:=eI.cell x2;have cc3:=eI.cell x3
   ·go_simp;exact hK.out _ _ (Ext.refl _) (hRu.ext eI)
   obtain⟨x33,s33,j33⟩:=hA 4 (by kernel_rfl) 33 rfl;replace j33:Mn.p (Mn.rat N (q)) x33 wi:=j33;obtain⟨x34,s34,j34⟩:=hA 5 (by kernel_rfl) 34 rfl;replace j34:Mn.p (Mn.rat N (p)) x34 wi:=j34;clear hB hA
   ·go_simp;refine (r2_sub j33 j34 HSQ.out HSP.out).mono ?_;rintro e wj ⟨vj,rfl,hj,ej⟩;go_wp2_with fail;exact hK.out _ _ ej hj
   obtain⟨x29,s29,j29⟩:=hA 0 (by kernel_rfl) 29 rfl;replace j29:Mn.p (Mn.rat N (p)) x29 wi:=j29;obtain⟨x32,s32,j32⟩:=hA 3 (by kernel_rfl) 32 rfl;replace j32:Mn.p (Mn.rat N (1 - q)) x32 wi:=j32;obtain⟨x35,s35,j35⟩:=hA 6 (by kernel_rfl) 35 rfl;replace j35:Mn.p (Mn.rat N (q - p)) x35 wi:=j35;clear hB hA
   ·obtain⟨ba,Aa,ka,ca,A'a,k'a,c'a,rfl,-,-,-⟩:=RatV.parts j29;obtain⟨bb,Ab,kb,cb,A'b,k'b,c'b,rfl,-,-,-⟩:=RatV.parts j32;obtain⟨bd,Ad,kd,cd,A'd,k'd,c'd,rfl,-,-,-⟩:=RatV.parts j35;rw [if_pos (by rfl)];refine wp_build_eq 43 _ rfl (l:=[(0,.agg #[.bool ba,.slice Aa ka ca,.bool false,.slice A'a k'a c'a]),(1,.agg #[.bool bb,.slice Ab kb cb,.bool false,.slice A'b k'b c'b]),(2,.agg #[.bool bd,.slice Ad kd cd,.bool false,.slice A'd k'd c'd])]) (by simp only [List.map_toArray,List.map_cons,List.map_nil]; simp [Act.eval,s29,s32,s35]) (built_pt _ _ _ _ _ _ _ _ _ _ _ _) ?_;exact hK.out _ _ (Ext.refl _) ⟨_,rfl,rfl,rfl,trM_pt (l:=false) j29 j32 j35⟩
  intro vals wz eZ hJ;have J36:Mn.p (Mn.pt N (trM false p q)) (vals 7) wz:=hJ 7 (by decide) (by decide);clear hJ;simp only [pr,Nat.reduceAdd]
  generalize vals 7=z36 at J36 ⊢
  obtain⟨cs,rfl,k1,k2,k3⟩:=J36;replace B4:=eZ.block B4;refine stepL_late (i:=8) rfl (by kernel_rfl) (by kernel_rfl) (fun K hK=>?_);rw [if_pos (by rfl)];refine wp_store_blk2 43 _ _ rfl (by rfl) (by rfl) B4 info_pt k1 (Eq.trans (by rfl:Array.size _=12) k1.symm) k2 ?_;intro w3 D3 U3;refine hK.out _ _ ?_;clear hK K;try simp only [nr]
  refine stepL_done (by kernel_rfl) ?_ _;have C3:=U3.chg (NoU.mk B4 (by decide));have HF:Hid (RetPt N w (trM false p q) (.returned (.agg cs)) w3):=⟨cs,rfl,k1,k2,fun i hi=>(k3 i hi).chg C3 (by omega),U3.ext (hE.trans eZ) (by omega)⟩
  have hz:(Tryz.prog.info? 43).map (·.size)=some cs.size:=by rw [k1]; exact info_pt
  clear k1 k2 k3 U3 C3 B4 x0 x1 x2 x3 y0 y1 y2 y3;go_wp2;exact bodyPost_ret (results_cell_row rfl _ _ _ _ _ _ _ rfl D3 Tryz.underlying43 rfl hz) rfl HF.out
def pkP (l:Bool) (p q:Rat):Rat:=if l then p else q
def pkQ (l:Bool) (p q:Rat):Rat:=if l then q else p
def plV (l:Bool) (p q:Rat) (z0 z1 z2:Int):Rat:=((z0:Int):Rat)+pkP l p q*((z1 - z0:Int):Rat)+pkQ l p q*((z2 - z1:Int):Rat)
set_option maxRecDepth 100000 in
theorem l49_plane {N lo hi:Nat} {w:World} {vg vx vy:Value} {G:Grd} {i j z0 z1 z2:Int} {l:Bool} {x y:Rat} {K:Nat} (h:GrdV N lo hi w vg G) (hG:GOk G) (ht:TOk G i j z0 z1 z2) (hx:RatV N w vx x) (hy:RatV N w vy y) (hkx:Ht K x) (hky:Ht K y) (hK:K≤1000000) :
  Calls Tryz.prog 55 #[vg,triV i j l z0 z1 z2,vx,vy] w (RetR N w (plV l (sx G x - (i:Rat)) (sy G y - (j:Rat)) z0 z1 z2)):=by
 have hN:=hx.le;obtain⟨A,c,rfl,-,-,-⟩:=h.parts;obtain⟨m1,X1,i1,d1,X2,i2,d2,rfl,hm1,gx1,gx2⟩:=hx.parts;obtain⟨m2,Y1,i3,d3,Y2,i4,d4,rfl,hm2,gy1,gy2⟩:=hy.parts;have HC:Hid (∀ (w':World),Ext w w'→Calls Tryz.prog 105 #[_,triV i j l z0 z1 z2,_,_] w' (RetLoc N w' (sx G x - (i:Rat)) (sy G y - (j:Rat)))):=fun w' e=>l49_local (l:=l) (h.ext e) hG ht (hx.ext e) (hy.ext e) hkx hky hK
 have hpk:Ht (K+48) (sx G x - (i:Rat)):=((sx_ht hG hkx).sub (ht_int (m:=8) (by have:=ht.i0; have:=ht.i1; omega) (by omega))).mono (by omega);have hqk:Ht (K+48) (sy G y - (j:Rat)):=((sy_ht hG hky).sub (ht_int (m:=8) (by have:=ht.j0; have:=ht.j1; omega) (by omega))).mono (by omega);obtain⟨p,hp⟩:=hid_eq (sx G x - (i:Rat));obtain⟨q,hq⟩:=hid_eq (sy G y - (j:Rat));rw [←hp.out,←hq.out] at HC ⊢;rw [←hp.out] at hpk;rw [←hq.out] at hqk;have hPk:Ht (K+48) (pkP l p q):=by unfold pkP; split <;> assumption
 have hQk:Ht (K+48) (pkQ l p q):=by unfold pkQ; split <;> assumption
 obtain⟨r,hr⟩:=hid_eq (plV l p q z0 z1 z2);rw [←hr.out];obtain⟨P,hP⟩:=hid_eq (pkP l p q);obtain⟨Q,hQ⟩:=hid_eq (pkQ l p q);rw [←hP.out] at hPk;rw [←hQ.out] at hQk;have a0:=ht.a0;have a1:=ht.a1;have b0:=ht.b0;have b1:=ht.b1;have c0:=ht.c0;have c1:=ht.c1;have HR:Hid (((z0:Int):Rat)+P*((z1 - z0:Int):Rat)+Q*((z2 - z1:Int):Rat)=r):=by rw [Hid,hr.out,hP.out,hQ.out]; rfl
 have hw1:IntKind.i64.wrap (z1 - z0)=z1 - z0:=IntWalk.i64_in _ (by omega);have hw2:IntKind.i64.wrap (z2 - z1)=z2 - z1:=IntWalk.i64_in _ (by omega);have h1:=hPk.mul (ht_int (k:=z1 - z0) (m:=22) (by omega) (by omega));have h2:=hQk.mul (ht_int (k:=z2 - z1) (m:=22) (by omega) (by omega));have h3:=(ht_int (k:=z0) (m:=22) (by omega) (by omega)).add h1;have HSP:Hid (Sz P∧Sz (P*((z1 - z0:Int):Rat))):=⟨hPk.sz (by omega),h1.sz (by omega)⟩
 have HSQ:Hid (Sz Q∧Sz (Q*((z2 - z1:Int):Rat))):=⟨hQk.sz (by omega),h2.sz (by omega)⟩
 have HS3:Hid (Sz (((z0:Int):Rat)+P*((z1 - z0:Int):Rat))):=h3.sz (by omega);unfold triV at HC ⊢;clear h hG ht hx hy hkx hky gx1 gx2 gy1 gy2 hpk hqk h1 h2 h3 hPk hQk hr;go_enter Tryz.func55,Tryz.ntmps55;go_wp2_with (go_at_call 105; refine Hid.out ?_);refine boxesC5 ?_;intro W hE hsz B0 B1 B2 B3 B4;refine (HC.out W hE).mono ?_;rintro e w1 ⟨u,v,rfl,hu,hv,e1⟩;obtain⟨bu,Au,ku,cu,A'u,k'u,c'u,rfl,hbu,gu1,gu2⟩:=hu.parts;obtain⟨bv,Av,kv,cv,A'v,k'v,c'v,rfl,hbv,gv1,gv2⟩:=hv.parts;replace B1:=e1.block B1;replace B4:=e1.block B4;replace hE:=hE.trans e1;go_upto_region 2 with (fail);refine boxes2 ?_;intro w2 e2 hsz2 BU BV;obtain⟨gU,hgU⟩:∃ gU,gU=w1.heap.size:=⟨_,rfl⟩
 rw [←hgU] at BU BV ⊢;have hg4:w.heap.size+1+1+1+1 < gU:=by have:=blk_lt B4; omega
 replace B1:=e2.block B1;replace B4:=e2.block B4;replace hE:=hE.trans e2;have hBU:BoxR N w2 gU p:=BoxR.mk BU hbu (gu1.ext e2) (gu2.ext e2);have hBV:BoxR N w2 (gU+1) q:=BoxR.mk BV hbv (gv1.ext e2) (gv2.ext e2);have yu:=gu1.ext e2;have zu:=gu2.ext e2;have yv:=gv1.ext e2;have zv:=gv2.ext e2;clear hgU e1 e2 hu hv B0 B2 B3 hsz2;have hN2:N≤w2.heap.size:=by have:=hE.size; omega
 obtain⟨-,-,c2,-,-,-⟩:=cells_g B1
 go_upto_if 22 with (fail)
 clear c2;have HB1:=Lib.hid B1;have HB4:=Lib.hid B4
 go_cut [] (fun wx=>BoxR N wx gU P∧BoxR N wx (gU+1) Q∧wx.heap[w.heap.size+1]?=some (.cells #[.int .i64 i,.int .i64 j,.bool l,.int .i64 z0,.int .i64 z1,.int .i64 z2] 109 (0,0))∧wx.heap[w.heap.size+1+1+1+1]?=some (.cells #[.bool false,.slice none 0 0,.bool false,.slice none 0 0] 29 (0,0))∧Ext w wx)
 case first =>
  cases l with
  | true =>
   have HPP:Hid (P=p):=hP.out;have HQQ:Hid (Q=q):=hQ.out;go_wp2_with fail
   go_meet
   rw [HPP.out,HQQ.out];exact⟨hBU,hBV,HB1.out,HB4.out,hE⟩
  | false =>
   have HPP:Hid (P=q):=hP.out;have HQQ:Hid (Q=p):=hQ.out;obtain⟨x0,x1,x2,x3,x4,x5,x6,x7⟩:=cells4 BU;obtain⟨y0,y1,y2,y3,y4,y5,y6,y7⟩:=cells4 BV;go_wp2_with fail
   go_meet
   obtain⟨w4,E4,F4,K4,hs4⟩:=boxSet (q:=q) BU (by omega) hbv yv zv;rw [E4];obtain⟨w5,E5,F5,K5,hs5⟩:=boxSet (q:=p) (K4.blk BV (by omega)) (by omega) hbu (yu.chg K4 (by omega)) (zu.chg K4 (by omega));rw [E5,HPP.out,HQQ.out];exact⟨F4.chg K5 (by omega) (by omega),F5,K5.blk (K4.blk HB1.out (by omega)) (by omega),K5.blk (K4.blk HB4.out (by omega)) (by omega),K5.ext (K4.ext hE (by omega)) (by omega)⟩
 obtain⟨hBP,hBQ,B1',B4',hE'⟩:=hcut;obtain⟨w6,hw6⟩:∃ w6,w6=wc:=⟨_,rfl⟩
 subst hw6;clear hBU hBV BU BV HB1 HB4 B1 B4 hE yu zu yv zv gu1 gu2 gv1 gv2 hN2;have hN6:N≤w6.heap.size:=by have:=hE'.size; omega
 go_upto_region 4 with (fail);obtain⟨-,-,-,c3,c4,c5⟩:=cells_g B1';have hBP0:=hBP;obtain⟨nx,Ax,kx,cx,A'x,k'x,c'x,Bx,hbx,yx,zx⟩:=hBP;obtain⟨x0,x1,x2,x3,-⟩:=cells4 Bx;have hRx:RatV N w6 (.agg #[.bool nx,.slice Ax kx cx,.bool false,.slice A'x k'x c'x]) (P):=RatV.mk hbx yx zx;refine regI [Mn.eq (.pointer (some ⟨w.heap.size+1,3,none⟩)),Mn.eq (.pointer (some ⟨w.heap.size+1,3,none⟩)),Mn.eq (.int .i64 z0),Mn.rat N ((z0:Int):Rat),Mn.rat N (P),Mn.eq (.pointer (some ⟨w.heap.size+1,3,none⟩)),Mn.eq (.pointer (some ⟨w.heap.size+1,4,none⟩)),Mn.eq (.int .i64 z1),Mn.eq (.pointer (some ⟨w.heap.size+1,3,none⟩)),Mn.eq (.pointer (some ⟨w.heap.size+1,3,none⟩)),Mn.eq (.int .i64 z0),Mn.eq (.int .i64 (z1 - z0)),Mn.rat N ((z1 - z0:Int):Rat),Mn.rat N (P*((z1 - z0:Int):Rat)),Mn.rat N (((z0:Int):Rat)+P*((z1 - z0:Int):Rat)),Mn.blk w6.heap.size (.cells #[.bool false,.slice none 0 0,.bool false,.slice none 0 0] 29 (0,0)),Mn.any] [some 25,some 26,some 27,some 28,some 29,some 30,some 31,some 32,some 33,some 34,some 35,some 36,some 37,some 38,some 39,some 11,none] [16] [true,true,true,true,true,true,true,true,true,true,true,true,true,true,true,true,false] 1 (by kernel_rfl) ?_ ?_
 ·show ∀ i,i < 17→_
  iterate 17 refine fs ?_ ?_
  ·exact fz
  all_goals intro hl
  all_goals first | exact absurd hl (by decide) | skip
  all_goals clear hl
  all_goals refine stp rfl ?_
  all_goals intro ac wi eI hB hA K hK
  have o5:=oOf (hB 5 (by kernel_rfl)) rfl
  rotate_left
  obtain⟨_,s25,rfl⟩:=hA 0 (by kernel_rfl) 25 rfl
  rotate_left
  obtain⟨_,s26,rfl⟩:=hA 1 (by kernel_rfl) 26 rfl;have cc0:=eI.cell c3
  rotate_left
  obtain⟨_,s27,rfl⟩:=hA 2 (by kernel_rfl) 27 rfl;clear hB hA
  ·go_simp;refine (l49_whole (Nat.le_trans hN6 eI.size) z0 (by omega) (by omega)).mono ?_;rintro e wj ⟨vj,rfl,hj,ej⟩;go_wp2_with fail;exact hK.out _ _ ej hj
  have o9:=oOf (hB 9 (by kernel_rfl)) rfl;clear hB hA;have cc0:=eI.cell x0;have cc1:=eI.cell x1;have cc2:=eI.cell x2;have cc3:=eI.cell x3
  ·go_simp;exact hK.out _ _ (Ext.refl _) (hRx.ext eI)
  have o5:=oOf (hB 5 (by kernel_rfl)) rfl
  rotate_left
  obtain⟨_,s30,rfl⟩:=hA 5 (by kernel_rfl) 30 rfl
  rotate_left
  obtain⟨_,s31,rfl⟩:=hA 6 (by kernel_rfl) 31 rfl;have cc0:=eI.cell c4
  rotate_left
  have o5:=oOf (hB 5 (by kernel_rfl)) rfl
  rotate_left
  obtain⟨_,s33,rfl⟩:=hA 8 (by kernel_rfl) 33 rfl
  rotate_left
  obtain⟨_,s34,rfl⟩:=hA 9 (by kernel_rfl) 34 rfl;have cc0:=eI.cell c3
  rotate_left
  obtain⟨_,s32,rfl⟩:=hA 7 (by kernel_rfl) 32 rfl;obtain⟨_,s35,rfl⟩:=hA 10 (by kernel_rfl) 35 rfl
  rotate_left
  obtain⟨_,s36,rfl⟩:=hA 11 (by kernel_rfl) 36 rfl;clear hB hA
  ·go_simp;refine (l49_whole (Nat.le_trans hN6 eI.size) (z1 - z0) (by omega) (by omega)).mono ?_;rintro e wj ⟨vj,rfl,hj,ej⟩;go_wp2_with fail;exact hK.out _ _ ej hj
  obtain⟨x29,s29,j29⟩:=hA 4 (by kernel_rfl) 29 rfl;replace j29:Mn.p (Mn.rat N (P)) x29 wi:=j29;obtain⟨x37,s37,j37⟩:=hA 12 (by kernel_rfl) 37 rfl;replace j37:Mn.p (Mn.rat N ((z1 - z0:Int):Rat)) x37 wi:=j37;clear hB hA
  ·go_simp;refine (r2_mul j29 j37 HSP.out.1 (sz_int (by omega))).mono ?_;rintro e wj ⟨vj,rfl,hj,ej⟩;go_wp2_with fail;exact hK.out _ _ ej hj
  obtain⟨x28,s28,j28⟩:=hA 3 (by kernel_rfl) 28 rfl;replace j28:Mn.p (Mn.rat N ((z0:Int):Rat)) x28 wi:=j28;obtain⟨x38,s38,j38⟩:=hA 13 (by kernel_rfl) 38 rfl;replace j38:Mn.p (Mn.rat N (P*((z1 - z0:Int):Rat))) x38 wi:=j38;clear hB hA
  ·go_simp;refine (r2_add j28 j38 (sz_int (by omega)) HSP.out.2).mono ?_;rintro e wj ⟨vj,rfl,hj,ej⟩;go_wp2_with fail;exact hK.out _ _ ej hj
  clear hB hA
  ·go_simp;refine boxes1 ?_;intro wj ej hszj BJ;exact hK.out _ _ ej ⟨_,rfl,eI.size,BJ⟩
  all_goals clear hB hA
  all_goals go_simp
  all_goals exact hK.out _ _ (Ext.refl _) rfl
 intro vals wz eZ hJ;have J39:Mn.p (Mn.rat N (((z0:Int):Rat)+P*((z1 - z0:Int):Rat))) (vals 14) wz:=hJ 14 (by decide) (by decide);have J11:Mn.p (Mn.blk w6.heap.size (.cells #[.bool false,.slice none 0 0,.bool false,.slice none 0 0] 29 (0,0))) (vals 15) wz:=hJ 15 (by decide) (by decide);clear hJ;simp only [pr,Nat.reduceAdd]
 generalize vals 14=z39 at J39 ⊢
 generalize vals 15=z11 at J11 ⊢
 obtain⟨gH,rfl,hgH,BH⟩:=J11;obtain⟨bz,Az,kz,cz,Az',kz',cz',rfl,hbz,gz1,gz2⟩:=RatV.parts J39;obtain⟨y0,y1,y2,y3,y4,y5,y6,y7⟩:=cells4 BH;refine stepL_late (i:=16) rfl (by kernel_rfl) (by kernel_rfl) (fun K hK=>?_);go_simp;refine hK.out _ _ ?_;clear hK K;try simp only [nr]
 refine stepL_done (by kernel_rfl) ?_ _;obtain⟨w7,E7,hBH,K7,hs7⟩:=boxSet (q:=((z0:Int):Rat)+P*((z1 - z0:Int):Rat)) BH (by omega) hbz gz1 gz2;rw [E7];have e67:Ext w6 w7:=K7.ext eZ hgH;replace hBQ:=hBQ.ext e67;replace B1':=e67.block B1';replace B4':=e67.block B4';replace hE':=hE'.trans e67;replace hN6:=Nat.le_trans hN6 e67.size;clear c3 c4 c5 x0 x1 x2 x3 hbx yx zx Bx hRx y0 y1 y2 y3 y4 y5 y6 y7 E7 K7 BH hs7 hbz gz1 gz2 hBP0 eZ e67;go_upto_region 5 with (fail);obtain⟨-,-,-,c3,c4,c5⟩:=cells_g B1';obtain⟨nx,Ax,kx,cx,A'x,k'x,c'x,Bx,hbx,yx,zx⟩:=hBQ;obtain⟨x0,x1,x2,x3,-⟩:=cells4 Bx;have hRx:RatV N w7 (.agg #[.bool nx,.slice Ax kx cx,.bool false,.slice A'x k'x c'x]) (Q):=RatV.mk hbx yx zx;obtain⟨ns,As,ks,cs,A's,k's,c's,Bs,hbs,ys,zs⟩:=hBH;obtain⟨s0,s1,s2,s3,-⟩:=cells4 Bs;have hRs:RatV N w7 (.agg #[.bool ns,.slice As ks cs,.bool false,.slice A's k's c's]) (((z0:Int):Rat)+P*((z1 - z0:Int):Rat)):=RatV.mk hbs ys zs;obtain⟨r0,r1,r2,r3,r4,r5,r6,r7⟩:=cells4 B4';refine regI [Mn.rat N (((z0:Int):Rat)+P*((z1 - z0:Int):Rat)),Mn.rat N (Q),Mn.eq (.pointer (some ⟨w.heap.size+1,3,none⟩)),Mn.eq (.pointer (some ⟨w.heap.size+1,5,none⟩)),Mn.eq (.int .i64 z2),Mn.eq (.pointer (some ⟨w.heap.size+1,3,none⟩)),Mn.eq (.pointer (some ⟨w.heap.size+1,4,none⟩)),Mn.eq (.int .i64 z1),Mn.eq (.int .i64 (z2 - z1)),Mn.rat N ((z2 - z1:Int):Rat),Mn.rat N (Q*((z2 - z1:Int):Rat)),Mn.rat N r,Mn.any] [some 40,some 41,some 42,some 43,some 44,some 45,some 46,some 47,some 48,some 49,some 50,some 51,none] [12] [true,true,true,true,true,true,true,true,true,true,true,true,false] 1 (by kernel_rfl) ?_ ?_
 ·show ∀ i,i < 13→_
  iterate 13 refine fs ?_ ?_
  ·exact fz
  all_goals intro hl
  all_goals first | exact absurd hl (by decide) | skip
  all_goals clear hl
  all_goals refine stp rfl ?_
  all_goals intro ac wi eI hB hA K hK
  have o11:=oOf (hB 11 (by kernel_rfl)) rfl;clear hB hA;have cc0:=eI.cell s0;have cc1:=eI.cell s1;have cc2:=eI.cell s2;have cc3:=eI.cell s3
  ·go_simp;exact hK.out _ _ (Ext.refl _) (hRs.ext eI)
  have o10:=oOf (hB 10 (by kernel_rfl)) rfl;clear hB hA;have cc0:=eI.cell x0;have cc1:=eI.cell x1;have cc2:=eI.cell x2;have cc3:=eI.cell x3
  ·go_simp;exact hK.out _ _ (Ext.refl _) (hRx.ext eI)
  have o5:=oOf (hB 5 (by kernel_rfl)) rfl
  rotate_left
  obtain⟨_,s42,rfl⟩:=hA 2 (by kernel_rfl) 42 rfl
  rotate_left
  obtain⟨_,s43,rfl⟩:=hA 3 (by kernel_rfl) 43 rfl;have cc0:=eI.cell c5
  rotate_left
  have o5:=oOf (hB 5 (by kernel_rfl)) rfl
  rotate_left
  obtain⟨_,s45,rfl⟩:=hA 5 (by kernel_rfl) 45 rfl
  rotate_left
  obtain⟨_,s46,rfl⟩:=hA 6 (by kernel_rfl) 46 rfl;have cc0:=eI.cell c4
  rotate_left
  obtain⟨_,s44,rfl⟩:=hA 4 (by kernel_rfl) 44 rfl;obtain⟨_,s47,rfl⟩:=hA 7 (by kernel_rfl) 47 rfl
  rotate_left
  obtain⟨_,s48,rfl⟩:=hA 8 (by kernel_rfl) 48 rfl;clear hB hA
  ·go_simp;refine (l49_whole (Nat.le_trans hN6 eI.size) (z2 - z1) (by omega) (by omega)).mono ?_;rintro e wj ⟨vj,rfl,hj,ej⟩;go_wp2_with fail;exact hK.out _ _ ej hj
  obtain⟨x41,s41,j41⟩:=hA 1 (by kernel_rfl) 41 rfl;replace j41:Mn.p (Mn.rat N (Q)) x41 wi:=j41;obtain⟨x49,s49,j49⟩:=hA 9 (by kernel_rfl) 49 rfl;replace j49:Mn.p (Mn.rat N ((z2 - z1:Int):Rat)) x49 wi:=j49;clear hB hA
  ·go_simp;refine (r2_mul j41 j49 HSQ.out.1 (sz_int (by omega))).mono ?_;rintro e wj ⟨vj,rfl,hj,ej⟩;go_wp2_with fail;exact hK.out _ _ ej hj
  obtain⟨x40,s40,j40⟩:=hA 0 (by kernel_rfl) 40 rfl;replace j40:Mn.p (Mn.rat N (((z0:Int):Rat)+P*((z1 - z0:Int):Rat))) x40 wi:=j40;obtain⟨x50,s50,j50⟩:=hA 10 (by kernel_rfl) 50 rfl;replace j50:Mn.p (Mn.rat N (Q*((z2 - z1:Int):Rat))) x50 wi:=j50;clear hB hA
  ·go_simp;refine (r2_add j40 j50 HS3.out HSQ.out.2).mono ?_;rw [HR.out];rintro e wj ⟨vj,rfl,hj,ej⟩;go_wp2_with fail;exact hK.out _ _ ej hj
  all_goals clear hB hA
  all_goals go_simp
  all_goals exact hK.out _ _ (Ext.refl _) rfl
 intro vals wz eZ hJ;have J51:Mn.p (Mn.rat N r) (vals 11) wz:=hJ 11 (by decide) (by decide);clear hJ;simp only [pr,Nat.reduceAdd]
 generalize vals 11=z51 at J51 ⊢
 obtain⟨bz,Az,kz,cz,Az',kz',cz',rfl,hbz,gz1,gz2⟩:=RatV.parts J51;replace B4':=eZ.block B4';clear r0 r1 r2 r3 r4 r5 r6 r7;obtain⟨r0,r1,r2,r3,r4,r5,r6,r7⟩:=cells4 B4';refine stepL_late (i:=12) rfl (by kernel_rfl) (by kernel_rfl) (fun K hK=>?_);go_simp;refine hK.out _ _ ?_;clear hK K;try simp only [nr]
 refine stepL_done (by kernel_rfl) ?_ _;go_wp2;exact fin_rat rfl rfl rfl (hE'.trans eZ) B4' (by omega) hN gz1 gz2 hbz
end Go.Proofs.YtphpkhoeplcedaaGreat
