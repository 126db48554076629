import Derived.Test.YthkkknjcoidioaaGreatWb01
import Derived.Test.YthkkknjcoidioaaGreatWb02
import Derived.Test.YthkkknjcoidioaaGreatWb03
import Derived.Test.YthkkknjcoidioaaGreatWb04
import Derived.Test.YthkkknjcoidioaaGreatWb05
import Derived.Test.YthkkknjcoidioaaGreatWb06
import Derived.Test.YthkkknjcoidioaaGreatWb07
import Derived.Test.YthkkknjcoidioaaGreatWb08
import Derived.Test.YthkkknjcoidioaaGreatWb09
import Derived.Test.YthkkknjcoidioaaGreatWb10
import Derived.Test.YthkkknjcoidioaaGreatWb11
import Derived.Test.YthkkknjcoidioaaGreatWb12
import Derived.Test.YthkkknjcoidioaaGreatWb13
import Derived.Test.YthkkknjcoidioaaGreatWb14
import Derived.Test.YthkkknjcoidioaaGreatWb15
import Derived.Test.YthkkknjcoidioaaGreatWb16
import Derived.Test.YthkkknjcoidioaaGreatWb17
import Derived.Test.YthkkknjcoidioaaGreatWb18
import Derived.Test.YthkkknjcoidioaaGreatWb19
import Derived.Test.YthkkknjcoidioaaGreatWb20
import Derived.Test.YthkkknjcoidioaaGreatWb21
import Derived.Test.YthkkknjcoidioaaGreatWb22
import Derived.Test.YthkkknjcoidioaaGreatWb23
import Derived.Test.YthkkknjcoidioaaGreatWb24
import Derived.Test.YthkkknjcoidioaaGreatWb25
import Derived.Test.YthkkknjcoidioaaGreatWb26
import Derived.Test.YthkkknjcoidioaaGreatWb27
import Derived.Test.YthkkknjcoidioaaGreatWb28
import Derived.Test.YthkkknjcoidioaaGreatWb29
import Derived.Test.YthkkknjcoidioaaGreatWb30
import Derived.Test.YthkkknjcoidioaaGreatWb31
import Derived.Test.YthkkknjcoidioaaGreatWb32
import Derived.Test.YthkkknjcoidioaaGreatWb33
import Derived.Test.YthkkknjcoidioaaGreatWb34
import Derived.Test.YthkkknjcoidioaaGreatWb35
import Derived.Test.YthkkknjcoidioaaGreatWb36
import Derived.Test.YthkkknjcoidioaaGreatWb37
import Derived.Test.YthkkknjcoidioaaGreatWb38
import Derived.Test.YthkkknjcoidioaaGreatWb39
import Derived.Test.YthkkknjcoidioaaGreatWb40
import Derived.Test.YthkkknjcoidioaaGreatWb41
import Derived.Test.YthkkknjcoidioaaGreatWb42
import Derived.Test.YthkkknjcoidioaaGreatWb43
import Derived.Test.YthkkknjcoidioaaGreatWb44
import Derived.Test.YthkkknjcoidioaaGreatWb46
import Derived.Deep.RegionHeld3
import Derived.Deep.AppendLies
import Derived.WalkKit
import Derived.WalkSpells
import Derived.WalkLawsBesides
import Derived.Lib.Hide
import Derived.Deep.QuietTactic
import Derived.BigQuiet
import Derived.Maps.AppendAt
import Derived.Deep.DeepCutAuto
import Derived.Deep.RegionWith
import Derived.Deep.DeepMust
import Derived.Deep.CutBlock
import Derived.OrdersIn
import Derived.RegionTactic
import Derived.RangeFuncNested
import Derived.RangeFuncBound
import Derived.RangeFuncCalls
import Derived.RangeFuncLeaves
import Derived.RangeFuncBox
import Derived.Shelf.Abstract
import Derived.OwnWalkIn
import Derived.TacticsInMore
import Derived.LoopNIn
import Derived.LoopIn
import Derived.Laws.EntriesVeiled
import Derived.Deep.RegionLaw
import Derived.Lib.SliceRun
import Derived.Laws.IdiomCopy
import Derived.Shelf.Bits.Mul64
import Derived.Deep.Slices
import Derived.Deep.Strs
import Derived.Lib.SmallJoins
import Derived.ProofKit
import Derived.OpenShut
import Derived.Below
import Derived.SizedLaws
set_option linter.all false
set_option maxHeartbeats 8000000
namespace Go.Proofs.YthkkknjcoidioaaGreat
open Go.RowKit
theorem r2_zero {w:World}:Calls Tryz.prog 48 #[.agg #[.bool false,.slice none 0 0,.bool false,.slice none 0 0]] w (RetV w (.bool true)):=by
 go_enter Tryz.func48,Tryz.ntmps48;go_wp2;go_ret;exact⟨rfl,(Ext.refl w).alloc _⟩
theorem one_raw {N:Nat} {w:World} {g:Nat} {R:Raw} {s t:Value} (hN:N≤w.heap.size) (h:w.heap[g]?=some (.cells #[.bool R.b1,s,.bool R.b2,t] 36 (0,0))) (h1:Gs N w s R.l1) (h2:Gs N w t R.l2):LsR N 0 w.heap.size w (.slice (some ⟨g,0,none⟩) 1 1) 1 (fun _=>R):=by
 obtain⟨p0,p1,p2,p3,-⟩:=cells4 h;refine⟨hN,Nat.le_refl _,_,1,rfl,Nat.le_refl _,by unfold maxLen; omega,fun _=>⟨g,0,rfl,Nat.zero_le _,blk_lt h,fun i hi=>?_⟩⟩;obtain rfl:i=0:=by omega
 exact⟨s,t,p0,p1,p2,p3,h1,h2⟩
def RetTs (w:World) (c:Int) (e:Ending) (w':World):Prop:=∃ v,e=.returned (.tuple #[v,nilRat,.int .i64 c])∧Six v∧Ext w w'
set_option maxRecDepth 100000 in
theorem sn_tested_bad {N lo hi:Nat} {w:World} {v u:Value} {Z:Lin} {R:Raw} (h:LinV N lo hi w v Z) (hx:RawV N w u R) (hf:few34 7 4 Z=true) (hsx:RawSz R) (hc:code38 Z 1 (fun _=>R)≠0) (z:Int) :
  Calls Tryz.prog 86 #[v,.int .i64 z,u] w (RetV w (.tuple #[nilSlv,nilRat,.int .i64 (code38 Z 1 (fun _=>R))])):=by
 have hI:=h;have hIx:=hx;have HC:=Lib.hid hc;have HF:=Lib.hid hf;have HSX:=Lib.hid hsx;have hN:N≤w.heap.size:=hx.le;obtain⟨r,hr⟩:=hid_eq (code38 Z 1 (fun _=>R));have hr0:(r == 0)=false:=by rw [hr.out]; simpa using hc
 have hr1:(r != 0)=true:=by simpa using hr0
 rw [←hr.out];obtain⟨A1,c1,A2,c2,A3,c3,rfl,-⟩:=h.parts;obtain⟨Q1,k1,l1,Q2,k2,l2,rfl,gx1,gx2⟩:=hx.parts;clear h hc hf hx hsx;go_enter Tryz.func86,Tryz.ntmps86;go_upto_region 1 with (fail);refine boxes4 ?_;intro W hE hsz B0 B1 B2 B3;obtain⟨a0,a1,a2,-⟩:=cells3 B0;obtain⟨d0,d1,d2,d3,-⟩:=cells4 B1;go_wp2_with (go_at_call 60; refine Hid.out ?_);refine boxesC1 ?_;intro W1 f1 hsz1 BS;replace hE:=hE.trans f1;replace B2:=f1.block B2;replace B3:=f1.block B3;refine (sn_solve_bad (hI.ext hE) (one_raw (by have:=hE.size; omega) BS (gx1.ext hE) (gx2.ext hE)) HF.out (fun i _=>HSX.out) HC.out).mono ?_;rintro e w1 ⟨rfl,e1⟩;unfold nilSlv;rw [←hr.out];replace hE:=hE.trans e1;replace B2:=e1.block B2;replace B3:=e1.block B3;clear a0 a1 a2 d0 d1 d2 d3 BS f1 e1;go_upto_region 2 with (fail);refine boxes1 ?_;intro w2 e2 hsz2 B9;replace hE:=hE.trans e2;replace B2:=e2.block B2;replace B3:=e2.block B3;clear e2 hsz2;obtain⟨o0,o1,o2,o3,o4,o5,-⟩:=cells6 B9;go_upto_region 3 with (fail);refine wp_region_lit ?_;refine wpList_plain rfl (fun K hK=>?_);go_simp;refine hK _ _ ?_;clear hK K;try simp only [nr]
 refine wpList_plain rfl (fun K hK=>?_);go_simp;refine hK _ _ ?_;clear hK K;try simp only [nr]
 refine wpList_plain rfl (fun K hK=>?_);go_simp;refine hK _ _ ?_;clear hK K;try simp only [nr]
 refine wpList_store_blk rfl 94 _ _ rfl (by rfl) (by rfl) B2 info_slv (by rfl) (by rfl) (by rfl) ?_;try simp only [nr]
 intro w3 D2 U2;have C2:=U2.chg (NoU.mk B2 (by decide));replace B3:=C2.blk B3 (by omega);replace hE:=C2.ext hE (by omega);obtain⟨y0,y1,y2,y3,y4,y5,y6,y7⟩:=cells4 B3;refine wpList_plain rfl (fun K hK=>?_);go_simp;refine hK _ _ ?_;clear hK K;try simp only [nr]
 obtain⟨w4,E4,D4,U4⟩:=ex4 B3 (.bool false) (.slice none 0 0) (.bool false) (.slice none 0 0);rw [E4];have C4:=U4.chg (NoU.mk B3 (by decide));replace D2:=C4.blk D2 (by omega);replace hE:=C4.ext hE (by omega);refine wpList_plain rfl (fun K hK=>?_);go_simp;refine hK _ _ ?_;clear hK K;try simp only [nr]
 refine wpList_nil ?_;obtain⟨x0,x1,x2,x3,x4,x5,-⟩:=cells6 D2;obtain⟨z0,z1,z2,z3,-⟩:=cells4 D4;clear y0 y1 y2 y3 y4 y5 y6 y7 o0 o1 o2 o3 o4 o5 E4;go_wp2;refine bodyPost_ret (v:=.tuple #[nilSlv,nilRat,.int .i64 r]) ?_ rfl ?_
 ·simp [results,x0,x1,x2,x3,x4,x5,z0,z1,z2,z3,go_sem,nilSlv,nilRat]
 ·exact⟨rfl,hE⟩
theorem sign_le0 {q:Rat} (h:q≤0):decide (q.num.sign≤0)=true:=decide_eq_true (by
 have h1:¬ 0 < q.num.sign:=fun h1=>absurd (rat_pos (Int.sign_pos_iff.1 h1)) (Rat.not_lt.2 h)
 omega)
set_option maxRecDepth 100000 in
theorem sn_tested_out {N lo hi lo2 hi2:Nat} {w:World} {v1 v2 v3 u:Value} {m n:Nat} {X:Nat→Nat→Rat} {y p:Nat→Rat} {dl:Rat} (h1:MtV N lo hi w v1 m n X) (h2:LsV N lo2 hi2 w v2 m y) (h3:LsV N lo2 hi2 w v3 m p) (hx:RatV N w u dl) (d:Md m n X y p) (hr:Reg n (nmat X p m)) (hzd:Sz dl) (z:Int) (hz:inB m z=false) :
  Calls Tryz.prog 86 #[.agg #[v1,v2,v3],.int .i64 z,u] w (RetTs w 2):=by
 have HB:=Lib.hid hz;clear hz;have HD:=Lib.hid d;have HG:=Lib.hid hr;have hN:=h1.le;have hm0:=d.m0;have hm7:=d.m7;have hn0:=d.n0;have hn4:=d.n4;have hI1:=h1;have hI2:=h2;have hI3:=h3;obtain⟨A1,c1,rfl,hmc,hcm⟩:=h1.form;obtain⟨A2,c2,rfl,hmc2,hcm2⟩:=h2.form;obtain⟨A3,c3,rfl,hmc3,hcm3⟩:=h3.form;unfold maxLen at hcm hcm2 hcm3;clear h1 h2 h3 d hr;have HZD:=Lib.hid hzd;have hIx:=hx;obtain⟨b9,Q1,k1,l1,Q2,k2,l2,rfl,hb9,gx1,gx2⟩:=RatV.parts hx;clear hx hzd;go_enter Tryz.func86,Tryz.ntmps86;go_upto_region 1 with (fail);refine boxes4 ?_;intro W hE hsz B0 B1 B2 B3;obtain⟨a0,a1,a2,-⟩:=cells3 B0;obtain⟨d0,d1,d2,d3,-⟩:=cells4 B1;go_wp2_with (go_at_call 60; refine Hid.out ?_);refine boxesC1 ?_;intro W1 f1 hsz1 BS;replace hE:=hE.trans f1;replace B1:=f1.block B1;replace B2:=f1.block B2;replace B3:=f1.block B3;refine (sn_solve (hI1.ext hE) (hI2.ext hE) (hI3.ext hE) (one_rat (by have:=hE.size; omega) BS hb9 (gx1.ext hE) (gx2.ext hE)) HD.out (fun i _=>szd_raw HZD.out) (allB_true.2 fun _ _=>okR_raw _) HG.out).mono ?_;rintro e w1 ⟨v,rfl,hS,e1⟩;replace hE:=hE.trans e1;replace B1:=e1.block B1;replace B2:=e1.block B2;replace B3:=e1.block B3;have hl2:=blk_lt B2;have hl3:=blk_lt B3;clear a0 a1 a2 d0 d1 d2 d3 BS f1 e1;obtain⟨A5,c5,A6,c6,A7,c7,AQ,cq,AV,cv,gq,gl,hv6,-⟩:=id hS;subst hv6;go_upto_region 2 with (fail);refine boxes1 ?_;intro w2 e2 hsz2 B6;replace hS:=hS.ext e2;obtain⟨g6,hg6⟩:∃ g6,g6=w1.heap.size:=⟨_,rfl⟩
 rw [←hg6] at B6 ⊢;have hw1:w1.heap.size≤g6:=by omega
 replace hE:=hE.trans e2;replace B1:=e2.block B1;replace B2:=e2.block B2;replace B3:=e2.block B3;clear e2 hsz2 hg6;obtain⟨o0,o1,o2,o3,o4,o5,-⟩:=cells6 B6;go_wp2_with (go_at_call 61; refine Hid.out ?_);refine (sn_has hS hm7 _).mono ?_;rw [HB.out];rintro e w3 ⟨rfl,e3⟩;replace B1:=e3.block B1;replace B2:=e3.block B2;replace B3:=e3.block B3;replace B6:=e3.block B6;replace hS:=hS.ext e3;replace hE:=hE.trans e3;clear o0 o1 o2 o3 o4 o5 e3;obtain⟨o0,o1,o2,o3,o4,o5,-⟩:=cells6 B6;clear o0 o1 o2 o3 o4 o5;obtain⟨o0,o1,o2,o3,o4,o5,-⟩:=cells6 B6;go_upto_region 5 with (fail);refine wp_region_lit ?_;refine wpList_plain rfl (fun K hK=>?_);go_simp;refine hK _ _ ?_;clear hK K;try simp only [nr]
 refine wpList_plain rfl (fun K hK=>?_);go_simp;refine hK _ _ ?_;clear hK K;try simp only [nr]
 refine wpList_store_blk rfl 94 _ _ rfl (by rfl) (by rfl) B2 info_slv (by rfl) (by rfl) (by rfl) ?_;try simp only [nr]
 intro w3 D2 U2;have C2:=U2.chg (NoU.mk B2 (by decide));replace B3:=C2.blk B3 (by omega);replace hE:=C2.ext hE (by omega);obtain⟨y0,y1,y2,y3,y4,y5,y6,y7⟩:=cells4 B3;refine wpList_plain rfl (fun K hK=>?_);go_simp;refine hK _ _ ?_;clear hK K;try simp only [nr]
 obtain⟨w4,E4,D4,U4⟩:=ex4 B3 (.bool false) (.slice none 0 0) (.bool false) (.slice none 0 0);rw [E4];have C4:=U4.chg (NoU.mk B3 (by decide));replace D2:=C4.blk D2 (by omega);replace hE:=C4.ext hE (by omega);refine wpList_plain rfl (fun K hK=>?_);go_simp;refine hK _ _ ?_;clear hK K;try simp only [nr]
 refine wpList_nil ?_;obtain⟨x0,x1,x2,x3,x4,x5,-⟩:=cells6 D2;obtain⟨z0,z1,z2,z3,-⟩:=cells4 D4;clear y0 y1 y2 y3 y4 y5 y6 y7 o0 o1 o2 o3 o4 o5 E4;go_wp2;refine bodyPost_ret (v:=.tuple #[.agg #[.slice A5 m c5,.slice A6 m c6,.slice A7 m c7,.slice AQ n cq,.slice AV m cv,.func (.func 104) #[] #[.pointer (some ⟨gq,0,none⟩),.pointer (some ⟨gl,0,none⟩)]],nilRat,.int .i64 2]) ?_ rfl ?_
 ·simp [results,x0,x1,x2,x3,x4,x5,z0,z1,z2,z3,go_sem,nilRat]
 ·exact⟨_,rfl,⟨_,_,_,_,_,_,_,_,_,_,_,_,_,_,_,_,_,_,rfl⟩,hE⟩
set_option maxRecDepth 100000 in
theorem sn_tested_neg {N lo hi lo2 hi2:Nat} {w:World} {v1 v2 v3 u:Value} {m n:Nat} {X:Nat→Nat→Rat} {y p:Nat→Rat} {dl:Rat} (h1:MtV N lo hi w v1 m n X) (h2:LsV N lo2 hi2 w v2 m y) (h3:LsV N lo2 hi2 w v3 m p) (hx:RatV N w u dl) (d:Md m n X y p) (hr:Reg n (nmat X p m)) (hzd:Sz dl) (z:Int) (hz:inB m z=true) (hd:dl≤0) :
  Calls Tryz.prog 86 #[.agg #[v1,v2,v3],.int .i64 z,u] w (RetTs w 2):=by
 have HB:=Lib.hid hz;obtain⟨sg,hsg⟩:=hid_eq dl.num.sign;have t1:decide (sg≤0)=true:=by rw [hsg.out]; exact sign_le0 hd
 clear hz hd;have HD:=Lib.hid d;have HG:=Lib.hid hr;have hN:=h1.le;have hm0:=d.m0;have hm7:=d.m7;have hn0:=d.n0;have hn4:=d.n4;have hI1:=h1;have hI2:=h2;have hI3:=h3;obtain⟨A1,c1,rfl,hmc,hcm⟩:=h1.form;obtain⟨A2,c2,rfl,hmc2,hcm2⟩:=h2.form;obtain⟨A3,c3,rfl,hmc3,hcm3⟩:=h3.form;unfold maxLen at hcm hcm2 hcm3;clear h1 h2 h3 d hr;have HZD:=Lib.hid hzd;have hIx:=hx;obtain⟨b9,Q1,k1,l1,Q2,k2,l2,rfl,hb9,gx1,gx2⟩:=RatV.parts hx;clear hx hzd;go_enter Tryz.func86,Tryz.ntmps86;go_upto_region 1 with (fail);refine boxes4 ?_;intro W hE hsz B0 B1 B2 B3;obtain⟨a0,a1,a2,-⟩:=cells3 B0;obtain⟨d0,d1,d2,d3,-⟩:=cells4 B1;go_wp2_with (go_at_call 60; refine Hid.out ?_);refine boxesC1 ?_;intro W1 f1 hsz1 BS;replace hE:=hE.trans f1;replace B1:=f1.block B1;replace B2:=f1.block B2;replace B3:=f1.block B3;refine (sn_solve (hI1.ext hE) (hI2.ext hE) (hI3.ext hE) (one_rat (by have:=hE.size; omega) BS hb9 (gx1.ext hE) (gx2.ext hE)) HD.out (fun i _=>szd_raw HZD.out) (allB_true.2 fun _ _=>okR_raw _) HG.out).mono ?_;rintro e w1 ⟨v,rfl,hS,e1⟩;replace hE:=hE.trans e1;replace B1:=e1.block B1;replace B2:=e1.block B2;replace B3:=e1.block B3;have hl2:=blk_lt B2;have hl3:=blk_lt B3;clear a0 a1 a2 d0 d1 d2 d3 BS f1 e1;obtain⟨A5,c5,A6,c6,A7,c7,AQ,cq,AV,cv,gq,gl,hv6,-⟩:=id hS;subst hv6;go_upto_region 2 with (fail);refine boxes1 ?_;intro w2 e2 hsz2 B6;replace hS:=hS.ext e2;obtain⟨g6,hg6⟩:∃ g6,g6=w1.heap.size:=⟨_,rfl⟩
 rw [←hg6] at B6 ⊢;have hw1:w1.heap.size≤g6:=by omega
 replace hE:=hE.trans e2;replace B1:=e2.block B1;replace B2:=e2.block B2;replace B3:=e2.block B3;clear e2 hsz2 hg6;obtain⟨o0,o1,o2,o3,o4,o5,-⟩:=cells6 B6;go_wp2_with (go_at_call 61; refine Hid.out ?_);refine (sn_has hS hm7 _).mono ?_;rw [HB.out];rintro e w3 ⟨rfl,e3⟩;replace B1:=e3.block B1;replace B2:=e3.block B2;replace B3:=e3.block B3;replace B6:=e3.block B6;replace hS:=hS.ext e3;replace hE:=hE.trans e3;clear o0 o1 o2 o3 o4 o5 e3;obtain⟨o0,o1,o2,o3,o4,o5,-⟩:=cells6 B6;obtain⟨d0,d1,d2,d3,-⟩:=cells4 B1;go_wp2_with (go_at_call 124; refine Hid.out ?_);refine (f_sign (hIx.ext hE) HZD.out).mono ?_;rw [←hsg.out];rintro e w9 ⟨rfl,e9⟩;clear d0 d1 d2 d3;replace B1:=e9.block B1;replace B2:=e9.block B2;replace B3:=e9.block B3;replace B6:=e9.block B6;replace hS:=hS.ext e9;replace hE:=hE.trans e9;clear o0 o1 o2 o3 o4 o5 e9;obtain⟨o0,o1,o2,o3,o4,o5,-⟩:=cells6 B6;clear o0 o1 o2 o3 o4 o5;obtain⟨o0,o1,o2,o3,o4,o5,-⟩:=cells6 B6;go_upto_region 5 with (fail);refine wp_region_lit ?_;refine wpList_plain rfl (fun K hK=>?_);go_simp;refine hK _ _ ?_;clear hK K;try simp only [nr]
 refine wpList_plain rfl (fun K hK=>?_);go_simp;refine hK _ _ ?_;clear hK K;try simp only [nr]
 refine wpList_store_blk rfl 94 _ _ rfl (by rfl) (by rfl) B2 info_slv (by rfl) (by rfl) (by rfl) ?_;try simp only [nr]
 intro w3 D2 U2;have C2:=U2.chg (NoU.mk B2 (by decide));replace B3:=C2.blk B3 (by omega);replace hE:=C2.ext hE (by omega);obtain⟨y0,y1,y2,y3,y4,y5,y6,y7⟩:=cells4 B3;refine wpList_plain rfl (fun K hK=>?_);go_simp;refine hK _ _ ?_;clear hK K;try simp only [nr]
 obtain⟨w4,E4,D4,U4⟩:=ex4 B3 (.bool false) (.slice none 0 0) (.bool false) (.slice none 0 0);rw [E4];have C4:=U4.chg (NoU.mk B3 (by decide));replace D2:=C4.blk D2 (by omega);replace hE:=C4.ext hE (by omega);refine wpList_plain rfl (fun K hK=>?_);go_simp;refine hK _ _ ?_;clear hK K;try simp only [nr]
 refine wpList_nil ?_;obtain⟨x0,x1,x2,x3,x4,x5,-⟩:=cells6 D2;obtain⟨z0,z1,z2,z3,-⟩:=cells4 D4;clear y0 y1 y2 y3 y4 y5 y6 y7 o0 o1 o2 o3 o4 o5 E4;go_wp2;refine bodyPost_ret (v:=.tuple #[.agg #[.slice A5 m c5,.slice A6 m c6,.slice A7 m c7,.slice AQ n cq,.slice AV m cv,.func (.func 104) #[] #[.pointer (some ⟨gq,0,none⟩),.pointer (some ⟨gl,0,none⟩)]],nilRat,.int .i64 2]) ?_ rfl ?_
 ·simp [results,x0,x1,x2,x3,x4,x5,z0,z1,z2,z3,go_sem,nilRat]
 ·exact⟨_,rfl,⟨_,_,_,_,_,_,_,_,_,_,_,_,_,_,_,_,_,_,rfl⟩,hE⟩
set_option maxRecDepth 100000 in
theorem sn_tested_deg {N lo hi lo2 hi2:Nat} {w:World} {v1 v2 v3 u:Value} {m n:Nat} {X:Nat→Nat→Rat} {y p:Nat→Rat} {dl:Rat} (h1:MtV N lo hi w v1 m n X) (h2:LsV N lo2 hi2 w v2 m y) (h3:LsV N lo2 hi2 w v3 m p) (hx:RatV N w u dl) (d:Md m n X y p) (hr:Reg n (nmat X p m)) (hzd:Sz dl) (z:Int) (hz:inB m z=true) (hd:0 < dl) (h0:rS m n X p z.toNat=0) :
  Calls Tryz.prog 86 #[.agg #[v1,v2,v3],.int .i64 z,u] w (RetTs w 13):=by
 have HB:=Lib.hid hz;obtain⟨sg,hsg⟩:=hid_eq dl.num.sign;have t1:decide (sg≤0)=false:=by rw [hsg.out]; exact sign_gt0 hd
 obtain⟨q,hQ⟩:=hid_eq (rS m n X p z.toNat);obtain⟨sq,hsq⟩:=hid_eq q.num.sign;have t2:(sq == 0)=true:=by rw [hsq.out,hQ.out,h0]; rfl
 have HQZ:Hid (Sz q):=by rw [Hid,hQ.out]; exact (d.r_ht _ (inB_true hz).2).sz (by omega)
 clear hz hd h0;have HD:=Lib.hid d;have HG:=Lib.hid hr;have hN:=h1.le;have hm0:=d.m0;have hm7:=d.m7;have hn0:=d.n0;have hn4:=d.n4;have hI1:=h1;have hI2:=h2;have hI3:=h3;obtain⟨A1,c1,rfl,hmc,hcm⟩:=h1.form;obtain⟨A2,c2,rfl,hmc2,hcm2⟩:=h2.form;obtain⟨A3,c3,rfl,hmc3,hcm3⟩:=h3.form;unfold maxLen at hcm hcm2 hcm3;clear h1 h2 h3 d hr;have HZD:=Lib.hid hzd;have hIx:=hx;obtain⟨b9,Q1,k1,l1,Q2,k2,l2,rfl,hb9,gx1,gx2⟩:=RatV.parts hx;clear hx hzd;go_enter Tryz.func86,Tryz.ntmps86;go_upto_region 1 with (fail);refine boxes4 ?_;intro W hE hsz B0 B1 B2 B3;obtain⟨a0,a1,a2,-⟩:=cells3 B0;obtain⟨d0,d1,d2,d3,-⟩:=cells4 B1;go_wp2_with (go_at_call 60; refine Hid.out ?_);refine boxesC1 ?_;intro W1 f1 hsz1 BS;replace hE:=hE.trans f1;replace B1:=f1.block B1;replace B2:=f1.block B2;replace B3:=f1.block B3;refine (sn_solve (hI1.ext hE) (hI2.ext hE) (hI3.ext hE) (one_rat (by have:=hE.size; omega) BS hb9 (gx1.ext hE) (gx2.ext hE)) HD.out (fun i _=>szd_raw HZD.out) (allB_true.2 fun _ _=>okR_raw _) HG.out).mono ?_;rintro e w1 ⟨v,rfl,hS,e1⟩;replace hE:=hE.trans e1;replace B1:=e1.block B1;replace B2:=e1.block B2;replace B3:=e1.block B3;have hl2:=blk_lt B2;have hl3:=blk_lt B3;clear a0 a1 a2 d0 d1 d2 d3 BS f1 e1;obtain⟨A5,c5,A6,c6,A7,c7,AQ,cq,AV,cv,gq,gl,hv6,-⟩:=id hS;subst hv6;go_upto_region 2 with (fail);refine boxes1 ?_;intro w2 e2 hsz2 B6;replace hS:=hS.ext e2;obtain⟨g6,hg6⟩:∃ g6,g6=w1.heap.size:=⟨_,rfl⟩
 rw [←hg6] at B6 ⊢;have hw1:w1.heap.size≤g6:=by omega
 replace hE:=hE.trans e2;replace B1:=e2.block B1;replace B2:=e2.block B2;replace B3:=e2.block B3;clear e2 hsz2 hg6;obtain⟨o0,o1,o2,o3,o4,o5,-⟩:=cells6 B6;go_wp2_with (go_at_call 61; refine Hid.out ?_);refine (sn_has hS hm7 _).mono ?_;rw [HB.out];rintro e w3 ⟨rfl,e3⟩;replace B1:=e3.block B1;replace B2:=e3.block B2;replace B3:=e3.block B3;replace B6:=e3.block B6;replace hS:=hS.ext e3;replace hE:=hE.trans e3;clear o0 o1 o2 o3 o4 o5 e3;obtain⟨o0,o1,o2,o3,o4,o5,-⟩:=cells6 B6;obtain⟨d0,d1,d2,d3,-⟩:=cells4 B1;go_wp2_with (go_at_call 124; refine Hid.out ?_);refine (f_sign (hIx.ext hE) HZD.out).mono ?_;rw [←hsg.out];rintro e w9 ⟨rfl,e9⟩;clear d0 d1 d2 d3;replace B1:=e9.block B1;replace B2:=e9.block B2;replace B3:=e9.block B3;replace B6:=e9.block B6;replace hS:=hS.ext e9;replace hE:=hE.trans e9;clear o0 o1 o2 o3 o4 o5 e9;obtain⟨o0,o1,o2,o3,o4,o5,-⟩:=cells6 B6;clear hIx gx1 gx2;obtain⟨A5',c5',A6',c6',A7',c7',AQ',cq',AV',cv',gq',gl',hv,b1,b2,k1,k2,k3,k4,k5⟩:=id hS;simp only [Value.agg.injEq,Array.mk.injEq,List.cons.injEq,Value.slice.injEq,Value.func.injEq,Value.pointer.injEq,Option.some.injEq,Addr.mk.injEq,and_true,true_and] at hv;obtain⟨⟨rfl,rfl⟩,⟨rfl,rfl⟩,⟨rfl,rfl⟩,⟨rfl,rfl⟩,⟨rfl,rfl⟩,rfl,rfl⟩:=hv;go_wp2_with (go_at_call 104; refine Hid.out ?_);refine (sn_redund b1 b2 k1 k3 k4 HD.out (inB_true HB.out).1 (inB_true HB.out).2).mono ?_;rw [←hQ.out];intro e w10 hh;obtain⟨nb,A9,n9,c9,A8,n8,c8,rfl,hnb,g9,g8,e10⟩:=hh.form
 clear b1 b2 k1 k2 k3 k4 k5;replace B1:=e10.block B1;replace B2:=e10.block B2;replace B3:=e10.block B3;replace B6:=e10.block B6;replace hS:=hS.ext e10;replace hE:=hE.trans e10;clear o0 o1 o2 o3 o4 o5 e10;obtain⟨o0,o1,o2,o3,o4,o5,-⟩:=cells6 B6;go_upto_region 7 with (fail);refine boxes1 ?_;intro w11 e11 hsz11 B11;have hR:=RatV.mk hnb (g9.ext e11) (g8.ext e11);clear g9 g8;obtain⟨g11,hg11⟩:∃ g11,g11=w10.heap.size:=⟨_,rfl⟩
 have hlg:g6 < g11:=by have:=blk_lt B6; omega
 rw [←hg11] at B11 ⊢;clear hg11 hsz11;replace B1:=e11.block B1;replace B2:=e11.block B2;replace B3:=e11.block B3;replace B6:=e11.block B6;replace hS:=hS.ext e11;replace hE:=hE.trans e11;clear o0 o1 o2 o3 o4 o5 e11;obtain⟨o0,o1,o2,o3,o4,o5,-⟩:=cells6 B6;obtain⟨r0,r1,r2,r3,-⟩:=cells4 B11;go_wp2_with (go_at_call 124; refine Hid.out ?_);refine (f_sign hR HQZ.out).mono ?_;rw [←hsq.out];rintro e w12 ⟨rfl,e12⟩;replace B11:=e12.block B11;replace hR:=hR.ext e12;clear r0 r1 r2 r3;replace B1:=e12.block B1;replace B2:=e12.block B2;replace B3:=e12.block B3;replace B6:=e12.block B6;replace hS:=hS.ext e12;replace hE:=hE.trans e12;clear o0 o1 o2 o3 o4 o5 e12;obtain⟨o0,o1,o2,o3,o4,o5,-⟩:=cells6 B6;clear o0 o1 o2 o3 o4 o5;obtain⟨o0,o1,o2,o3,o4,o5,-⟩:=cells6 B6;go_upto_region 8 with (fail);refine wp_region_lit ?_;refine wpList_plain rfl (fun K hK=>?_);go_simp;refine hK _ _ ?_;clear hK K;try simp only [nr]
 refine wpList_plain rfl (fun K hK=>?_);go_simp;refine hK _ _ ?_;clear hK K;try simp only [nr]
 refine wpList_store_blk rfl 94 _ _ rfl (by rfl) (by rfl) B2 info_slv (by rfl) (by rfl) (by rfl) ?_;try simp only [nr]
 intro w3 D2 U2;have C2:=U2.chg (NoU.mk B2 (by decide));replace B3:=C2.blk B3 (by omega);replace hE:=C2.ext hE (by omega);obtain⟨y0,y1,y2,y3,y4,y5,y6,y7⟩:=cells4 B3;refine wpList_plain rfl (fun K hK=>?_);go_simp;refine hK _ _ ?_;clear hK K;try simp only [nr]
 obtain⟨w4,E4,D4,U4⟩:=ex4 B3 (.bool false) (.slice none 0 0) (.bool false) (.slice none 0 0);rw [E4];have C4:=U4.chg (NoU.mk B3 (by decide));replace D2:=C4.blk D2 (by omega);replace hE:=C4.ext hE (by omega);refine wpList_plain rfl (fun K hK=>?_);go_simp;refine hK _ _ ?_;clear hK K;try simp only [nr]
 refine wpList_nil ?_;obtain⟨x0,x1,x2,x3,x4,x5,-⟩:=cells6 D2;obtain⟨z0,z1,z2,z3,-⟩:=cells4 D4;clear y0 y1 y2 y3 y4 y5 y6 y7 o0 o1 o2 o3 o4 o5 E4;go_wp2;refine bodyPost_ret (v:=.tuple #[.agg #[.slice A5 m c5,.slice A6 m c6,.slice A7 m c7,.slice AQ n cq,.slice AV m cv,.func (.func 104) #[] #[.pointer (some ⟨gq,0,none⟩),.pointer (some ⟨gl,0,none⟩)]],nilRat,.int .i64 13]) ?_ rfl ?_
 ·simp [results,x0,x1,x2,x3,x4,x5,z0,z1,z2,z3,go_sem,nilRat]
 ·exact⟨_,rfl,⟨_,_,_,_,_,_,_,_,_,_,_,_,_,_,_,_,_,_,rfl⟩,hE⟩
set_option maxRecDepth 100000 in
theorem sn_Detectable_bad {N lo hi:Nat} {w:World} {v u:Value} {Z:Lin} {R:Raw} (h:LinV N lo hi w v Z) (hx:RawV N w u R) (hf:few34 7 4 Z=true) (hsx:RawSz R) (hc:code38 Z 1 (fun _=>R)≠0) (z:Int) :
  Calls Tryz.prog 42 #[v,.int .i64 z,u] w (RetV w (.tuple #[nilRat,.int .i64 (code38 Z 1 (fun _=>R))])):=by
 have HI:=Lib.hid hc;have HFF:=Lib.hid hf;have HSZ:=Lib.hid hsx;obtain⟨r,hr⟩:=hid_eq (code38 Z 1 (fun _=>R));have hr0:(r == 0)=false:=by rw [hr.out]; simpa using hc
 have hr1:(r != 0)=true:=by simpa using hr0
 rw [←hr.out];have hI:=h;have hIx:=hx;obtain⟨A1,c1,A2,c2,A3,c3,rfl,-⟩:=h.parts;obtain⟨Q1,k1,l1,Q2,k2,l2,rfl,-⟩:=hx.parts;clear h hc hf hx hsx;go_enter Tryz.func42,Tryz.ntmps42;go_upto_region 1 with (fail);refine boxes3 ?_;intro W hE hsz B0 B1 B4;obtain⟨a0,a1,a2,-⟩:=cells3 B0;obtain⟨d0,d1,d2,d3,-⟩:=cells4 B1;go_wp2_with (go_at_call 86; refine Hid.out ?_);refine (sn_tested_bad (hI.ext hE) (hIx.ext hE) HFF.out HSZ.out HI.out _).mono ?_;rintro e w1 ⟨rfl,e1⟩;unfold nilSlv nilRat;rw [←hr.out];replace hE:=hE.trans e1;replace B4:=e1.block B4;clear a0 a1 a2 d0 d1 d2 d3 e1;go_upto_region 2 with (fail);refine boxes2 ?_;intro w2 e2 hsz2 B8 B9;replace hE:=hE.trans e2;replace B4:=e2.block B4;obtain⟨y0,y1,y2,y3,y4,y5,y6,y7⟩:=cells4 B4;go_wp2;refine fin_nilT (x:=.int .i64 r) (by rfl) (by rfl) (by rfl) (by rfl) hE B4 (by omega)
set_option maxRecDepth 100000 in
theorem sn_Reach_bad {N lo hi:Nat} {w:World} {v u:Value} {Z:Lin} {R:Raw} (h:LinV N lo hi w v Z) (hx:RawV N w u R) (hf:few34 7 4 Z=true) (hsx:RawSz R) (hc:code38 Z 1 (fun _=>R)≠0) (z:Int) :
  Calls Tryz.prog 44 #[v,.int .i64 z,u] w (RetV w (.tuple #[nilRat,.int .i64 (code38 Z 1 (fun _=>R))])):=by
 have HI:=Lib.hid hc;have HFF:=Lib.hid hf;have HSZ:=Lib.hid hsx;obtain⟨r,hr⟩:=hid_eq (code38 Z 1 (fun _=>R));have hr0:(r == 0)=false:=by rw [hr.out]; simpa using hc
 have hr1:(r != 0)=true:=by simpa using hr0
 rw [←hr.out];have hI:=h;have hIx:=hx;obtain⟨A1,c1,A2,c2,A3,c3,rfl,-⟩:=h.parts;obtain⟨Q1,k1,l1,Q2,k2,l2,rfl,-⟩:=hx.parts;clear h hc hf hx hsx;go_enter Tryz.func44,Tryz.ntmps44;go_upto_region 1 with (fail);refine boxes3 ?_;intro W hE hsz B0 B1 B4;obtain⟨a0,a1,a2,-⟩:=cells3 B0;obtain⟨d0,d1,d2,d3,-⟩:=cells4 B1;go_wp2_with (go_at_call 86; refine Hid.out ?_);refine (sn_tested_bad (hI.ext hE) (hIx.ext hE) HFF.out HSZ.out HI.out _).mono ?_;rintro e w1 ⟨rfl,e1⟩;unfold nilSlv nilRat;rw [←hr.out];replace hE:=hE.trans e1;replace B4:=e1.block B4;clear a0 a1 a2 d0 d1 d2 d3 e1;go_upto_region 2 with (fail);refine boxes2 ?_;intro w2 e2 hsz2 B8 B9;replace hE:=hE.trans e2;replace B4:=e2.block B4;obtain⟨y0,y1,y2,y3,y4,y5,y6,y7⟩:=cells4 B4;go_wp2;refine fin_nilT (x:=.int .i64 r) (by rfl) (by rfl) (by rfl) (by rfl) hE B4 (by omega)
set_option maxRecDepth 100000 in
theorem sn_Detectable_out {N lo hi lo2 hi2:Nat} {w:World} {v1 v2 v3 u:Value} {m n:Nat} {X:Nat→Nat→Rat} {y p:Nat→Rat} {dl:Rat} (h1:MtV N lo hi w v1 m n X) (h2:LsV N lo2 hi2 w v2 m y) (h3:LsV N lo2 hi2 w v3 m p) (hx:RatV N w u dl) (d:Md m n X y p) (hr:Reg n (nmat X p m)) (hzd:Sz dl) (z:Int) (hz:inB m z=false) :
  Calls Tryz.prog 42 #[.agg #[v1,v2,v3],.int .i64 z,u] w (RetV w (.tuple #[nilRat,.int .i64 2])):=by
 have HT:Hid (∀ W,Ext w W→Calls Tryz.prog 86 #[.agg #[v1,v2,v3],.int .i64 z,u] W (RetTs W 2)):=fun W e=>sn_tested_out (h1.ext e) (h2.ext e) (h3.ext e) (hx.ext e) d hr hzd z hz
 obtain⟨A1,c1,rfl,-⟩:=h1.form;obtain⟨A2,c2,rfl,-⟩:=h2.form;obtain⟨A3,c3,rfl,-⟩:=h3.form;obtain⟨b9,Q1,k1,l1,Q2,k2,l2,rfl,-⟩:=RatV.parts hx;clear h1 h2 h3 hx d hr hzd;go_enter Tryz.func42,Tryz.ntmps42;go_upto_region 1 with (fail);refine boxes3 ?_;intro W hE hsz B0 B1 B4;obtain⟨a0,a1,a2,-⟩:=cells3 B0;obtain⟨d0,d1,d2,d3,-⟩:=cells4 B1;go_wp2_with (go_at_call 86; refine Hid.out ?_);refine (HT.out _ hE).mono ?_;rintro e w1 ⟨v,rfl,⟨E1,p1,q1,E2,p2,q2,E3,p3,q3,E4,p4,q4,E5,p5,q5,fn,f1,f2,rfl⟩,e1⟩;unfold nilRat;replace hE:=hE.trans e1;replace B4:=e1.block B4;clear a0 a1 a2 d0 d1 d2 d3 e1;go_upto_region 2 with (fail);refine boxes2 ?_;intro w2 e2 hsz2 B8 B9;replace hE:=hE.trans e2;replace B4:=e2.block B4;obtain⟨y0,y1,y2,y3,y4,y5,y6,y7⟩:=cells4 B4;go_wp2;refine fin_nilT (x:=.int .i64 2) (by rfl) (by rfl) (by rfl) (by rfl) hE B4 (by omega)
set_option maxRecDepth 100000 in
theorem sn_Detectable_neg {N lo hi lo2 hi2:Nat} {w:World} {v1 v2 v3 u:Value} {m n:Nat} {X:Nat→Nat→Rat} {y p:Nat→Rat} {dl:Rat} (h1:MtV N lo hi w v1 m n X) (h2:LsV N lo2 hi2 w v2 m y) (h3:LsV N lo2 hi2 w v3 m p) (hx:RatV N w u dl) (d:Md m n X y p) (hr:Reg n (nmat X p m)) (hzd:Sz dl) (z:Int) (hz:inB m z=true) (hd:dl≤0) :
  Calls Tryz.prog 42 #[.agg #[v1,v2,v3],.int .i64 z,u] w (RetV w (.tuple #[nilRat,.int .i64 2])):=by
 have HT:Hid (∀ W,Ext w W→Calls Tryz.prog 86 #[.agg #[v1,v2,v3],.int .i64 z,u] W (RetTs W 2)):=fun W e=>sn_tested_neg (h1.ext e) (h2.ext e) (h3.ext e) (hx.ext e) d hr hzd z hz hd
 obtain⟨A1,c1,rfl,-⟩:=h1.form;obtain⟨A2,c2,rfl,-⟩:=h2.form;obtain⟨A3,c3,rfl,-⟩:=h3.form;obtain⟨b9,Q1,k1,l1,Q2,k2,l2,rfl,-⟩:=RatV.parts hx;clear h1 h2 h3 hx d hr hzd;go_enter Tryz.func42,Tryz.ntmps42;go_upto_region 1 with (fail);refine boxes3 ?_;intro W hE hsz B0 B1 B4;obtain⟨a0,a1,a2,-⟩:=cells3 B0;obtain⟨d0,d1,d2,d3,-⟩:=cells4 B1;go_wp2_with (go_at_call 86; refine Hid.out ?_);refine (HT.out _ hE).mono ?_;rintro e w1 ⟨v,rfl,⟨E1,p1,q1,E2,p2,q2,E3,p3,q3,E4,p4,q4,E5,p5,q5,fn,f1,f2,rfl⟩,e1⟩;unfold nilRat;replace hE:=hE.trans e1;replace B4:=e1.block B4;clear a0 a1 a2 d0 d1 d2 d3 e1;go_upto_region 2 with (fail);refine boxes2 ?_;intro w2 e2 hsz2 B8 B9;replace hE:=hE.trans e2;replace B4:=e2.block B4;obtain⟨y0,y1,y2,y3,y4,y5,y6,y7⟩:=cells4 B4;go_wp2;refine fin_nilT (x:=.int .i64 2) (by rfl) (by rfl) (by rfl) (by rfl) hE B4 (by omega)
set_option maxRecDepth 100000 in
theorem sn_Detectable_deg {N lo hi lo2 hi2:Nat} {w:World} {v1 v2 v3 u:Value} {m n:Nat} {X:Nat→Nat→Rat} {y p:Nat→Rat} {dl:Rat} (h1:MtV N lo hi w v1 m n X) (h2:LsV N lo2 hi2 w v2 m y) (h3:LsV N lo2 hi2 w v3 m p) (hx:RatV N w u dl) (d:Md m n X y p) (hr:Reg n (nmat X p m)) (hzd:Sz dl) (z:Int) (hz:inB m z=true) (hd:0 < dl) (h0:rS m n X p z.toNat=0) :
  Calls Tryz.prog 42 #[.agg #[v1,v2,v3],.int .i64 z,u] w (RetV w (.tuple #[nilRat,.int .i64 13])):=by
 have HT:Hid (∀ W,Ext w W→Calls Tryz.prog 86 #[.agg #[v1,v2,v3],.int .i64 z,u] W (RetTs W 13)):=fun W e=>sn_tested_deg (h1.ext e) (h2.ext e) (h3.ext e) (hx.ext e) d hr hzd z hz hd h0
 obtain⟨A1,c1,rfl,-⟩:=h1.form;obtain⟨A2,c2,rfl,-⟩:=h2.form;obtain⟨A3,c3,rfl,-⟩:=h3.form;obtain⟨b9,Q1,k1,l1,Q2,k2,l2,rfl,-⟩:=RatV.parts hx;clear h1 h2 h3 hx d hr hzd;go_enter Tryz.func42,Tryz.ntmps42;go_upto_region 1 with (fail);refine boxes3 ?_;intro W hE hsz B0 B1 B4;obtain⟨a0,a1,a2,-⟩:=cells3 B0;obtain⟨d0,d1,d2,d3,-⟩:=cells4 B1;go_wp2_with (go_at_call 86; refine Hid.out ?_);refine (HT.out _ hE).mono ?_;rintro e w1 ⟨v,rfl,⟨E1,p1,q1,E2,p2,q2,E3,p3,q3,E4,p4,q4,E5,p5,q5,fn,f1,f2,rfl⟩,e1⟩;unfold nilRat;replace hE:=hE.trans e1;replace B4:=e1.block B4;clear a0 a1 a2 d0 d1 d2 d3 e1;go_upto_region 2 with (fail);refine boxes2 ?_;intro w2 e2 hsz2 B8 B9;replace hE:=hE.trans e2;replace B4:=e2.block B4;obtain⟨y0,y1,y2,y3,y4,y5,y6,y7⟩:=cells4 B4;go_wp2;refine fin_nilT (x:=.int .i64 13) (by rfl) (by rfl) (by rfl) (by rfl) hE B4 (by omega)
set_option maxRecDepth 100000 in
theorem sn_Reach_out {N lo hi lo2 hi2:Nat} {w:World} {v1 v2 v3 u:Value} {m n:Nat} {X:Nat→Nat→Rat} {y p:Nat→Rat} {dl:Rat} (h1:MtV N lo hi w v1 m n X) (h2:LsV N lo2 hi2 w v2 m y) (h3:LsV N lo2 hi2 w v3 m p) (hx:RatV N w u dl) (d:Md m n X y p) (hr:Reg n (nmat X p m)) (hzd:Sz dl) (z:Int) (hz:inB m z=false) :
  Calls Tryz.prog 44 #[.agg #[v1,v2,v3],.int .i64 z,u] w (RetV w (.tuple #[nilRat,.int .i64 2])):=by
 have HT:Hid (∀ W,Ext w W→Calls Tryz.prog 86 #[.agg #[v1,v2,v3],.int .i64 z,u] W (RetTs W 2)):=fun W e=>sn_tested_out (h1.ext e) (h2.ext e) (h3.ext e) (hx.ext e) d hr hzd z hz
 obtain⟨A1,c1,rfl,-⟩:=h1.form;obtain⟨A2,c2,rfl,-⟩:=h2.form;obtain⟨A3,c3,rfl,-⟩:=h3.form;obtain⟨b9,Q1,k1,l1,Q2,k2,l2,rfl,-⟩:=RatV.parts hx;clear h1 h2 h3 hx d hr hzd;go_enter Tryz.func44,Tryz.ntmps44;go_upto_region 1 with (fail);refine boxes3 ?_;intro W hE hsz B0 B1 B4;obtain⟨a0,a1,a2,-⟩:=cells3 B0;obtain⟨d0,d1,d2,d3,-⟩:=cells4 B1;go_wp2_with (go_at_call 86; refine Hid.out ?_);refine (HT.out _ hE).mono ?_;rintro e w1 ⟨v,rfl,⟨E1,p1,q1,E2,p2,q2,E3,p3,q3,E4,p4,q4,E5,p5,q5,fn,f1,f2,rfl⟩,e1⟩;unfold nilRat;replace hE:=hE.trans e1;replace B4:=e1.block B4;clear a0 a1 a2 d0 d1 d2 d3 e1;go_upto_region 2 with (fail);refine boxes2 ?_;intro w2 e2 hsz2 B8 B9;replace hE:=hE.trans e2;replace B4:=e2.block B4;obtain⟨y0,y1,y2,y3,y4,y5,y6,y7⟩:=cells4 B4;go_wp2;refine fin_nilT (x:=.int .i64 2) (by rfl) (by rfl) (by rfl) (by rfl) hE B4 (by omega)
set_option maxRecDepth 100000 in
theorem sn_Reach_neg {N lo hi lo2 hi2:Nat} {w:World} {v1 v2 v3 u:Value} {m n:Nat} {X:Nat→Nat→Rat} {y p:Nat→Rat} {dl:Rat} (h1:MtV N lo hi w v1 m n X) (h2:LsV N lo2 hi2 w v2 m y) (h3:LsV N lo2 hi2 w v3 m p) (hx:RatV N w u dl) (d:Md m n X y p) (hr:Reg n (nmat X p m)) (hzd:Sz dl) (z:Int) (hz:inB m z=true) (hd:dl≤0) :
  Calls Tryz.prog 44 #[.agg #[v1,v2,v3],.int .i64 z,u] w (RetV w (.tuple #[nilRat,.int .i64 2])):=by
 have HT:Hid (∀ W,Ext w W→Calls Tryz.prog 86 #[.agg #[v1,v2,v3],.int .i64 z,u] W (RetTs W 2)):=fun W e=>sn_tested_neg (h1.ext e) (h2.ext e) (h3.ext e) (hx.ext e) d hr hzd z hz hd
 obtain⟨A1,c1,rfl,-⟩:=h1.form;obtain⟨A2,c2,rfl,-⟩:=h2.form;obtain⟨A3,c3,rfl,-⟩:=h3.form;obtain⟨b9,Q1,k1,l1,Q2,k2,l2,rfl,-⟩:=RatV.parts hx;clear h1 h2 h3 hx d hr hzd;go_enter Tryz.func44,Tryz.ntmps44;go_upto_region 1 with (fail);refine boxes3 ?_;intro W hE hsz B0 B1 B4;obtain⟨a0,a1,a2,-⟩:=cells3 B0;obtain⟨d0,d1,d2,d3,-⟩:=cells4 B1;go_wp2_with (go_at_call 86; refine Hid.out ?_);refine (HT.out _ hE).mono ?_;rintro e w1 ⟨v,rfl,⟨E1,p1,q1,E2,p2,q2,E3,p3,q3,E4,p4,q4,E5,p5,q5,fn,f1,f2,rfl⟩,e1⟩;unfold nilRat;replace hE:=hE.trans e1;replace B4:=e1.block B4;clear a0 a1 a2 d0 d1 d2 d3 e1;go_upto_region 2 with (fail);refine boxes2 ?_;intro w2 e2 hsz2 B8 B9;replace hE:=hE.trans e2;replace B4:=e2.block B4;obtain⟨y0,y1,y2,y3,y4,y5,y6,y7⟩:=cells4 B4;go_wp2;refine fin_nilT (x:=.int .i64 2) (by rfl) (by rfl) (by rfl) (by rfl) hE B4 (by omega)
set_option maxRecDepth 100000 in
theorem sn_Reach_deg {N lo hi lo2 hi2:Nat} {w:World} {v1 v2 v3 u:Value} {m n:Nat} {X:Nat→Nat→Rat} {y p:Nat→Rat} {dl:Rat} (h1:MtV N lo hi w v1 m n X) (h2:LsV N lo2 hi2 w v2 m y) (h3:LsV N lo2 hi2 w v3 m p) (hx:RatV N w u dl) (d:Md m n X y p) (hr:Reg n (nmat X p m)) (hzd:Sz dl) (z:Int) (hz:inB m z=true) (hd:0 < dl) (h0:rS m n X p z.toNat=0) :
  Calls Tryz.prog 44 #[.agg #[v1,v2,v3],.int .i64 z,u] w (RetV w (.tuple #[nilRat,.int .i64 13])):=by
 have HT:Hid (∀ W,Ext w W→Calls Tryz.prog 86 #[.agg #[v1,v2,v3],.int .i64 z,u] W (RetTs W 13)):=fun W e=>sn_tested_deg (h1.ext e) (h2.ext e) (h3.ext e) (hx.ext e) d hr hzd z hz hd h0
 obtain⟨A1,c1,rfl,-⟩:=h1.form;obtain⟨A2,c2,rfl,-⟩:=h2.form;obtain⟨A3,c3,rfl,-⟩:=h3.form;obtain⟨b9,Q1,k1,l1,Q2,k2,l2,rfl,-⟩:=RatV.parts hx;clear h1 h2 h3 hx d hr hzd;go_enter Tryz.func44,Tryz.ntmps44;go_upto_region 1 with (fail);refine boxes3 ?_;intro W hE hsz B0 B1 B4;obtain⟨a0,a1,a2,-⟩:=cells3 B0;obtain⟨d0,d1,d2,d3,-⟩:=cells4 B1;go_wp2_with (go_at_call 86; refine Hid.out ?_);refine (HT.out _ hE).mono ?_;rintro e w1 ⟨v,rfl,⟨E1,p1,q1,E2,p2,q2,E3,p3,q3,E4,p4,q4,E5,p5,q5,fn,f1,f2,rfl⟩,e1⟩;unfold nilRat;replace hE:=hE.trans e1;replace B4:=e1.block B4;clear a0 a1 a2 d0 d1 d2 d3 e1;go_upto_region 2 with (fail);refine boxes2 ?_;intro w2 e2 hsz2 B8 B9;replace hE:=hE.trans e2;replace B4:=e2.block B4;obtain⟨y0,y1,y2,y3,y4,y5,y6,y7⟩:=cells4 B4;go_wp2;refine fin_nilT (x:=.int .i64 13) (by rfl) (by rfl) (by rfl) (by rfl) hE B4 (by omega)
end Go.Proofs.YthkkknjcoidioaaGreat
namespace Go.Proofs.YthkkknjcoidioaaGreat
open Go.RowKit Go.ChangeShapes Go.ChangeAt
theorem cells_lin:Tryz.prog.cellsOf 26=3:=by kernel_rfl
section
variable {H:Type} {enc:TypeId×Value→H} {w:World} {spare:Nat→Bool} {held:Bool}
instance:Inhabited Raw:=⟨⟨false,[],false,[]⟩⟩
end
end Go.Proofs.YthkkknjcoidioaaGreat
namespace Go.Proofs.YthkkknjcoidioaaGreat
open Go.RowKit Go.ChangeShapes Go.ChangeAt Go.WideShapes
theorem dgn_sz {R:Raw} (h:dgn R≤6):RawSz R:=by
 unfold dgn at h;exact⟨by omega,by omega⟩
section
variable {H:Type} {enc:TypeId×Value→H} {w:World} {spare:Nat→Bool} {held:Bool}
end
end Go.Proofs.YthkkknjcoidioaaGreat
namespace Go.Proofs.YthkkknjcoidioaaGreat
open Go.RowKit
def qfS (n:Nat) (M:Nat→Nat→Rat) (x:Nat→Rat) (a:Nat):Rat:=sum a (fun j=>x j*sum n (fun t=>M j t*x t))
set_option maxRecDepth 100000 in
theorem r5_form {N lo hi lo' hi':Nat} {w:World} {v v':Value} {n:Nat} {M:Nat→Nat→Rat} {x:Nat→Rat} (h:MtV N lo hi w v n n M) (h':LsV N lo' hi' w v' n x) (hn0:0 < n) (hn:n < 1000000)
  {k kx K:Nat} (hk:HtM n n k M) (hkx:HtL n kx x) (hK0:n*(k+kx+1)+1≤K) (hK1:n*(kx+K+1)+1≤29000000000) :
  Calls Tryz.prog 52 #[v,v'] w (RetR N w (qfS n M x n)):=by
 obtain⟨Rf,hRf⟩:=hid_eq (RetR N w (qfS n M x n));rw [←hRf.out];have hKm:K≤29000000000:=by have:=Nat.le_mul_of_pos_left (kx+K+1) hn0; omega
 have hA:HtL n K (fun j=>sum n (fun t=>M j t*x t)):=fun j hj=>sum_ht (n:=n) (k:=k+kx) (fun c hc=>(hk j hj c hc).mul (hkx c hc)) (Nat.le_refl _) hK0
 have HZS:Hid (∀ a,a≤n→Sz (qfS n M x a)):=fun a ha=>(sum_ht (n:=n) (k:=kx+K) (fun j hj=>(hkx j hj).mul (hA j hj)) ha hK1).sz (Nat.le_refl _)
 have HZ:Hid (∀ a,a < n→Sz (x a)∧Sz (sum n (fun t=>M a t*x t))∧Sz (x a*sum n (fun t=>M a t*x t))):=fun a ha=>⟨(hkx a ha).sz (by have:=Nat.le_mul_of_pos_left (kx+K+1) hn0; omega),(hA a ha).sz hKm,((hkx a ha).mul (hA a ha)).sz (by have:=Nat.le_mul_of_pos_left (kx+K+1) hn0; omega)⟩
 have HK:=Lib.hid hk;have HKX:=Lib.hid hkx;have HK0:Hid (n*(k+kx+1)+1≤29000000000):=Nat.le_trans hK0 hKm;have hN:=h.le;have hI1:=h;have hI2:=h';obtain⟨A1,c1,rfl,hmc,hcm⟩:=h.form;obtain⟨A2,c2,rfl,hmc2,hcm2⟩:=h'.form;clear h h' hk hkx hK0 hK1 hKm hA;go_enter Tryz.func52,Tryz.ntmps52;go_wp2_with (go_at_call 84; refine Hid.out ?_);refine boxesC1 ?_;intro W hE hsz B4;refine (r5_whole (N:=N) (by have:=hE.size; omega) 0 (by omega) (by omega)).mono ?_;intro e w1 hh;obtain⟨b3,A9,k9,c9,A10,k10,c10,rfl,hb3,g3,g4,e1⟩:=hh.form;replace hE:=hE.trans e1;replace B4:=e1.block B4;have hl4:=blk_lt B4;clear e1 hh hsz;go_upto_region 2 with (fail);refine boxes1 ?_;intro w2 e2 hsz2 B5;have HS0:Hid (((0:Int):Rat)=qfS n M x 0):=rfl;rw [HS0.out] at hb3 g3 g4;obtain⟨gx,hgx⟩:∃ gx,gx=w1.heap.size:=⟨_,rfl⟩
 rw [←hgx] at B5 hl4 ⊢;have hBx:BoxR N w2 gx (qfS n M x 0):=BoxR.mk B5 hb3 (g3.ext e2) (g4.ext e2);have hgx3:gx+1≤w2.heap.size:=by omega
 have hwgx:w.heap.size≤gx:=by have:=hE.size; omega
 replace hE:=hE.trans e2;replace B4:=e2.block B4;clear B5 g3 g4 hb3 hgx hsz2 e2;go_wp2_with (go_at_call 31; refine Hid.out ?_);refine (r5_apply (hI1.ext hE) (hI2.ext hE) hn hn0 hn HK.out HKX.out HK0.out).mono ?_;rintro e w3 ⟨A6,c6,rfl,h6,e3⟩;replace h6:LsV N w2.heap.size w3.heap.size w3 (.slice A6 n c6) n (fun j=>sum n (fun t=>M j t*x t)):=h6;replace hE:=hE.trans e3;replace B4:=e3.block B4;replace hBx:=hBx.ext e3;have hgx4:gx < w3.heap.size:=by have:=e3.size; omega
 clear e3;go_wp2
 go_loopw [7] (fun j wr=>∃ a:Nat,a≤n∧j=.int .i64 a∧Chg gx (gx+1) w3 wr∧gx < wr.heap.size∧BoxR N wr gx (qfS n M x a)) (fun j _=>n - (intOf j).toNat)
 case atStart=>exact⟨0,Nat.zero_le _,rfl,Chg.refl _ _ _,hgx4,hBx⟩
 case round =>
  clear hBx;obtain⟨a,ha,rfl,hCg,hszg,hBx⟩:=hrel;have hEr:=hCg.ext hE (by omega)
  by_cases hlt:a < n
  ·obtain⟨b6,off6,rfl,-,-,hx6⟩:=LsR.addr (h6.chg hCg (by omega) (.inr hgx3)) (by omega);obtain⟨n1,A7,k7,c7,A12,k12,c12,p0,p1,p2,p3,hb1,g1,g2⟩:=(hx6 a hlt).open;obtain⟨e0,off0,rfl,-,-,hx7⟩:=LsV.addr (hI2.ext hEr) (by omega);obtain⟨n5,A13,k13,c13,A14,k14,c14,q0,q1,q2,q3,hb5,g5,g6⟩:=(hx7 a hlt).open;obtain⟨b3,A9,k9,c9,A10,k10,c10,BS,hb3,g3,g4⟩:=hBx;have hRs:RatV N wr (.agg #[.bool b3,.slice A9 k9 c9,.bool false,.slice A10 k10 c10]) (qfS n M x a):=RatV.mk hb3 g3 g4;have hRt:RatV N wr (.agg #[.bool n1,.slice A7 k7 c7,.bool false,.slice A12 k12 c12]) (sum n (fun t=>M a t*x t)):=RatV.mk hb1 g1 g2;have hRq:RatV N wr (.agg #[.bool n5,.slice A13 k13 c13,.bool false,.slice A14 k14 c14]) (x a):=RatV.mk hb5 g5 g6;obtain⟨s0,s1,s2,s3,-⟩:=cells4 BS;obtain⟨hS1,hS2,hS3⟩:=HZ.out a hlt;have HS1:=Lib.hid hS1;have HS2:=Lib.hid hS2;have HS3:=Lib.hid hS3;have HS4:=Lib.hid (HZS.out a ha);have HNX:Hid (qfS n M x a+x a*sum n (fun t=>M a t*x t)=qfS n M x (a+1)):=rfl;clear hx6 hx7 hS1 hS2 hS3 g1 g2 g3 g4 g5 g6 hb1 hb3 hb5;go_upto_region 6 with (fail);refine regI [Mn.rat N (qfS n M x a),Mn.eq (.slice (some ⟨e0,off0,none⟩) n c2),Mn.eq (.int .i64 (a:Int)),Mn.eq (.pointer (some ⟨e0,off0+a*4,none⟩)),Mn.rat N (x a),Mn.eq (.slice (some ⟨b6,off6,none⟩) n c6),Mn.eq (.int .i64 (a:Int)),Mn.eq (.pointer (some ⟨b6,off6+a*4,none⟩)),Mn.rat N (sum n (fun t=>M a t*x t)),Mn.rat N (x a*sum n (fun t=>M a t*x t)),Mn.rat N (qfS n M x (a+1)),Mn.any] [some 18,some 19,some 20,some 21,some 22,some 23,some 24,some 25,some 26,some 27,some 28,none] [11] [true,true,true,true,true,true,true,true,true,true,true,false] 1 (by kernel_rfl) ?_ ?_
   ·show ∀ i,i < 12→_
    iterate 12 refine fs ?_ ?_
    ·exact fz
    all_goals intro hl
    all_goals first | exact absurd hl (by decide) | skip
    all_goals clear hl
    all_goals refine stp rfl ?_
    all_goals intro ac wi eI hB hA K hK
    have o5:=oOf (hB 5 (by kernel_rfl)) rfl;clear hB hA;have cc0:=eI.cell s0;have cc1:=eI.cell s1;have cc2:=eI.cell s2;have cc3:=eI.cell s3
    ·go_simp;exact hK.out _ _ (Ext.refl _) (hRs.ext eI)
    have o1:=oOf (hB 1 (by kernel_rfl)) rfl
    rotate_left
    have o7:=oOf (hB 7 (by kernel_rfl)) rfl
    rotate_left
    obtain⟨_,s19,rfl⟩:=hA 1 (by kernel_rfl) 19 rfl;obtain⟨_,s20,rfl⟩:=hA 2 (by kernel_rfl) 20 rfl
    rotate_left
    obtain⟨_,s21,rfl⟩:=hA 3 (by kernel_rfl) 21 rfl;clear hB hA;have cc0:=eI.cell q0;have cc1:=eI.cell q1;have cc2:=eI.cell q2;have cc3:=eI.cell q3
    ·go_simp;exact hK.out _ _ (Ext.refl _) (hRq.ext eI)
    have o6:=oOf (hB 6 (by kernel_rfl)) rfl
    rotate_left
    have o7:=oOf (hB 7 (by kernel_rfl)) rfl
    rotate_left
    obtain⟨_,s23,rfl⟩:=hA 5 (by kernel_rfl) 23 rfl;obtain⟨_,s24,rfl⟩:=hA 6 (by kernel_rfl) 24 rfl
    rotate_left
    obtain⟨_,s25,rfl⟩:=hA 7 (by kernel_rfl) 25 rfl;clear hB hA;have cc0:=eI.cell p0;have cc1:=eI.cell p1;have cc2:=eI.cell p2;have cc3:=eI.cell p3
    ·go_simp;exact hK.out _ _ (Ext.refl _) (hRt.ext eI)
    obtain⟨x22,s22,j22⟩:=hA 4 (by kernel_rfl) 22 rfl;replace j22:Mn.p (Mn.rat N (x a)) x22 wi:=j22;obtain⟨x26,s26,j26⟩:=hA 8 (by kernel_rfl) 26 rfl;replace j26:Mn.p (Mn.rat N (sum n (fun t=>M a t*x t))) x26 wi:=j26;clear hB hA
    ·go_simp;refine (r2_mul j22 j26 HS1.out HS2.out).mono ?_;rintro e wj ⟨vj,rfl,hj,ej⟩;go_wp2_with fail;exact hK.out _ _ ej hj
    obtain⟨x18,s18,j18⟩:=hA 0 (by kernel_rfl) 18 rfl;replace j18:Mn.p (Mn.rat N (qfS n M x a)) x18 wi:=j18;obtain⟨x27,s27,j27⟩:=hA 9 (by kernel_rfl) 27 rfl;replace j27:Mn.p (Mn.rat N (x a*sum n (fun t=>M a t*x t))) x27 wi:=j27;clear hB hA
    ·go_simp;refine (r2_add j18 j27 HS4.out HS3.out).mono ?_;rw [HNX.out];rintro e wj ⟨vj,rfl,hj,ej⟩;go_wp2_with fail;exact hK.out _ _ ej hj
    all_goals clear hB hA
    all_goals go_simp
    all_goals exact hK.out _ _ (Ext.refl _) rfl
   intro vals wz eZ hJ;have J28:Mn.p (Mn.rat N (qfS n M x (a+1))) (vals 10) wz:=hJ 10 (by decide) (by decide);clear hJ;simp only [pr,Nat.reduceAdd]
   generalize vals 10=z28 at J28 ⊢
   obtain⟨bz,Az,kz,cz,Az',kz',cz',rfl,hbz,gz1,gz2⟩:=RatV.parts J28;have D0:=eZ.block BS;obtain⟨u0,u1,u2,u3,u4,u5,u6,u7⟩:=cells4 D0;refine stepL_late (i:=11) rfl (by kernel_rfl) (by kernel_rfl) (fun K hK=>?_);go_simp;refine hK.out _ _ ?_;clear hK K;try simp only [nr]
   refine stepL_done (by kernel_rfl) ?_ _;obtain⟨w9,E9,hB9,K9,hs9⟩:=boxSet (q:=qfS n M x (a+1)) D0 (by omega) hbz gz1 gz2;rw [E9];have hC9:=(hCg.trans (eZ.chg _ _)).trans K9;have hs10:gx < w9.heap.size:=by have:=eZ.size; omega
   clear E9 K9 D0 s0 s1 s2 s3 u0 u1 u2 u3 u4 u5 u6 u7 BS gz1 gz2 hbz q0 q1 q2 q3 p0 p1 p2 p3;go_wp2;go_roundw
   case rel=>exact⟨a+1,by omega,by go_num,hC9,hs10,hB9⟩
   case measure=>simp [intOf]; omega
  ·obtain rfl:a=n:=by omega
   obtain⟨b3,A9,k9,c9,A10,k10,c10,BS,hb3,g3,g4⟩:=hBx;obtain⟨s0,s1,s2,s3,-⟩:=cells4 BS;have B4r:=hCg.blk B4 (.inl hl4);obtain⟨u0,u1,u2,u3,u4,u5,u6,u7⟩:=cells4 B4r;go_wp2;rw [hRf.out];exact fin_rat rfl rfl rfl hEr B4r (by omega) hN g3 g4 hb3
def Mn.raws (N:Nat) (R:Raw):Mn:=⟨fun v w=>LsR N 0 w.heap.size w v 1 (fun _=>R),fun e h=>LsR.wide (h.ext e) (Nat.le_refl _) e.size (Nat.le_refl _)⟩
def Mn.rbl (N:Nat) (q:Rat):Mn:=⟨fun v w=>∃ g,v=.slice (some ⟨g,0,none⟩) 1 1∧BoxR N w g q,fun e h=>by
  obtain⟨g,h0,h1⟩:=h
  exact⟨g,h0,h1.ext e⟩⟩
theorem reach_eq {m n:Nat} {X:Nat→Nat→Rat} {y p:Nat→Rat} {dl:Rat} (d:Md m n X y p) (hr:Reg n (nmat X p m)) {i:Nat} (hi:i < m) (h0:rS m n X p i≠0) :
  dl*(1 - rS m n X p i) / rS m n X p i=dl / (p i*rS m n X p i)*qfS n (nmat X p m) (fun k=>p i*gS m n X p i k) n:=by
 have h1:qfS n (nmat X p m) (fun k=>p i*gS m n X p i k) n=p i*(1 - rS m n X p i):=by
  rw [rS_rdn,←(d.inv2 hr).form (i:=i)];unfold qfS;refine sum_congr fun j _=>?_
  have h2:sum n (fun t=>nmat X p m j t*(p i*gS m n X p i t))=sum n (fun t=>nm m X p j t*ext n X (qS m n X p) p i t):=sum_congr fun t _=>by rw [nmat_nm5]; rfl
  rw [h2]; rfl
 have hp:=d.pos i hi;rw [h1];have hp0:p i≠0:=fun e=>by rw [e] at hp; exact absurd hp (by decide)
 rw [Rat.div_def,Rat.div_def,Rat.inv_mul_rev];have h3:=Rat.mul_inv_cancel _ hp0
 grind
set_option maxRecDepth 100000 in
theorem reli_out {N lo hi:Nat} {w:World} {v u:Value} {Z:Lin} {R:Raw} (h:LinV N lo hi w v Z) (hx:RawV N w u R) (hsx:RawL R) (z:Int) (hs:few34 7 4 Z=false∨(few34 7 4 Z=true∧6 < dgn R)) :
  Calls Tryz.prog 7 #[v,.int .i64 z,u] w (RetV w (.bool true)):=by
 have hI:=h;have hIx:=hx;have HSX:=Lib.hid hsx;obtain⟨A1,c1,A2,c2,A3,c3,rfl,-⟩:=h.parts;obtain⟨Q1,k1,l1,Q2,k2,l2,rfl,gx1,gx2⟩:=hx.parts
 rcases hs with hs | ⟨hf,hd⟩
 ·have HS:=Lib.hid hs;clear h hs hx hsx;go_enter Tryz.func7,Tryz.ntmps7;go_wp2_with (go_at_call 10; refine Hid.out ?_);refine boxesC2 ?_;intro W hE hsz B0 B1;refine (l38_known W).mono ?_;rintro e w1 ⟨rfl,e1⟩;replace hE:=hE.trans e1;replace B0:=e1.block B0;replace B1:=e1.block B1;replace hsz:=blk_lt B1;clear e1;obtain⟨a0,a1,a2,-⟩:=cells3 B0;obtain⟨b0,b1,b2,b3,-⟩:=cells4 B1;go_wp2_with (go_at_call 11; refine Hid.out ?_);refine (l38_few (hI.ext hE)).mono ?_;rintro e w2 ⟨rfl,e2⟩;rw [HS.out];replace hE:=hE.trans e2;replace B0:=e2.block B0;replace B1:=e2.block B1;replace hsz:=blk_lt B1;clear a0 a1 a2 b0 b1 b2 b3;obtain⟨a0,a1,a2,-⟩:=cells3 B0;obtain⟨b0,b1,b2,b3,-⟩:=cells4 B1;clear e2;go_wp2;go_ret;exact⟨rfl,hE⟩
 ·have HF:=Lib.hid hf;obtain⟨dz,hdz⟩:=hid_eq ((R.l1.length+R.l2.length:Nat):Int);have hd1:6 < dz:=by rw [hdz.out]; unfold dgn at hd; omega
  have hd2:decide (6 < dz)=true:=decide_eq_true hd1;clear h hf hd hx hsx;go_enter Tryz.func7,Tryz.ntmps7;go_wp2_with (go_at_call 10; refine Hid.out ?_);refine boxesC2 ?_;intro W hE hsz B0 B1;refine (l38_known W).mono ?_;rintro e w1 ⟨rfl,e1⟩;replace hE:=hE.trans e1;replace B0:=e1.block B0;replace B1:=e1.block B1;replace hsz:=blk_lt B1;clear e1;obtain⟨a0,a1,a2,-⟩:=cells3 B0;obtain⟨b0,b1,b2,b3,-⟩:=cells4 B1;go_wp2_with (go_at_call 11; refine Hid.out ?_);refine (l38_few (hI.ext hE)).mono ?_;rintro e w2 ⟨rfl,e2⟩;rw [HF.out];replace hE:=hE.trans e2;replace B0:=e2.block B0;replace B1:=e2.block B1;replace hsz:=blk_lt B1;clear a0 a1 a2 b0 b1 b2 b3;obtain⟨a0,a1,a2,-⟩:=cells3 B0;obtain⟨b0,b1,b2,b3,-⟩:=cells4 B1;clear e2;go_wp2_with (go_at_call 21; refine Hid.out ?_);refine (r2_digitsN (hIx.ext hE) HSX.out).mono ?_;rintro e w5 ⟨rfl,e5⟩;rw [←hdz.out];replace hE:=hE.trans e5;replace B0:=e5.block B0;replace B1:=e5.block B1;replace hsz:=blk_lt B1;clear a0 a1 a2 b0 b1 b2 b3;obtain⟨a0,a1,a2,-⟩:=cells3 B0;obtain⟨b0,b1,b2,b3,-⟩:=cells4 B1;clear e5;go_wp2;go_ret;exact⟨rfl,hE⟩
set_option maxRecDepth 100000 in
theorem reli_bad {N lo hi:Nat} {w:World} {v u:Value} {Z:Lin} {R:Raw} (h:LinV N lo hi w v Z) (hx:RawV N w u R) (hsx:RawL R) (z:Int) (hf:few34 7 4 Z=true) (hd:dgn R≤6) (hc:code38 Z 0 (fun _=>raw 0)≠0) (hc1:code38 Z 1 (fun _=>R)≠0) :
  Calls Tryz.prog 7 #[v,.int .i64 z,u] w (RetV w (.bool true)):=by
 have hI:=h;have hN:N≤w.heap.size:=hx.le;have hIx:=hx;have HF:=Lib.hid hf;have HSX:=Lib.hid hsx;obtain⟨dz,hdz⟩:=hid_eq ((R.l1.length+R.l2.length:Nat):Int);have HS6:=Lib.hid (dgn_sz hd);have hd1:¬ 6 < dz:=by rw [hdz.out]; unfold dgn at hd; omega
 have hd2:decide (6 < dz)=false:=decide_eq_false hd1;obtain⟨f0,hf0⟩:=hid_eq (code38 Z 0 (fun _=>raw 0));have t0:(f0 == 0)=false:=by rw [hf0.out]; simpa using hc
 obtain⟨f1,hf1⟩:=hid_eq (code38 Z 1 (fun _=>R));have t1:(f1 == 0)=false:=by rw [hf1.out]; simpa using hc1
 have t2:(f1 != 0)=true:=by simpa using t1
 have t3:(f0 != 0)=true:=by simpa using t0
 have HC0:=Lib.hid hc;have HC1:=Lib.hid hc1;obtain⟨A1,c1,A2,c2,A3,c3,rfl,-⟩:=h.parts;obtain⟨Q1,k1,l1,Q2,k2,l2,rfl,gx1,gx2⟩:=hx.parts;clear h hf hx hsx hd hc hc1;go_enter Tryz.func7,Tryz.ntmps7;go_wp2_with (go_at_call 10; refine Hid.out ?_);refine boxesC2 ?_;intro W hE hsz B0 B1;refine (l38_known W).mono ?_;rintro e w1 ⟨rfl,e1⟩;replace hE:=hE.trans e1;replace B0:=e1.block B0;replace B1:=e1.block B1;replace hsz:=blk_lt B1;clear e1;obtain⟨a0,a1,a2,-⟩:=cells3 B0;obtain⟨b0,b1,b2,b3,-⟩:=cells4 B1;go_wp2_with (go_at_call 11; refine Hid.out ?_);refine (l38_few (hI.ext hE)).mono ?_;rintro e w2 ⟨rfl,e2⟩;rw [HF.out];replace hE:=hE.trans e2;replace B0:=e2.block B0;replace B1:=e2.block B1;replace hsz:=blk_lt B1;clear a0 a1 a2 b0 b1 b2 b3;obtain⟨a0,a1,a2,-⟩:=cells3 B0;obtain⟨b0,b1,b2,b3,-⟩:=cells4 B1;clear e2;go_wp2_with (go_at_call 21; refine Hid.out ?_);refine (r2_digitsN (hIx.ext hE) HSX.out).mono ?_;rintro e w5 ⟨rfl,e5⟩;rw [←hdz.out];replace hE:=hE.trans e5;replace B0:=e5.block B0;replace B1:=e5.block B1;replace hsz:=blk_lt B1;clear a0 a1 a2 b0 b1 b2 b3;obtain⟨a0,a1,a2,-⟩:=cells3 B0;obtain⟨b0,b1,b2,b3,-⟩:=cells4 B1;clear e5;go_wp2_with (go_at_call 42; refine Hid.out ?_);refine (sn_Detectable_bad (hI.ext hE) (hIx.ext hE) HF.out HS6.out HC1.out _).mono ?_;rintro e w6 ⟨rfl,e6⟩;unfold nilRat;rw [←hf1.out]
 (first | replace BM:=e6.block BM | replace BM:=BoxR.ext BM e6 | replace BM:=BX.ext BM e6 | skip)
 (try replace hEx:=LsV.all (hEx.ext e6))
 replace hE:=hE.trans e6;replace B0:=e6.block B0;replace B1:=e6.block B1;replace hsz:=blk_lt B1;clear a0 a1 a2 b0 b1 b2 b3;obtain⟨a0,a1,a2,-⟩:=cells3 B0;obtain⟨b0,b1,b2,b3,-⟩:=cells4 B1;clear e6;go_upto_region 6 with (fail);refine boxes1 ?_;intro w7 e7 hsz7 BM;obtain⟨gBM,hgBM⟩:∃ gBM,gBM=w6.heap.size:=⟨_,rfl⟩
 rw [←hgBM] at BM ⊢
 (first | replace BM:=e7.block BM | replace BM:=BoxR.ext BM e7 | replace BM:=BX.ext BM e7 | skip)
 (try replace hEx:=LsV.all (hEx.ext e7))
 replace hE:=hE.trans e7;replace B0:=e7.block B0;replace B1:=e7.block B1;replace hsz:=blk_lt B1;clear a0 a1 a2 b0 b1 b2 b3;obtain⟨a0,a1,a2,-⟩:=cells3 B0;obtain⟨b0,b1,b2,b3,-⟩:=cells4 B1;clear e7 hsz7 hgBM;go_wp2_with (go_at_call 43; refine Hid.out ?_);refine (sn_External_bad (hI.ext hE) HF.out HC0.out _).mono ?_;rintro e w8 ⟨rfl,e8⟩;rw [←hf0.out]
 first | replace BM:=e8.block BM | replace BM:=BoxR.ext BM e8 | replace BM:=BX.ext BM e8
 replace hE:=hE.trans e8;replace B0:=e8.block B0;replace B1:=e8.block B1;replace hsz:=blk_lt B1;clear a0 a1 a2 b0 b1 b2 b3;obtain⟨a0,a1,a2,-⟩:=cells3 B0;obtain⟨b0,b1,b2,b3,-⟩:=cells4 B1;clear e8;go_wp2_with (go_at_call 44; refine Hid.out ?_);refine (sn_Reach_bad (hI.ext hE) (hIx.ext hE) HF.out HS6.out HC1.out _).mono ?_;rintro e w6 ⟨rfl,e6⟩;unfold nilRat;rw [←hf1.out]
 (first | replace BM:=e6.block BM | replace BM:=BoxR.ext BM e6 | replace BM:=BX.ext BM e6 | skip)
 (try replace hEx:=LsV.all (hEx.ext e6))
 replace hE:=hE.trans e6;replace B0:=e6.block B0;replace B1:=e6.block B1;replace hsz:=blk_lt B1;clear a0 a1 a2 b0 b1 b2 b3;obtain⟨a0,a1,a2,-⟩:=cells3 B0;obtain⟨b0,b1,b2,b3,-⟩:=cells4 B1;clear e6;go_upto_region 8 with (fail);refine boxes1 ?_;intro w7 e7 hsz7 BR;obtain⟨gBR,hgBR⟩:∃ gBR,gBR=w6.heap.size:=⟨_,rfl⟩
 rw [←hgBR] at BR ⊢
 (first | replace BM:=e7.block BM | replace BM:=BoxR.ext BM e7 | replace BM:=BX.ext BM e7 | skip)
 (try replace hEx:=LsV.all (hEx.ext e7))
 replace hE:=hE.trans e7;replace B0:=e7.block B0;replace B1:=e7.block B1;replace hsz:=blk_lt B1;clear a0 a1 a2 b0 b1 b2 b3;obtain⟨a0,a1,a2,-⟩:=cells3 B0;obtain⟨b0,b1,b2,b3,-⟩:=cells4 B1;clear e7 hsz7 hgBR;go_upto_region 8 with (fail);obtain⟨w9,hw9⟩:∃ w9,w9=w7:=⟨_,rfl⟩
 rw [←hw9] at hE B0 B1 BM BR a0 a1 a2 b0 b1 b2 b3 hsz ⊢
 (try rw [←hw9] at hEx)
 clear hw9;refine regI [Mn.eq (.agg #[.slice A1 Z.m c1,.slice A2 Z.nl c2,.slice A3 Z.np c3]),Mn.eq (.int .i64 f0),Mn.eq (.agg #[.slice A1 Z.m c1,.slice A2 Z.nl c2,.slice A3 Z.np c3]),Mn.eq (.agg #[.bool R.b1,.slice Q1 k1 l1,.bool R.b2,.slice Q2 k2 l2]),Mn.raws N R,Mn.eq (.int .i64 f1),Mn.eq (.int .i64 f0),Mn.eq (.int .i64 f1)] [some 51,some 52,some 53,some 54,some 55,some 56,some 13,some 14] [] [true,true,true,true,true,true,true,true] 0 (by kernel_rfl) ?_ ?_
 ·show ∀ i,i < 8→_
  iterate 8 refine fs ?_ ?_
  ·exact fz
  all_goals intro hl
  all_goals clear hl
  all_goals refine stp rfl ?_
  all_goals intro ac wi eI hB hA K hK
  have o3:=oOf (hB 3 (by kernel_rfl)) rfl;have cc0:=eI.cell a0;have cc1:=eI.cell a1;have cc2:=eI.cell a2
  rotate_left
  obtain⟨_,s51,rfl⟩:=hA 0 (by kernel_rfl) 51 rfl;clear hB hA
  ·go_simp;refine (l38_checked (R:=fun _=>raw 0) (hI.ext (hE.trans eI)) (lsr_nil (N:=N) (by have:=(hE.trans eI).size; omega) _) HF.out (fun i hi=>absurd hi (by omega))).mono ?_;rw [←hf0.out];rintro e wj ⟨rfl,ej⟩;go_wp2_with fail;exact hK.out _ _ ej rfl
  have o3:=oOf (hB 3 (by kernel_rfl)) rfl;have cc0:=eI.cell a0;have cc1:=eI.cell a1;have cc2:=eI.cell a2
  rotate_left
  have o5:=oOf (hB 5 (by kernel_rfl)) rfl;have cc0:=eI.cell b0;have cc1:=eI.cell b1;have cc2:=eI.cell b2;have cc3:=eI.cell b3
  rotate_left
  obtain⟨_,s54,rfl⟩:=hA 3 (by kernel_rfl) 54 rfl;clear hB hA
  ·go_simp;refine boxes1 ?_;intro wj ej hszj BJ;have eJ:=(hE.trans eI).trans ej;exact hK.out _ _ ej (one_raw (by have:=eJ.size; omega) BJ (gx1.ext eJ) (gx2.ext eJ))
  obtain⟨_,s53,rfl⟩:=hA 2 (by kernel_rfl) 53 rfl;obtain⟨x55,s55,j55⟩:=hA 4 (by kernel_rfl) 55 rfl;replace j55:Mn.p (Mn.raws N R) x55 wi:=j55;clear hB hA
  ·go_simp;refine (l38_checked (R:=fun _=>R) (hI.ext (hE.trans eI)) j55 HF.out (fun i _=>HSX.out)).mono ?_;rw [←hf1.out];rintro e wj ⟨rfl,ej⟩;go_wp2_with fail;exact hK.out _ _ ej rfl
  obtain⟨_,s52,rfl⟩:=hA 1 (by kernel_rfl) 52 rfl
  rotate_left
  obtain⟨_,s56,rfl⟩:=hA 5 (by kernel_rfl) 56 rfl
  rotate_left
  all_goals clear hB hA
  all_goals go_simp
  all_goals exact hK.out _ _ (Ext.refl _) rfl
 intro vals wz eZ hJ;have J13:vals 6=_:=hJ 6 (by decide) (by decide);have J14:vals 7=_:=hJ 7 (by decide) (by decide);clear hJ;simp only [pr,Nat.reduceAdd,J13,J14];clear J13 J14;refine stepL_done (by kernel_rfl) ?_ _;replace hE:=hE.trans eZ;replace B0:=eZ.block B0;replace B1:=eZ.block B1
 first | replace BM:=eZ.block BM | replace BM:=BoxR.ext BM eZ | replace BM:=BX.ext BM eZ
 first | replace BR:=eZ.block BR | replace BR:=BoxR.ext BR eZ | replace BR:=BX.ext BR eZ
 (try replace hEx:=LsV.all (hEx.ext eZ))
 replace hsz:=blk_lt B1;clear a0 a1 a2 b0 b1 b2 b3 eZ;obtain⟨a0,a1,a2,-⟩:=cells3 B0;obtain⟨b0,b1,b2,b3,-⟩:=cells4 B1;obtain⟨x0,x1,x2,x3,-⟩:=cells4 BM;go_wp2_with (go_at_call 48; refine Hid.out ?_);refine r2_zero.mono ?_;rintro e w20 ⟨rfl,e20⟩;replace hE:=hE.trans e20
 first | replace BR:=e20.block BR | replace BR:=BoxR.ext BR e20 | replace BR:=BX.ext BR e20
 clear x0 x1 x2 x3 a0 a1 a2 b0 b1 b2 b3 B0 B1 BM e20;obtain⟨x0,x1,x2,x3,-⟩:=cells4 BR;go_wp2_with (go_at_call 48; refine Hid.out ?_);refine r2_zero.mono ?_;rintro e w21 ⟨rfl,e21⟩;clear x0 x1 x2 x3;go_wp2;go_ret;exact⟨rfl,hE.trans e21⟩
set_option maxRecDepth 100000 in
theorem reli_badO {N lo hi:Nat} {w:World} {A1 A2 A3:Option Addr} {c1 c2 c3 m n:Nat} {X:Nat→Nat→Rat} {y p:Nat→Rat} {Z:Lin} {R:Raw} {u:Value} (hI:LinV N lo hi w (.agg #[.slice A1 m c1,.slice A2 m c2,.slice A3 m c3]) Z) (hm:Z.m=m) (hf:few34 7 4 Z=true) (hc:code38 Z 0 (fun _=>raw 0)=0)
  (h1:MtV N lo hi w (.slice A1 m c1) m n X) (h2:LsV N lo hi w (.slice A2 m c2) m y) (h3:LsV N lo hi w (.slice A3 m c3) m p) (d:Md m n X y p) (hr:Reg n (nmat X p m)) (hx:RawV N w u R) (hsx:RawL R) (hd:dgn R≤6) (z:Int) (hc1:code38 Z 1 (fun _=>R)≠0) (hz:inB m z=false) :
  Calls Tryz.prog 7 #[.agg #[.slice A1 m c1,.slice A2 m c2,.slice A3 m c3],.int .i64 z,u] w (RetV w (.bool true)):=by
 have hIx:=hx;have hN:N≤w.heap.size:=hx.le;have HF:=Lib.hid hf;have HSX:=Lib.hid hsx;obtain⟨dz,hdz⟩:=hid_eq ((R.l1.length+R.l2.length:Nat):Int);have HS6:=Lib.hid (dgn_sz hd);have hd1:¬ 6 < dz:=by rw [hdz.out]; unfold dgn at hd; omega
 have hd2:decide (6 < dz)=false:=decide_eq_false hd1;have HD:=Lib.hid d;have HG:=Lib.hid hr;have HC0:=Lib.hid hc;have hI1:=h1;have hI2:=h2;have hI3:=h3;have hm0:=d.m0;have hm7:=d.m7;have hn0:=d.n0;have hn4:=d.n4;have HB:Hid (inB Z.m z=false):=by rw [Hid,hm]; exact hz
 have HBm:Hid (inB m z=false):=hz;obtain⟨f1,hf1⟩:=hid_eq (code38 Z 1 (fun _=>R));have t1:(f1 == 0)=false:=by rw [hf1.out]; simpa using hc1
 have t2:(f1 != 0)=true:=by simpa using t1
 have HC1:=Lib.hid hc1;obtain⟨Q1,k1,l1,Q2,k2,l2,rfl,gx1,gx2⟩:=hx.parts;clear hf hx hsx hd hc hc1 h1 h2 h3 d hr hz hm;go_enter Tryz.func7,Tryz.ntmps7;go_wp2_with (go_at_call 10; refine Hid.out ?_);refine boxesC2 ?_;intro W hE hsz B0 B1;refine (l38_known W).mono ?_;rintro e w1 ⟨rfl,e1⟩;replace hE:=hE.trans e1;replace B0:=e1.block B0;replace B1:=e1.block B1;replace hsz:=blk_lt B1;clear e1;obtain⟨a0,a1,a2,-⟩:=cells3 B0;obtain⟨b0,b1,b2,b3,-⟩:=cells4 B1;go_wp2_with (go_at_call 11; refine Hid.out ?_);refine (l38_few (hI.ext hE)).mono ?_;rintro e w2 ⟨rfl,e2⟩;rw [HF.out];replace hE:=hE.trans e2;replace B0:=e2.block B0;replace B1:=e2.block B1;replace hsz:=blk_lt B1;clear a0 a1 a2 b0 b1 b2 b3;obtain⟨a0,a1,a2,-⟩:=cells3 B0;obtain⟨b0,b1,b2,b3,-⟩:=cells4 B1;clear e2;go_wp2_with (go_at_call 21; refine Hid.out ?_);refine (r2_digitsN (hIx.ext hE) HSX.out).mono ?_;rintro e w5 ⟨rfl,e5⟩;rw [←hdz.out];replace hE:=hE.trans e5;replace B0:=e5.block B0;replace B1:=e5.block B1;replace hsz:=blk_lt B1;clear a0 a1 a2 b0 b1 b2 b3;obtain⟨a0,a1,a2,-⟩:=cells3 B0;obtain⟨b0,b1,b2,b3,-⟩:=cells4 B1;clear e5;go_wp2_with (go_at_call 42; refine Hid.out ?_);refine (sn_Detectable_bad (hI.ext hE) (hIx.ext hE) HF.out HS6.out HC1.out _).mono ?_;rintro e w6 ⟨rfl,e6⟩;unfold nilRat;rw [←hf1.out]
 (first | replace BM:=e6.block BM | replace BM:=BoxR.ext BM e6 | replace BM:=BX.ext BM e6 | skip)
 (try replace hEx:=LsV.all (hEx.ext e6))
 replace hE:=hE.trans e6;replace B0:=e6.block B0;replace B1:=e6.block B1;replace hsz:=blk_lt B1;clear a0 a1 a2 b0 b1 b2 b3;obtain⟨a0,a1,a2,-⟩:=cells3 B0;obtain⟨b0,b1,b2,b3,-⟩:=cells4 B1;clear e6;go_upto_region 6 with (fail);refine boxes1 ?_;intro w7 e7 hsz7 BM;obtain⟨gBM,hgBM⟩:∃ gBM,gBM=w6.heap.size:=⟨_,rfl⟩
 rw [←hgBM] at BM ⊢
 (first | replace BM:=e7.block BM | replace BM:=BoxR.ext BM e7 | replace BM:=BX.ext BM e7 | skip)
 (try replace hEx:=LsV.all (hEx.ext e7))
 replace hE:=hE.trans e7;replace B0:=e7.block B0;replace B1:=e7.block B1;replace hsz:=blk_lt B1;clear a0 a1 a2 b0 b1 b2 b3;obtain⟨a0,a1,a2,-⟩:=cells3 B0;obtain⟨b0,b1,b2,b3,-⟩:=cells4 B1;clear e7 hsz7 hgBM;go_wp2_with (go_at_call 43; refine Hid.out ?_);refine (sn_External_out (hI1.ext hE) (hI2.ext hE) (hI3.ext hE) HD.out HG.out _ HBm.out).mono ?_;rintro e w8 ⟨rfl,e8⟩
 skip
 first | replace BM:=e8.block BM | replace BM:=BoxR.ext BM e8 | replace BM:=BX.ext BM e8
 replace hE:=hE.trans e8;replace B0:=e8.block B0;replace B1:=e8.block B1;replace hsz:=blk_lt B1;clear a0 a1 a2 b0 b1 b2 b3;obtain⟨a0,a1,a2,-⟩:=cells3 B0;obtain⟨b0,b1,b2,b3,-⟩:=cells4 B1;clear e8;go_wp2_with (go_at_call 44; refine Hid.out ?_);refine (sn_Reach_bad (hI.ext hE) (hIx.ext hE) HF.out HS6.out HC1.out _).mono ?_;rintro e w6 ⟨rfl,e6⟩;unfold nilRat;rw [←hf1.out]
 (first | replace BM:=e6.block BM | replace BM:=BoxR.ext BM e6 | replace BM:=BX.ext BM e6 | skip)
 (try replace hEx:=LsV.all (hEx.ext e6))
 replace hE:=hE.trans e6;replace B0:=e6.block B0;replace B1:=e6.block B1;replace hsz:=blk_lt B1;clear a0 a1 a2 b0 b1 b2 b3;obtain⟨a0,a1,a2,-⟩:=cells3 B0;obtain⟨b0,b1,b2,b3,-⟩:=cells4 B1;clear e6;go_upto_region 8 with (fail);refine boxes1 ?_;intro w7 e7 hsz7 BR;obtain⟨gBR,hgBR⟩:∃ gBR,gBR=w6.heap.size:=⟨_,rfl⟩
 rw [←hgBR] at BR ⊢
 (first | replace BM:=e7.block BM | replace BM:=BoxR.ext BM e7 | replace BM:=BX.ext BM e7 | skip)
 (try replace hEx:=LsV.all (hEx.ext e7))
 replace hE:=hE.trans e7;replace B0:=e7.block B0;replace B1:=e7.block B1;replace hsz:=blk_lt B1;clear a0 a1 a2 b0 b1 b2 b3;obtain⟨a0,a1,a2,-⟩:=cells3 B0;obtain⟨b0,b1,b2,b3,-⟩:=cells4 B1;clear e7 hsz7 hgBR;go_upto_region 8 with (fail);obtain⟨w9,hw9⟩:∃ w9,w9=w7:=⟨_,rfl⟩
 rw [←hw9] at hE B0 B1 BM BR a0 a1 a2 b0 b1 b2 b3 hsz ⊢
 (try rw [←hw9] at hEx)
 clear hw9;refine regI [Mn.eq (.agg #[.slice A1 m c1,.slice A2 m c2,.slice A3 m c3]),Mn.eq (.int .i64 0),Mn.eq (.agg #[.slice A1 m c1,.slice A2 m c2,.slice A3 m c3]),Mn.eq (.agg #[.bool R.b1,.slice Q1 k1 l1,.bool R.b2,.slice Q2 k2 l2]),Mn.raws N R,Mn.eq (.int .i64 f1),Mn.eq (.int .i64 0),Mn.eq (.int .i64 f1)] [some 51,some 52,some 53,some 54,some 55,some 56,some 13,some 14] [] [true,true,true,true,true,true,true,true] 0 (by kernel_rfl) ?_ ?_
 ·show ∀ i,i < 8→_
  iterate 8 refine fs ?_ ?_
  ·exact fz
  all_goals intro hl
  all_goals clear hl
  all_goals refine stp rfl ?_
  all_goals intro ac wi eI hB hA K hK
  have o3:=oOf (hB 3 (by kernel_rfl)) rfl;have cc0:=eI.cell a0;have cc1:=eI.cell a1;have cc2:=eI.cell a2
  rotate_left
  obtain⟨_,s51,rfl⟩:=hA 0 (by kernel_rfl) 51 rfl;clear hB hA
  ·go_simp;refine (l38_checked (R:=fun _=>raw 0) (hI.ext (hE.trans eI)) (lsr_nil (N:=N) (by have:=(hE.trans eI).size; omega) _) HF.out (fun i hi=>absurd hi (by omega))).mono ?_;rw [HC0.out];rintro e wj ⟨rfl,ej⟩;go_wp2_with fail;exact hK.out _ _ ej rfl
  have o3:=oOf (hB 3 (by kernel_rfl)) rfl;have cc0:=eI.cell a0;have cc1:=eI.cell a1;have cc2:=eI.cell a2
  rotate_left
  have o5:=oOf (hB 5 (by kernel_rfl)) rfl;have cc0:=eI.cell b0;have cc1:=eI.cell b1;have cc2:=eI.cell b2;have cc3:=eI.cell b3
  rotate_left
  obtain⟨_,s54,rfl⟩:=hA 3 (by kernel_rfl) 54 rfl;clear hB hA
  ·go_simp;refine boxes1 ?_;intro wj ej hszj BJ;have eJ:=(hE.trans eI).trans ej;exact hK.out _ _ ej (one_raw (by have:=eJ.size; omega) BJ (gx1.ext eJ) (gx2.ext eJ))
  obtain⟨_,s53,rfl⟩:=hA 2 (by kernel_rfl) 53 rfl;obtain⟨x55,s55,j55⟩:=hA 4 (by kernel_rfl) 55 rfl;replace j55:Mn.p (Mn.raws N R) x55 wi:=j55;clear hB hA
  ·go_simp;refine (l38_checked (R:=fun _=>R) (hI.ext (hE.trans eI)) j55 HF.out (fun i _=>HSX.out)).mono ?_;rw [←hf1.out];rintro e wj ⟨rfl,ej⟩;go_wp2_with fail;exact hK.out _ _ ej rfl
  obtain⟨_,s52,rfl⟩:=hA 1 (by kernel_rfl) 52 rfl
  rotate_left
  obtain⟨_,s56,rfl⟩:=hA 5 (by kernel_rfl) 56 rfl
  rotate_left
  all_goals clear hB hA
  all_goals go_simp
  all_goals exact hK.out _ _ (Ext.refl _) rfl
 intro vals wz eZ hJ;have J13:vals 6=_:=hJ 6 (by decide) (by decide);have J14:vals 7=_:=hJ 7 (by decide) (by decide);clear hJ;simp only [pr,Nat.reduceAdd,J13,J14];clear J13 J14;refine stepL_done (by kernel_rfl) ?_ _;replace hE:=hE.trans eZ;replace B0:=eZ.block B0;replace B1:=eZ.block B1
 first | replace BM:=eZ.block BM | replace BM:=BoxR.ext BM eZ | replace BM:=BX.ext BM eZ
 first | replace BR:=eZ.block BR | replace BR:=BoxR.ext BR eZ | replace BR:=BX.ext BR eZ
 (try replace hEx:=LsV.all (hEx.ext eZ))
 replace hsz:=blk_lt B1;clear a0 a1 a2 b0 b1 b2 b3 eZ;obtain⟨a0,a1,a2,-⟩:=cells3 B0;obtain⟨b0,b1,b2,b3,-⟩:=cells4 B1;go_wp2_with (go_at_call 13; refine Hid.out ?_);refine (l38_inside (hI.ext hE) _).mono ?_;rintro e w4 ⟨rfl,e4⟩;rw [HB.out]
 first | replace BM:=e4.block BM | replace BM:=BoxR.ext BM e4 | replace BM:=BX.ext BM e4
 first | replace BR:=e4.block BR | replace BR:=BoxR.ext BR e4 | replace BR:=BX.ext BR e4
 (try replace hEx:=LsV.all (hEx.ext e4))
 replace hE:=hE.trans e4;replace B0:=e4.block B0;replace B1:=e4.block B1;replace hsz:=blk_lt B1;clear a0 a1 a2 b0 b1 b2 b3;obtain⟨a0,a1,a2,-⟩:=cells3 B0;obtain⟨b0,b1,b2,b3,-⟩:=cells4 B1;clear e4;obtain⟨x0,x1,x2,x3,-⟩:=cells4 BM;go_wp2_with (go_at_call 48; refine Hid.out ?_);refine r2_zero.mono ?_;rintro e w20 ⟨rfl,e20⟩;replace hE:=hE.trans e20
 first | replace BR:=e20.block BR | replace BR:=BoxR.ext BR e20 | replace BR:=BX.ext BR e20
 clear x0 x1 x2 x3 a0 a1 a2 b0 b1 b2 b3 B0 B1 BM e20;obtain⟨x0,x1,x2,x3,-⟩:=cells4 BR;go_wp2_with (go_at_call 48; refine Hid.out ?_);refine r2_zero.mono ?_;rintro e w21 ⟨rfl,e21⟩;clear x0 x1 x2 x3;go_wp2;go_ret;exact⟨rfl,hE.trans e21⟩
set_option maxRecDepth 100000 in
theorem reli_okO {N lo hi:Nat} {w:World} {A1 A2 A3:Option Addr} {c1 c2 c3 m n:Nat} {X:Nat→Nat→Rat} {y p:Nat→Rat} {Z:Lin} {R:Raw} {u:Value} (hI:LinV N lo hi w (.agg #[.slice A1 m c1,.slice A2 m c2,.slice A3 m c3]) Z) (hm:Z.m=m) (hf:few34 7 4 Z=true) (hc:code38 Z 0 (fun _=>raw 0)=0)
  (h1:MtV N lo hi w (.slice A1 m c1) m n X) (h2:LsV N lo hi w (.slice A2 m c2) m y) (h3:LsV N lo hi w (.slice A3 m c3) m p) (d:Md m n X y p) (hr:Reg n (nmat X p m)) (hx:RawV N w u R) (hsx:RawL R) (hd:dgn R≤6) (z:Int) {dl:Rat} (hxr:RatV N w u dl) (hdh:Ht 180 dl) (hc1:code38 Z 1 (fun _=>R)=0) (hz:inB m z=false) :
  Calls Tryz.prog 7 #[.agg #[.slice A1 m c1,.slice A2 m c2,.slice A3 m c3],.int .i64 z,u] w (RetV w (.bool true)):=by
 have hIx:=hx;have hN:N≤w.heap.size:=hx.le;have HF:=Lib.hid hf;have HSX:=Lib.hid hsx;obtain⟨dz,hdz⟩:=hid_eq ((R.l1.length+R.l2.length:Nat):Int);have HS6:=Lib.hid (dgn_sz hd);have hd1:¬ 6 < dz:=by rw [hdz.out]; unfold dgn at hd; omega
 have hd2:decide (6 < dz)=false:=decide_eq_false hd1;have HD:=Lib.hid d;have HG:=Lib.hid hr;have HC0:=Lib.hid hc;have hI1:=h1;have hI2:=h2;have hI3:=h3;have hm0:=d.m0;have hm7:=d.m7;have hn0:=d.n0;have hn4:=d.n4;have hIr:=hxr;have HC1:=Lib.hid hc1;have HDH:=Lib.hid (hdh.mono (show 180≤400 by omega));have HZD:=Lib.hid (hdh.sz (by omega));obtain⟨sg,hsg⟩:=hid_eq dl.num.sign;have HB:Hid (inB Z.m z=false):=by rw [Hid,hm]; exact hz
 have HBm:Hid (inB m z=false):=hz;obtain⟨Q1,k1,l1,Q2,k2,l2,rfl,gx1,gx2⟩:=hx.parts;clear hf hx hsx hd hc hc1 h1 h2 h3 d hr hz hm hxr hdh;go_enter Tryz.func7,Tryz.ntmps7;go_wp2_with (go_at_call 10; refine Hid.out ?_);refine boxesC2 ?_;intro W hE hsz B0 B1;refine (l38_known W).mono ?_;rintro e w1 ⟨rfl,e1⟩;replace hE:=hE.trans e1;replace B0:=e1.block B0;replace B1:=e1.block B1;replace hsz:=blk_lt B1;clear e1;obtain⟨a0,a1,a2,-⟩:=cells3 B0;obtain⟨b0,b1,b2,b3,-⟩:=cells4 B1;go_wp2_with (go_at_call 11; refine Hid.out ?_);refine (l38_few (hI.ext hE)).mono ?_;rintro e w2 ⟨rfl,e2⟩;rw [HF.out];replace hE:=hE.trans e2;replace B0:=e2.block B0;replace B1:=e2.block B1;replace hsz:=blk_lt B1;clear a0 a1 a2 b0 b1 b2 b3;obtain⟨a0,a1,a2,-⟩:=cells3 B0;obtain⟨b0,b1,b2,b3,-⟩:=cells4 B1;clear e2;go_wp2_with (go_at_call 21; refine Hid.out ?_);refine (r2_digitsN (hIx.ext hE) HSX.out).mono ?_;rintro e w5 ⟨rfl,e5⟩;rw [←hdz.out];replace hE:=hE.trans e5;replace B0:=e5.block B0;replace B1:=e5.block B1;replace hsz:=blk_lt B1;clear a0 a1 a2 b0 b1 b2 b3;obtain⟨a0,a1,a2,-⟩:=cells3 B0;obtain⟨b0,b1,b2,b3,-⟩:=cells4 B1;clear e5;go_wp2_with (go_at_call 42; refine Hid.out ?_);refine (sn_Detectable_out (hI1.ext hE) (hI2.ext hE) (hI3.ext hE) (hIr.ext hE) HD.out HG.out HZD.out _ HBm.out).mono ?_;rintro e w6 ⟨rfl,e6⟩;unfold nilRat
 skip
 (first | replace BM:=e6.block BM | replace BM:=BoxR.ext BM e6 | replace BM:=BX.ext BM e6 | skip)
 (try replace hEx:=LsV.all (hEx.ext e6))
 replace hE:=hE.trans e6;replace B0:=e6.block B0;replace B1:=e6.block B1;replace hsz:=blk_lt B1;clear a0 a1 a2 b0 b1 b2 b3;obtain⟨a0,a1,a2,-⟩:=cells3 B0;obtain⟨b0,b1,b2,b3,-⟩:=cells4 B1;clear e6;go_upto_region 6 with (fail);refine boxes1 ?_;intro w7 e7 hsz7 BM;obtain⟨gBM,hgBM⟩:∃ gBM,gBM=w6.heap.size:=⟨_,rfl⟩
 rw [←hgBM] at BM ⊢
 (first | replace BM:=e7.block BM | replace BM:=BoxR.ext BM e7 | replace BM:=BX.ext BM e7 | skip)
 (try replace hEx:=LsV.all (hEx.ext e7))
 replace hE:=hE.trans e7;replace B0:=e7.block B0;replace B1:=e7.block B1;replace hsz:=blk_lt B1;clear a0 a1 a2 b0 b1 b2 b3;obtain⟨a0,a1,a2,-⟩:=cells3 B0;obtain⟨b0,b1,b2,b3,-⟩:=cells4 B1;clear e7 hsz7 hgBM;go_wp2_with (go_at_call 43; refine Hid.out ?_);refine (sn_External_out (hI1.ext hE) (hI2.ext hE) (hI3.ext hE) HD.out HG.out _ HBm.out).mono ?_;rintro e w8 ⟨rfl,e8⟩
 skip
 first | replace BM:=e8.block BM | replace BM:=BoxR.ext BM e8 | replace BM:=BX.ext BM e8
 replace hE:=hE.trans e8;replace B0:=e8.block B0;replace B1:=e8.block B1;replace hsz:=blk_lt B1;clear a0 a1 a2 b0 b1 b2 b3;obtain⟨a0,a1,a2,-⟩:=cells3 B0;obtain⟨b0,b1,b2,b3,-⟩:=cells4 B1;clear e8;go_wp2_with (go_at_call 44; refine Hid.out ?_);refine (sn_Reach_out (hI1.ext hE) (hI2.ext hE) (hI3.ext hE) (hIr.ext hE) HD.out HG.out HZD.out _ HBm.out).mono ?_;rintro e w6 ⟨rfl,e6⟩;unfold nilRat
 skip
 (first | replace BM:=e6.block BM | replace BM:=BoxR.ext BM e6 | replace BM:=BX.ext BM e6 | skip)
 (try replace hEx:=LsV.all (hEx.ext e6))
 replace hE:=hE.trans e6;replace B0:=e6.block B0;replace B1:=e6.block B1;replace hsz:=blk_lt B1;clear a0 a1 a2 b0 b1 b2 b3;obtain⟨a0,a1,a2,-⟩:=cells3 B0;obtain⟨b0,b1,b2,b3,-⟩:=cells4 B1;clear e6;go_upto_region 8 with (fail);refine boxes1 ?_;intro w7 e7 hsz7 BR;obtain⟨gBR,hgBR⟩:∃ gBR,gBR=w6.heap.size:=⟨_,rfl⟩
 rw [←hgBR] at BR ⊢
 (first | replace BM:=e7.block BM | replace BM:=BoxR.ext BM e7 | replace BM:=BX.ext BM e7 | skip)
 (try replace hEx:=LsV.all (hEx.ext e7))
 replace hE:=hE.trans e7;replace B0:=e7.block B0;replace B1:=e7.block B1;replace hsz:=blk_lt B1;clear a0 a1 a2 b0 b1 b2 b3;obtain⟨a0,a1,a2,-⟩:=cells3 B0;obtain⟨b0,b1,b2,b3,-⟩:=cells4 B1;clear e7 hsz7 hgBR;go_upto_region 8 with (fail);obtain⟨w9,hw9⟩:∃ w9,w9=w7:=⟨_,rfl⟩
 rw [←hw9] at hE B0 B1 BM BR a0 a1 a2 b0 b1 b2 b3 hsz ⊢
 (try rw [←hw9] at hEx)
 clear hw9;refine regI [Mn.eq (.agg #[.slice A1 m c1,.slice A2 m c2,.slice A3 m c3]),Mn.eq (.int .i64 0),Mn.eq (.agg #[.slice A1 m c1,.slice A2 m c2,.slice A3 m c3]),Mn.eq (.agg #[.bool R.b1,.slice Q1 k1 l1,.bool R.b2,.slice Q2 k2 l2]),Mn.raws N R,Mn.eq (.int .i64 0),Mn.eq (.int .i64 0),Mn.eq (.int .i64 0)] [some 51,some 52,some 53,some 54,some 55,some 56,some 13,some 14] [] [true,true,true,true,true,true,true,true] 0 (by kernel_rfl) ?_ ?_
 ·show ∀ i,i < 8→_
  iterate 8 refine fs ?_ ?_
  ·exact fz
  all_goals intro hl
  all_goals clear hl
  all_goals refine stp rfl ?_
  all_goals intro ac wi eI hB hA K hK
  have o3:=oOf (hB 3 (by kernel_rfl)) rfl;have cc0:=eI.cell a0;have cc1:=eI.cell a1;have cc2:=eI.cell a2
  rotate_left
  obtain⟨_,s51,rfl⟩:=hA 0 (by kernel_rfl) 51 rfl;clear hB hA
  ·go_simp;refine (l38_checked (R:=fun _=>raw 0) (hI.ext (hE.trans eI)) (lsr_nil (N:=N) (by have:=(hE.trans eI).size; omega) _) HF.out (fun i hi=>absurd hi (by omega))).mono ?_;rw [HC0.out];rintro e wj ⟨rfl,ej⟩;go_wp2_with fail;exact hK.out _ _ ej rfl
  have o3:=oOf (hB 3 (by kernel_rfl)) rfl;have cc0:=eI.cell a0;have cc1:=eI.cell a1;have cc2:=eI.cell a2
  rotate_left
  have o5:=oOf (hB 5 (by kernel_rfl)) rfl;have cc0:=eI.cell b0;have cc1:=eI.cell b1;have cc2:=eI.cell b2;have cc3:=eI.cell b3
  rotate_left
  obtain⟨_,s54,rfl⟩:=hA 3 (by kernel_rfl) 54 rfl;clear hB hA
  ·go_simp;refine boxes1 ?_;intro wj ej hszj BJ;have eJ:=(hE.trans eI).trans ej;exact hK.out _ _ ej (one_raw (by have:=eJ.size; omega) BJ (gx1.ext eJ) (gx2.ext eJ))
  obtain⟨_,s53,rfl⟩:=hA 2 (by kernel_rfl) 53 rfl;obtain⟨x55,s55,j55⟩:=hA 4 (by kernel_rfl) 55 rfl;replace j55:Mn.p (Mn.raws N R) x55 wi:=j55;clear hB hA
  ·go_simp;refine (l38_checked (R:=fun _=>R) (hI.ext (hE.trans eI)) j55 HF.out (fun i _=>HSX.out)).mono ?_;rw [HC1.out];rintro e wj ⟨rfl,ej⟩;go_wp2_with fail;exact hK.out _ _ ej rfl
  obtain⟨_,s52,rfl⟩:=hA 1 (by kernel_rfl) 52 rfl
  rotate_left
  obtain⟨_,s56,rfl⟩:=hA 5 (by kernel_rfl) 56 rfl
  rotate_left
  all_goals clear hB hA
  all_goals go_simp
  all_goals exact hK.out _ _ (Ext.refl _) rfl
 intro vals wz eZ hJ;have J13:vals 6=_:=hJ 6 (by decide) (by decide);have J14:vals 7=_:=hJ 7 (by decide) (by decide);clear hJ;simp only [pr,Nat.reduceAdd,J13,J14];clear J13 J14;refine stepL_done (by kernel_rfl) ?_ _;replace hE:=hE.trans eZ;replace B0:=eZ.block B0;replace B1:=eZ.block B1
 first | replace BM:=eZ.block BM | replace BM:=BoxR.ext BM eZ | replace BM:=BX.ext BM eZ
 first | replace BR:=eZ.block BR | replace BR:=BoxR.ext BR eZ | replace BR:=BX.ext BR eZ
 (try replace hEx:=LsV.all (hEx.ext eZ))
 replace hsz:=blk_lt B1;clear a0 a1 a2 b0 b1 b2 b3 eZ;obtain⟨a0,a1,a2,-⟩:=cells3 B0;obtain⟨b0,b1,b2,b3,-⟩:=cells4 B1;go_wp2_with (go_at_call 13; refine Hid.out ?_);refine (l38_inside (hI.ext hE) _).mono ?_;rintro e w4 ⟨rfl,e4⟩;rw [HB.out]
 first | replace BM:=e4.block BM | replace BM:=BoxR.ext BM e4 | replace BM:=BX.ext BM e4
 first | replace BR:=e4.block BR | replace BR:=BoxR.ext BR e4 | replace BR:=BX.ext BR e4
 (try replace hEx:=LsV.all (hEx.ext e4))
 replace hE:=hE.trans e4;replace B0:=e4.block B0;replace B1:=e4.block B1;replace hsz:=blk_lt B1;clear a0 a1 a2 b0 b1 b2 b3;obtain⟨a0,a1,a2,-⟩:=cells3 B0;obtain⟨b0,b1,b2,b3,-⟩:=cells4 B1;clear e4;go_wp2_with (go_at_call 13; refine Hid.out ?_);refine (l38_inside (hI.ext hE) _).mono ?_;rintro e w4 ⟨rfl,e4⟩;rw [HB.out]
 first | replace BM:=e4.block BM | replace BM:=BoxR.ext BM e4 | replace BM:=BX.ext BM e4
 first | replace BR:=e4.block BR | replace BR:=BoxR.ext BR e4 | replace BR:=BX.ext BR e4
 (try replace hEx:=LsV.all (hEx.ext e4))
 replace hE:=hE.trans e4;replace B0:=e4.block B0;replace B1:=e4.block B1;replace hsz:=blk_lt B1;clear a0 a1 a2 b0 b1 b2 b3;obtain⟨a0,a1,a2,-⟩:=cells3 B0;obtain⟨b0,b1,b2,b3,-⟩:=cells4 B1;clear e4;obtain⟨x0,x1,x2,x3,-⟩:=cells4 BM;go_wp2_with (go_at_call 48; refine Hid.out ?_);refine r2_zero.mono ?_;rintro e w20 ⟨rfl,e20⟩;replace hE:=hE.trans e20
 first | replace BR:=e20.block BR | replace BR:=BoxR.ext BR e20 | replace BR:=BX.ext BR e20
 clear x0 x1 x2 x3 a0 a1 a2 b0 b1 b2 b3 B0 B1 BM e20;obtain⟨x0,x1,x2,x3,-⟩:=cells4 BR;go_wp2_with (go_at_call 48; refine Hid.out ?_);refine r2_zero.mono ?_;rintro e w21 ⟨rfl,e21⟩;clear x0 x1 x2 x3;go_wp2;go_ret;exact⟨rfl,hE.trans e21⟩
end Go.Proofs.YthkkknjcoidioaaGreat
