import Derived.Test.YthkkknjcoidioaaGreatWb01
import Derived.Test.YthkkknjcoidioaaGreatWb02
import Derived.Test.YthkkknjcoidioaaGreatWb03
import Derived.Test.YthkkknjcoidioaaGreatWb04
import Derived.Test.YthkkknjcoidioaaGreatWb05
import Derived.Test.YthkkknjcoidioaaGreatWb06
import Derived.Test.YthkkknjcoidioaaGreatWb07
import Derived.Test.YthkkknjcoidioaaGreatWb08
import Derived.Test.YthkkknjcoidioaaGreatWb09
import Derived.Test.YthkkknjcoidioaaGreatWb10
import Derived.Test.YthkkknjcoidioaaGreatWb11
import Derived.Test.YthkkknjcoidioaaGreatWb12
import Derived.Test.YthkkknjcoidioaaGreatWb13
import Derived.Test.YthkkknjcoidioaaGreatWb14
import Derived.Test.YthkkknjcoidioaaGreatWb15
import Derived.Test.YthkkknjcoidioaaGreatWb16
import Derived.Test.YthkkknjcoidioaaGreatWb17
import Derived.Test.YthkkknjcoidioaaGreatWb18
import Derived.Test.YthkkknjcoidioaaGreatWb19
import Derived.Test.YthkkknjcoidioaaGreatWb20
import Derived.Test.YthkkknjcoidioaaGreatWb21
import Derived.Test.YthkkknjcoidioaaGreatWb22
import Derived.Test.YthkkknjcoidioaaGreatWb23
import Derived.Test.YthkkknjcoidioaaGreatWb24
import Derived.Test.YthkkknjcoidioaaGreatWb25
import Derived.Test.YthkkknjcoidioaaGreatWb26
import Derived.Test.YthkkknjcoidioaaGreatWb27
import Derived.Test.YthkkknjcoidioaaGreatWb28
import Derived.Test.YthkkknjcoidioaaGreatWb29
import Derived.Test.YthkkknjcoidioaaGreatWb30
import Derived.Test.YthkkknjcoidioaaGreatWb31
import Derived.Test.YthkkknjcoidioaaGreatWb32
import Derived.Test.YthkkknjcoidioaaGreatWb33
import Derived.Test.YthkkknjcoidioaaGreatWb34
import Derived.Test.YthkkknjcoidioaaGreatWb35
import Derived.Test.YthkkknjcoidioaaGreatWb36
import Derived.Test.YthkkknjcoidioaaGreatWb37
import Derived.Test.YthkkknjcoidioaaGreatWb38
import Derived.Test.YthkkknjcoidioaaGreatWb39
import Derived.Test.YthkkknjcoidioaaGreatWb40
import Derived.Test.YthkkknjcoidioaaGreatWb41
import Derived.Test.YthkkknjcoidioaaGreatWb42
import Derived.Test.YthkkknjcoidioaaGreatWb46
import Derived.WalkKit
import Derived.WalkSpells
import Derived.WalkLawsBesides
import Derived.Lib.Hide
import Derived.Deep.RegionHeld3
import Derived.Deep.QuietTactic
import Derived.BigQuiet
import Derived.Maps.AppendAt
import Derived.Deep.DeepCutAuto
import Derived.Deep.RegionWith
import Derived.Deep.DeepMust
import Derived.Test.YthkkknjcoidioaaGreatWse01
import Derived.Laws.IdiomCopy
import Derived.Shelf.Bits.Mul64
import Derived.Deep.AppendLies
import Derived.Deep.CutBlock
import Derived.OrdersIn
import Derived.RegionTactic
import Derived.RangeFuncNested
import Derived.RangeFuncBound
import Derived.RangeFuncCalls
import Derived.RangeFuncLeaves
import Derived.RangeFuncBox
import Derived.Shelf.Abstract
import Derived.OwnWalkIn
import Derived.TacticsInMore
import Derived.LoopNIn
import Derived.LoopIn
import Derived.Deep.RegionLaw
import Derived.Lib.SliceRun
import Derived.Laws.EntriesVeiled
import Derived.SizedLaws
set_option linter.all false
set_option maxHeartbeats 8000000
namespace Go.Proofs.YthkkknjcoidioaaGreat
open Go.RowKit
theorem shM_all {most m:Nat} {L:Nat→Nat} {R:Nat→Nat→Raw} (h:shM most m L R=true):m≤most∧∀ i,i < m→shB most (L i) (R i)=true:=by
 unfold shM at h;rw [Bool.and_eq_true,decide_eq_true_eq,allB_true] at h;exact h
theorem vmB_all {most m:Nat} {L:Nat→Nat} {R:Nat→Nat→Raw} (h:vmB most m L R=true):0 < m∧0 < L 0∧∀ i,i < m→L i=L 0∧∀ j,j < L i→okR (R i j)=true:=by
 unfold vmB at h;simp only [Bool.and_eq_true,decide_eq_true_eq,allB_true] at h;obtain⟨h1,-,h2,-,h3⟩:=h;exact⟨h1,h2,fun i hi=>⟨(h3 i hi).1,(h3 i hi).2⟩⟩
theorem shM_mtv {m:Nat} {L:Nat→Nat} {R:Nat→Nat→Raw} (h:shM 4 m L R=true) (h':vmB 4 m L R=true) {N lo hi:Nat} {w:World} {v:Value} (hv:MtR N lo hi w v m L R) :
  MtV N lo hi w v m (L 0) (fun i j=>ratOf (R i j))∧HtM m (L 0) 17 (fun i j=>ratOf (R i j)):=by
 obtain⟨h1,h2,h3⟩:=vmB_all h';refine⟨MtR.congr hv (fun i hi=>(h3 i hi).1) (fun i hi j hj=>raw_ratOf ((h3 i hi).2 j hj)),fun i hi j hj=>brief_ht ?_⟩;rw [←(h3 i hi).1] at hj;rw [←raw_ratOf ((h3 i hi).2 j hj)];exact (shB_all ((shM_all h).2 i hi)).2 j hj
theorem BlV.congr {w:World} {v:Value} {n:Nat} {b b':Nat→Bool} (h:BlV w v n b) (he:∀ i,i < n→b i=b' i):BlV w v n b':=by
 obtain⟨A,c,h0,h1,h2,h3⟩:=h;refine⟨A,c,h0,h1,h2,fun hn=>?_⟩;obtain⟨g,off,e,hx⟩:=h3 hn;exact⟨g,off,e,fun i hi=>by rw [hx i hi,he i hi]⟩
set_option maxRecDepth 100000 in
theorem inv_out {N lo hi lo2 hi2:Nat} {w:World} {v sB sS:Value} {Q1 Q2:Option Addr} {k1 l1 k2 l2:Nat} {Z:Lin} {mB kS:Nat} {LB:Nat→Nat} {AR:Nat→Nat→Raw} {R:Raw} {RS:Nat→Raw} (h:LinV N lo hi w v Z) (hB:MtR N lo2 hi2 w sB mB LB AR) (gx1:Gs N w (.slice Q1 k1 l1) R.l1) (gx2:Gs N w (.slice Q2 k2 l2) R.l2) (hS:LsR N lo2 hi2 w sS kS RS) (hsx:RawL R)
  (hs:few34 7 4 Z=false∨(few34 7 4 Z=true∧code38 Z 1 (fun _=>R)≠0)) :
  Calls Tryz.prog 6 #[v,.agg #[sB,.bool R.b1,.slice Q1 k1 l1,.bool R.b2,.slice Q2 k2 l2,sS]] w (RetV w (.bool true)):=by
 have hI:=h;have HSX:=Lib.hid hsx;have hN:N≤w.heap.size:=gx1.le;obtain⟨A1,c1,A2,c2,A3,c3,rfl,-⟩:=h.parts;obtain⟨AB,cB,rfl,-⟩:=hB.form;obtain⟨AS,cS,rfl,-⟩:=hS.form
 rcases hs with hs | ⟨hf,hc⟩
 ·have HS:=Lib.hid hs;clear h hs hsx hB hS;go_enter Tryz.func6,Tryz.ntmps6;go_wp2_with (go_at_call 10; refine Hid.out ?_);refine boxesC2 ?_;intro W hE hsz B0 B1;refine (l38_known W).mono ?_;rintro e w1 ⟨rfl,e1⟩;replace hE:=hE.trans e1;replace B0:=e1.block B0;replace B1:=e1.block B1;replace hsz:=blk_lt B1;clear e1;obtain⟨a0,a1,a2,-⟩:=cells3 B0;obtain⟨b0,b1,b2,b3,b4,b5,-⟩:=cells6 B1;go_wp2_with (go_at_call 11; refine Hid.out ?_);refine (l38_few (hI.ext hE)).mono ?_;rintro e w5 ⟨rfl,e5⟩;rw [HS.out];replace hE:=hE.trans e5;replace B0:=e5.block B0;replace B1:=e5.block B1;replace hsz:=blk_lt B1;clear a0 a1 a2 b0 b1 b2 b3 b4 b5;obtain⟨a0,a1,a2,-⟩:=cells3 B0;obtain⟨b0,b1,b2,b3,b4,b5,-⟩:=cells6 B1;clear e5;go_wp2;go_ret;exact⟨rfl,hE⟩
 ·have HF:=Lib.hid hf;obtain⟨r,hr⟩:=hid_eq (code38 Z 1 (fun _=>R));have hr0:(r == 0)=false:=by rw [hr.out]; simpa using hc
  have hr1:(r != 0)=true:=by simpa using hr0
  clear h hf hc hsx hB hS;go_enter Tryz.func6,Tryz.ntmps6;go_wp2_with (go_at_call 10; refine Hid.out ?_);refine boxesC2 ?_;intro W hE hsz B0 B1;refine (l38_known W).mono ?_;rintro e w1 ⟨rfl,e1⟩;replace hE:=hE.trans e1;replace B0:=e1.block B0;replace B1:=e1.block B1;replace hsz:=blk_lt B1;clear e1;obtain⟨a0,a1,a2,-⟩:=cells3 B0;obtain⟨b0,b1,b2,b3,b4,b5,-⟩:=cells6 B1;go_wp2_with (go_at_call 11; refine Hid.out ?_);refine (l38_few (hI.ext hE)).mono ?_;rintro e w5 ⟨rfl,e5⟩;rw [HF.out];replace hE:=hE.trans e5;replace B0:=e5.block B0;replace B1:=e5.block B1;replace hsz:=blk_lt B1;clear a0 a1 a2 b0 b1 b2 b3 b4 b5;obtain⟨a0,a1,a2,-⟩:=cells3 B0;obtain⟨b0,b1,b2,b3,b4,b5,-⟩:=cells6 B1;clear e5;go_wp2_with (go_at_call 12; refine Hid.out ?_);refine boxesC1 ?_;intro W3 f3 hsz3 BS;have hE3:=hE.trans f3;refine (l38_checked (R:=fun _=>R) (hI.ext hE3) (one_raw (by have:=hE3.size; omega) BS (gx1.ext hE3) (gx2.ext hE3)) HF.out (fun i _=>HSX.out)).mono ?_;rintro e w3 ⟨rfl,e3⟩;rw [←hr.out];replace e3:=f3.trans e3;replace hE:=hE.trans e3;replace B0:=e3.block B0;replace B1:=e3.block B1;replace hsz:=blk_lt B1;clear a0 a1 a2 b0 b1 b2 b3 b4 b5;obtain⟨a0,a1,a2,-⟩:=cells3 B0;obtain⟨b0,b1,b2,b3,b4,b5,-⟩:=cells6 B1;clear e3 f3 BS hE3 hsz3;go_wp2;go_ret;exact⟨rfl,hE⟩
set_option maxRecDepth 100000 in
theorem inv_main {N lo hi lo2 hi2:Nat} {w:World} {A1 A2 A3 AB AS Q1 Q2:Option Addr} {c1 c2 c3 cB cS k1 l1 k2 l2 m n mB kS':Nat} {X:Nat→Nat→Rat} {y p:Nat→Rat} {kq:Rat} {Z:Lin} {LB:Nat→Nat} {AR:Nat→Nat→Raw} {R:Raw} {RS:Nat→Raw} (hI:LinV N lo hi w (.agg #[.slice A1 m c1,.slice A2 m c2,.slice A3 m c3]) Z) (hf:few34 7 4 Z=true) (hc:code38 Z 1 (fun _=>R)=0)
  (hI1:MtV N lo hi w (.slice A1 m c1) m n X) (hI2:LsV N lo hi w (.slice A2 m c2) m y) (hI3:LsV N lo hi w (.slice A3 m c3) m p) (d:Md m n X y p) (hX17:HtM m n 17 X) (hy17:HtL m 17 y) (hp17:HtL m 17 p) (hr:Reg n (nmat X p m))
  (hIB:MtR N lo2 hi2 w (.slice AB mB cB) mB LB AR) (hIx:RawV N w (.agg #[.bool R.b1,.slice Q1 k1 l1,.bool R.b2,.slice Q2 k2 l2]) R) (gx1:Gs N w (.slice Q1 k1 l1) R.l1) (gx2:Gs N w (.slice Q2 k2 l2) R.l2) (hIS:LsR N lo2 hi2 w (.slice AS kS' cS) kS' RS) (hsx:RawL R) (hIr:RatV N w (.agg #[.bool R.b1,.slice Q1 k1 l1,.bool R.b2,.slice Q2 k2 l2]) kq) (hkh:dgn R≤6→Ht 180 kq) :
  Calls Tryz.prog 6 #[.agg #[.slice A1 m c1,.slice A2 m c2,.slice A3 m c3],.agg #[.slice AB mB cB,.bool R.b1,.slice Q1 k1 l1,.bool R.b2,.slice Q2 k2 l2,.slice AS kS' cS]] w (RetV w (.bool true)):=by
 have hN:N≤w.heap.size:=hI1.le;have HF:=Lib.hid hf;have HC:=Lib.hid hc;have HSX:=Lib.hid hsx;have HD:=Lib.hid d;have HG:=Lib.hid hr;have HX17:=Lib.hid hX17;have HY17:=Lib.hid hy17;have HP17:=Lib.hid hp17;have HKH:=Lib.hid hkh;have hm0:=d.m0;have hm7:=d.m7;have hn0:=d.n0;have hn4:=d.n4;obtain⟨dz,hdz⟩:=hid_eq ((R.l1.length+R.l2.length:Nat):Int);clear hf hc hsx d hr hX17 hy17 hp17 hkh;go_enter Tryz.func6,Tryz.ntmps6;go_wp2_with (go_at_call 10; refine Hid.out ?_);refine boxesC2 ?_;intro W hE hsz B0 B1;refine (l38_known W).mono ?_;rintro e w1 ⟨rfl,e1⟩;replace hE:=hE.trans e1;replace B0:=e1.block B0;replace B1:=e1.block B1;replace hsz:=blk_lt B1;clear e1;obtain⟨a0,a1,a2,-⟩:=cells3 B0;obtain⟨b0,b1,b2,b3,b4,b5,-⟩:=cells6 B1;go_wp2_with (go_at_call 11; refine Hid.out ?_);refine (l38_few (hI.ext hE)).mono ?_;rintro e w5 ⟨rfl,e5⟩;rw [HF.out];replace hE:=hE.trans e5;replace B0:=e5.block B0;replace B1:=e5.block B1;replace hsz:=blk_lt B1;clear a0 a1 a2 b0 b1 b2 b3 b4 b5;obtain⟨a0,a1,a2,-⟩:=cells3 B0;obtain⟨b0,b1,b2,b3,b4,b5,-⟩:=cells6 B1;clear e5;go_wp2_with (go_at_call 12; refine Hid.out ?_);refine boxesC1 ?_;intro W3 f3 hsz3 BS;have hE3:=hE.trans f3;refine (l38_checked (R:=fun _=>R) (hI.ext hE3) (one_raw (by have:=hE3.size; omega) BS (gx1.ext hE3) (gx2.ext hE3)) HF.out (fun i _=>HSX.out)).mono ?_;rintro e w3 ⟨rfl,e3⟩;rw [HC.out];replace e3:=f3.trans e3;replace hE:=hE.trans e3;replace B0:=e3.block B0
 replace B1:=e3.block B1;replace hsz:=blk_lt B1;clear a0 a1 a2 b0 b1 b2 b3 b4 b5;obtain⟨a0,a1,a2,-⟩:=cells3 B0;obtain⟨b0,b1,b2,b3,b4,b5,-⟩:=cells6 B1;clear e3 f3 BS hE3 hsz3;go_wp2_with (go_at_call 21; refine Hid.out ?_);refine (r2_digitsN (hIx.ext hE) HSX.out).mono ?_;rintro e w5 ⟨rfl,e5⟩;rw [←hdz.out];replace hE:=hE.trans e5;replace B0:=e5.block B0;replace B1:=e5.block B1;replace hsz:=blk_lt B1;clear a0 a1 a2 b0 b1 b2 b3 b4 b5;obtain⟨a0,a1,a2,-⟩:=cells3 B0;obtain⟨b0,b1,b2,b3,b4,b5,-⟩:=cells6 B1;clear e5
 by_cases h1:6 < dz
 case pos =>
  have t1:decide (6 < dz)=true:=decide_eq_true h1;go_wp2;go_ret;exact⟨rfl,hE⟩
 case neg =>
 have t1:decide (6 < dz)=false:=decide_eq_false h1;have HK:Hid (Ht 180 kq):=HKH.out (by have h9:=hdz.out; unfold dgn; omega);have HZK:Hid (Sz kq):=HK.out.sz (by omega);obtain⟨sg,hsg⟩:=hid_eq kq.num.sign;go_wp2_with (go_at_call 35; refine Hid.out ?_);refine (r2_sign (hIr.ext hE) HZK.out).mono ?_;rintro e w5 ⟨rfl,e5⟩;rw [←hsg.out];replace hE:=hE.trans e5;replace B0:=e5.block B0;replace B1:=e5.block B1;replace hsz:=blk_lt B1;clear a0 a1 a2 b0 b1 b2 b3 b4 b5;obtain⟨a0,a1,a2,-⟩:=cells3 B0;obtain⟨b0,b1,b2,b3,b4,b5,-⟩:=cells6 B1;clear e5;clear t1 h1
 by_cases h1:sg≤0
 case pos =>
  have t1:decide (sg≤0)=true:=decide_eq_true h1;go_wp2;go_ret;exact⟨rfl,hE⟩
 case neg =>
 have t1:decide (sg≤0)=false:=decide_eq_false h1
 have HK0:Hid (0 < kq):=by
  rw [Hid]
  rcases Classical.em (0 < kq) with h9 | h9
  ·exact h9
  ·exact absurd (by rw [hsg.out]; exact of_decide_eq_true (sign_le0 (Rat.not_lt.1 h9))) h1
 obtain⟨b1',hb1'⟩:=hid_eq (shM 4 mB LB AR);go_wp2_with (go_at_call 36; refine Hid.out ?_);refine (r2_shortMatrix (hIB.ext hE) 4 rfl (by omega)).mono ?_;rintro e w5 ⟨rfl,e5⟩;rw [←hb1'.out];replace hE:=hE.trans e5;replace B0:=e5.block B0;replace B1:=e5.block B1;replace hsz:=blk_lt B1;clear a0 a1 a2 b0 b1 b2 b3 b4 b5;obtain⟨a0,a1,a2,-⟩:=cells3 B0;obtain⟨b0,b1,b2,b3,b4,b5,-⟩:=cells6 B1;clear e5;clear t1 h1;cases b1'
 case false =>
  go_wp2;go_ret;exact⟨rfl,hE⟩
 case true =>
 obtain⟨b2',hb2'⟩:=hid_eq (shB 4 kS' RS);go_wp2_with (go_at_call 30; refine Hid.out ?_);refine (r2_short (hIS.ext hE) 4 rfl (by omega)).mono ?_;rintro e w5 ⟨rfl,e5⟩;rw [←hb2'.out];replace hE:=hE.trans e5;replace B0:=e5.block B0;replace B1:=e5.block B1;replace hsz:=blk_lt B1;clear a0 a1 a2 b0 b1 b2 b3 b4 b5;obtain⟨a0,a1,a2,-⟩:=cells3 B0;obtain⟨b0,b1,b2,b3,b4,b5,-⟩:=cells6 B1;clear e5;cases b2'
 case false =>
  go_wp2;go_ret;exact⟨rfl,hE⟩
 case true =>
 obtain⟨e1,off1,rfl,-,-,hx1⟩:=hI1.addr hm0;obtain⟨A0,c0,P0,hc0,hm0',-⟩:=hx1 0 hm0;rw [Nat.add_zero] at P0;unfold maxLen at hm0';have p0:=hE.cell P0;clear hx1;have HBR:Hid (∀ i,i < mB→∀ j,j < LB i→RawSz (AR i j)):=fun i hi j hj=>shB_sz ((shM_all hb1'.out.symm).2 i hi) j hj
 have HSR:Hid (∀ i,i < kS'→RawSz (RS i)):=fun i hi=>shB_sz hb2'.out.symm i hi
 obtain⟨b3',hb3'⟩:=hid_eq (vmB 4 mB LB AR);go_wp2_with (go_at_call 37; refine Hid.out ?_);refine (r2_validMatrix (hIB.ext hE) HBR.out 4 rfl (by omega)).mono ?_;rintro e w5 ⟨rfl,e5⟩;rw [←hb3'.out];replace hE:=hE.trans e5;replace B0:=e5.block B0;replace B1:=e5.block B1;replace hsz:=blk_lt B1;clear a0 a1 a2 b0 b1 b2 b3 b4 b5;obtain⟨a0,a1,a2,-⟩:=cells3 B0;obtain⟨b0,b1,b2,b3,b4,b5,-⟩:=cells6 B1;clear e5;clear p0;cases b3'
 case false =>
  go_wp2;go_ret;exact⟨rfl,hE⟩
 case true =>
 have hmB0:0 < mB:=(vmB_all hb3'.out.symm).1;have hMT:=shM_mtv hb1'.out.symm hb3'.out.symm hIB;obtain⟨T,hT⟩:=hid_eq (fun i j=>ratOf (AR i j));obtain⟨nB,hnB⟩:=hid_eq (LB 0);rw [←hT.out,←hnB.out] at hMT;obtain⟨hMB,hTh⟩:=hMT;have HTH:=Lib.hid hTh;obtain⟨eB,offB,rfl,-,-,hxB⟩:=hMB.addr hmB0;obtain⟨A9,c9,Q9,hc9,hm9,-⟩:=hxB 0 hmB0;rw [Nat.add_zero] at Q9;unfold maxLen at hm9;have q9:=hE.cell Q9;clear hxB hTh
 by_cases h1:mB=n
 case neg =>
  have t1:((mB:Int) == n)=false:=by rw [beq_eq_false_iff_ne]; omega
  have t2:((mB:Int) != n)=true:=by simpa using t1
  go_wp2;go_ret;exact⟨rfl,hE⟩
 case pos =>
 obtain rfl:n=mB:=h1.symm
 by_cases h1:nB=n
 case neg =>
  have t1:((nB:Int) == n)=false:=by rw [beq_eq_false_iff_ne]; omega
  have t2:((nB:Int) != n)=true:=by simpa using t1
  go_wp2;go_ret;exact⟨rfl,hE⟩
 case pos =>
 obtain rfl:n=nB:=h1.symm;obtain⟨rk,hrk⟩:=hid_eq (rref n T n).2.length;go_wp2_with (go_at_call 38; refine Hid.out ?_);refine (r5_rank (q:=17) (P:=4) (hMB.ext hE) hn0 (by omega) hn0 (by omega) HTH.out (.inl hn4) (by decide)).mono ?_;rintro e w5 ⟨rfl,e5⟩;rw [←hrk.out];replace hE:=hE.trans e5;replace B0:=e5.block B0;replace B1:=e5.block B1;replace hsz:=blk_lt B1;clear a0 a1 a2 b0 b1 b2 b3 b4 b5;obtain⟨a0,a1,a2,-⟩:=cells3 B0;obtain⟨b0,b1,b2,b3,b4,b5,-⟩:=cells6 B1;clear e5 q9
 by_cases h1:rk < n
 case pos =>
  have t1:decide ((rk:Int) < n)=true:=decide_eq_true (by omega);have t2:(rk:Int) < n:=by omega
  go_wp2;go_ret;exact⟨rfl,hE⟩
 case neg =>
 have t1:decide ((rk:Int) < n)=false:=decide_eq_false (by omega);have t2:¬ (rk:Int) < n:=by omega
 have HT:Hid (Reg n T):=(rank_iff n T).1 (by have:=(rref_len n T n).1; have:=hrk.out; omega);clear h1
 by_cases h1:kS'=n
 case neg =>
  have t3:((kS':Int) == n)=false:=by rw [beq_eq_false_iff_ne]; omega
  have t4:((kS':Int) != n)=true:=by simpa using t3
  go_wp2;go_ret;exact⟨rfl,hE⟩
 case pos =>
 obtain rfl:n=kS':=h1.symm;obtain⟨b4',hb4'⟩:=hid_eq (allB n (fun i=>okR (RS i)));go_wp2_with (go_at_call 29; refine Hid.out ?_);refine (r2_validList (hIS.ext hE) HSR.out).mono ?_;rintro e w5 ⟨rfl,e5⟩;rw [←hb4'.out];replace hE:=hE.trans e5;replace B0:=e5.block B0;replace B1:=e5.block B1;replace hsz:=blk_lt B1;clear a0 a1 a2 b0 b1 b2 b3 b4 b5;obtain⟨a0,a1,a2,-⟩:=cells3 B0;obtain⟨b0,b1,b2,b3,b4,b5,-⟩:=cells6 B1;clear e5;clear t1 t2;cases b4'
 case false =>
  go_wp2;go_ret;exact⟨rfl,hE⟩
 case true =>
 obtain⟨hLS,hSh⟩:=shB_lsv hb2'.out.symm hb4'.out.symm hIS;obtain⟨s,hs⟩:=hid_eq (fun i=>ratOf (RS i));rw [←hs.out] at hLS hSh;have HSH:=Lib.hid hSh;have HMD:Hid (Md m n (mm n X T) (fun i=>y i+av n X s i) (fun i=>kq*p i)):=HD.out.changed HX17.out HY17.out HP17.out HTH.out hSh HK.out HK0.out;have HRG:Hid (Reg n (nmat (mm n X T) (fun i=>kq*p i) m)):=reg_changed HD.out.pos HG.out HT.out HK0.out;clear hSh hIB hIS;go_wp2_with (go_at_call 39; refine Hid.out ?_);refine (r5_mul (hI1.ext hE) (hMB.ext hE) (by omega) hn0 (by omega) hn0 (by omega) HX17.out HTH.out (by omega)).mono ?_;rintro e w7 ⟨hM,cM,β,κ,rfl,hcM,hOw,e7⟩;have hAM:=MtV.all (hOw.mtv hOw.mle hcM);unfold maxLen at hcM;replace hE:=hE.trans e7;replace B0:=e7.block B0;replace B1:=e7.block B1;replace hsz:=blk_lt B1;clear a0 a1 a2 b0 b1 b2 b3 b4 b5;obtain⟨a0,a1,a2,-⟩:=cells3 B0;obtain⟨b0,b1,b2,b3,b4,b5,-⟩:=cells6 B1;clear e7 hOw;obtain⟨wb,hwb⟩:∃ wb,wb=w7:=⟨_,rfl⟩
 rw [←hwb] at hE B0 B1 hsz hAM a0 a1 a2 b0 b1 b2 b3 b4 b5 ⊢;clear hwb;go_upto_region 9 with (fail);refine boxes1 ?_;intro w8 e8 hsz8 BT;obtain⟨gt,hgt⟩:∃ gt,gt=wb.heap.size:=⟨_,rfl⟩
 have hgtb:wb.heap.size≤gt:=by omega
 have hgt8:gt+1≤w8.heap.size:=by omega
 rw [←hgt] at BT ⊢;have eb:=e8;clear hsz8 hgt a0 a1 a2 b0 b1 b2 b3 b4 b5;obtain⟨a0,a1,a2,-⟩:=cells3 (e8.block B0);obtain⟨b0,b1,b2,b3,b4,b5,-⟩:=cells6 (e8.block B1);go_wp2_with (go_at_call 31; refine Hid.out ?_);refine (r5_apply (hI1.ext (hE.trans e8)) (hLS.ext (hE.trans e8)) (by omega) hn0 (by omega) HX17.out HSH.out (by omega)).mono ?_;rintro e w9 ⟨AY,cY,rfl,hY,e9⟩;replace hY:LsV N w8.heap.size w9.heap.size w9 (.slice AY m cY) m (av n X s):=hY;replace BT:=e9.block BT;replace eb:=eb.trans e9;obtain⟨lo9,hlo9⟩:∃ lo9,lo9=w9.heap.size:=⟨_,rfl⟩
 have hgl9:gt+1≤lo9:=by have:=e9.size; omega
 have hNb:N≤wb.heap.size:=by have:=hE.size; omega
 rw [←hlo9] at hY;have hlo9':lo9≤w9.heap.size:=by omega
 clear e8 e9 hlo9 a0 a1 a2 b0 b1 b2 b3 b4 b5;go_wp2;obtain⟨bY,oY,rfl,hbY1,hbY2,hxY⟩:=LsR.addr hY hm0;clear hxY;obtain⟨ea1,oa1,rfl,-,-,hxa⟩:=LsR.addr hI2 hm0;obtain⟨ea3,oa3,rfl,-,-,hxc⟩:=LsR.addr hI3 hm0;have HXA:=Lib.hid hxa;have HXC:=Lib.hid hxc;have HZA:Hid (∀ i,i < m→Sz (y i)∧Sz (av n X s i)∧Sz (p i)):=fun i hi=>⟨(HY17.out i hi).sz (by omega),(sum_ht (n:=n) (k:=34) (K:=141) (x:=fun t=>X i t*s t) (fun t ht=>(HX17.out i hi t ht).mul (HSH.out t ht)) (Nat.le_refl _) (by omega)).sz (by omega),(HP17.out i hi).sz (by omega)⟩
 clear hxa hxc
 go_loopw [110] (fun j wr=>∃ i:Nat,i≤m∧j=.int .i64 i∧Ext wb wr∧lo9≤wr.heap.size∧LsV N w8.heap.size lo9 wr (.slice (some ⟨bY,oY,none⟩) m cY) m (av n X s)∧∃ AL cL AP cP,wr.heap[gt]?=some (.cells #[.slice (some ⟨hM,0,none⟩) m cM,.slice AL i cL,.slice AP i cP] 26 (0,0)) ∧
  Grow N lo9 wr (.slice AL i cL) i (fun k=>y k+av n X s k)∧Grow N lo9 wr (.slice AP i cP) i (fun k=>kq*p k)∧∀ k,(Value.slice AL i cL).ownBlock=some k→(Value.slice AP i cP).ownBlock≠some k) (fun j _=>m - (intOf j).toNat)
 case atStart=>exact⟨0,Nat.zero_le _,rfl,eb,hlo9',hY,none,0,none,0,BT,Grow.nil (by omega) hlo9' _,Grow.nil (by omega) hlo9' _,fun k hk=>by cases hk⟩
 case round =>
  clear hY eb BT hlo9';obtain⟨i,hi',rfl,eb,hlr,hY,AL,cL,AP,cP,BT,hGL,hGP,hDJ⟩:=hrel
  by_cases hlt:i < m
  ·obtain⟨b6,o6,ha6,-,-,hxY⟩:=LsR.addr hY hm0;obtain⟨n1,A7,k7,c7,A12,k12,c12,q0,q1,q2,q3,hb1,g1,g2⟩:=(hxY i hlt).open;injection ha6 with ha6
   injection ha6 with ha61 ha62
   subst ha61 ha62;clear hxY;go_upto_region 12 with (fail);refine boxes1 ?_;intro w5 e5 hsz5 B8;have hRt:RatV N w5 (.agg #[.bool n1,.slice A7 k7 c7,.bool false,.slice A12 k12 c12]) (av n X s i):=RatV.mk hb1 (g1.ext e5) (g2.ext e5);obtain⟨g8,hg8⟩:∃ g8,g8=wr.heap.size:=⟨_,rfl⟩
   rw [←hg8] at B8 ⊢;replace eb:=eb.trans e5;replace hY:=LsR.ext hY e5;replace BT:=e5.block BT;replace hGL:=hGL.ext e5;replace hGP:=hGP.ext e5;replace hlr:lo9≤w5.heap.size:=by omega
   clear q0 q1 q2 q3 hb1 g1 g2 hsz5 hg8 e5;have hE5:=hE.trans eb;obtain⟨n5,A13,k13,c13,A14,k14,c14,q0,q1,q2,q3,hb5,g5,g6⟩:=((HXA.out i hlt).ext hE5).open;have hRy:=RatV.mk hb5 g5 g6;obtain⟨t0,t1,t2,t3,-⟩:=cells4 B8;obtain⟨a0,a1,a2,-⟩:=cells3 (eb.block B0);obtain⟨v0,v1,v2,-⟩:=cells3 BT;have HZ1:=Lib.hid (HZA.out i hlt).1;have HZ2:=Lib.hid (HZA.out i hlt).2.1;clear hb5 g5 g6 a0 a2 v0 v2 hE5;refine region_inv [Mn.eq (.pointer (some ⟨gt,1,none⟩)),Mn.eq (.slice AL i cL),Mn.eq (.pointer (some ⟨w.heap.size,1,none⟩)),Mn.eq (.slice (some ⟨ea1,oa1,none⟩) m c2),Mn.eq (.int .i64 (i:Int)),Mn.eq (.pointer (some ⟨ea1,oa1+i*4,none⟩)),Mn.rat N (y i),Mn.rat N (av n X s i),Mn.rat N (y i+av n X s i),Mn.rbk N (y i+av n X s i),Mn.any,Mn.any,Mn.any] [some 115,some 116,some 117,some 118,some 119,some 120,some 121,some 122,some 123,some 124,some 125,some 126,none] [10,11,12] [true,true,true,true,true,true,true,true,true,true,false,false,false] 3 (by kernel_rfl) (by kernel_rfl) (by kernel_rfl) (by kernel_rfl) (by kernel_rfl) (by kernel_rfl) (by kernel_rfl) (by kernel_rfl) ?_ ?_
   ·intro i hi hl;have hi':i=0∨i=1∨i=2∨i=3∨i=4∨i=5∨i=6∨i=7∨i=8∨i=9∨i=10∨i=11∨i=12:=by have h9:i < 13:=hi; omega
    clear hi
    rcases hi' with rfl | rfl | rfl | rfl | rfl | rfl | rfl | rfl | rfl | rfl | rfl | rfl | rfl
    ·clear hl;refine stp rfl ?_;intro ac wi eI hB hA K hK;have o6:=hB 6 (by kernel_rfl);simp only [List.getElem?_toArray,List.getElem?_cons_succ,List.getElem?_cons_zero] at o6;clear hB hA;go_simp;exact hK.out _ _ (Ext.refl _) rfl
    ·clear hl;refine stp rfl ?_;intro ac wi eI hB hA K hK;obtain⟨_,s115,rfl⟩:=hA 0 (by kernel_rfl) 115 rfl;clear hB hA;have cc0:=eI.cell v1;go_simp;exact hK.out _ _ (Ext.refl _) rfl
    ·clear hl;refine stp rfl ?_;intro ac wi eI hB hA K hK;have o2:=hB 2 (by kernel_rfl);simp only [List.getElem?_toArray,List.getElem?_cons_succ,List.getElem?_cons_zero] at o2;clear hB hA;go_simp;exact hK.out _ _ (Ext.refl _) rfl
    ·clear hl;refine stp rfl ?_;intro ac wi eI hB hA K hK;obtain⟨_,s117,rfl⟩:=hA 2 (by kernel_rfl) 117 rfl;clear hB hA;have cc0:=eI.cell a1;go_simp;exact hK.out _ _ (Ext.refl _) rfl
    ·clear hl;refine stp rfl ?_;intro ac wi eI hB hA K hK;have o7:=hB 7 (by kernel_rfl);simp only [List.getElem?_toArray,List.getElem?_cons_succ,List.getElem?_cons_zero] at o7;clear hB hA;go_simp;exact hK.out _ _ (Ext.refl _) rfl
    ·clear hl;refine stp rfl ?_;intro ac wi eI hB hA K hK;obtain⟨_,s118,rfl⟩:=hA 3 (by kernel_rfl) 118 rfl;obtain⟨_,s119,rfl⟩:=hA 4 (by kernel_rfl) 119 rfl;clear hB hA;go_simp;exact hK.out _ _ (Ext.refl _) rfl
    ·clear hl;refine stp rfl ?_;intro ac wi eI hB hA K hK;obtain⟨_,s120,rfl⟩:=hA 5 (by kernel_rfl) 120 rfl;clear hB hA;have cc0:=eI.cell q0;have cc1:=eI.cell q1;have cc2:=eI.cell q2;have cc3:=eI.cell q3;go_simp;exact hK.out _ _ (Ext.refl _) (hRy.ext eI)
    ·clear hl;refine stp rfl ?_;intro ac wi eI hB hA K hK;have o8:=hB 8 (by kernel_rfl);simp only [List.getElem?_toArray,List.getElem?_cons_succ,List.getElem?_cons_zero] at o8;clear hB hA;have cc0:=eI.cell t0;have cc1:=eI.cell t1;have cc2:=eI.cell t2;have cc3:=eI.cell t3;go_simp;exact hK.out _ _ (Ext.refl _) (hRt.ext eI)
    ·clear hl;refine stp rfl ?_;intro ac wi eI hB hA K hK;obtain⟨x121,s121,j121⟩:=hA 6 (by kernel_rfl) 121 rfl;replace j121:Mn.p (Mn.rat N (y i)) x121 wi:=j121;obtain⟨x122,s122,j122⟩:=hA 7 (by kernel_rfl) 122 rfl;replace j122:Mn.p (Mn.rat N (av n X s i)) x122 wi:=j122;clear hB hA;go_simp;refine (l38_add j121 j122 HZ1.out HZ2.out).mono ?_;rintro e wj ⟨vj,rfl,hj,ej⟩;go_wp2_with fail;exact hK.out _ _ ej hj
    ·clear hl;refine stp rfl ?_;intro ac wi eI hB hA K hK;obtain⟨x123,s123,j123⟩:=hA 8 (by kernel_rfl) 123 rfl;replace j123:Mn.p (Mn.rat N (y i+av n X s i)) x123 wi:=j123;clear hB hA;obtain⟨bj,Aj,kj,cj,Aj',kj',cj',rfl,hbj,gj1,gj2⟩:=RatV.parts j123;go_simp;refine boxes1 ?_;intro wj ej hszj BJ;exact hK.out _ _ ej ⟨_,rfl,BoxR.mk BJ hbj (gj1.ext ej) (gj2.ext ej)⟩
    ·exact absurd hl (by decide)
    ·exact absurd hl (by decide)
    ·exact absurd hl (by decide)
   intro vals wz eZ hJ;have J115:vals 0=(.pointer (some ⟨gt,1,none⟩)):=hJ 0 (by decide) (by decide);have J116:vals 1=(.slice AL i cL):=hJ 1 (by decide) (by decide);have J117:vals 2=(.pointer (some ⟨w.heap.size,1,none⟩)):=hJ 2 (by decide) (by decide);have J118:vals 3=(.slice (some ⟨ea1,oa1,none⟩) m c2):=hJ 3 (by decide) (by decide);have J119:vals 4=(.int .i64 (i:Int)):=hJ 4 (by decide) (by decide);have J120:vals 5=(.pointer (some ⟨ea1,oa1+i*4,none⟩)):=hJ 5 (by decide) (by decide);have J121:Mn.p (Mn.rat N (y i)) (vals 6) wz:=hJ 6 (by decide) (by decide);have J122:Mn.p (Mn.rat N (av n X s i)) (vals 7) wz:=hJ 7 (by decide) (by decide);have J123:Mn.p (Mn.rat N (y i+av n X s i)) (vals 8) wz:=hJ 8 (by decide) (by decide);have J124:Mn.p (Mn.rbk N (y i+av n X s i)) (vals 9) wz:=hJ 9 (by decide) (by decide);clear hJ;simp only [putAll,if_true,Bool.false_eq_true,if_false,Act.put,Nat.zero_add,Nat.reduceAdd,List.setIfInBounds_toArray,List.set_cons_zero,List.set_cons_succ,J115,J116,J117,J118,J119,J120];clear J115 J116 J117 J118 J119 J120
   generalize vals 6=z121 at J121 ⊢
   generalize vals 7=z122 at J122 ⊢
   generalize vals 8=z123 at J123 ⊢
   generalize vals 9=z124 at J124 ⊢
   obtain⟨gb,rfl,bj,Aj,kj,cj,Aj',kj',cj',BX,hbj,gj1,gj2⟩:=J124;have hGLz:=hGL.ext eZ;have hGPz:=hGP.ext eZ;have hYz:=LsR.ext hY eZ;have BTz:=eZ.block BT;have ebz:=eb.trans eZ;refine stepL_late (i:=10) rfl (by kernel_rfl) (by kernel_rfl) (fun K hK=>?_);refine step_append_rat_at rfl _ _ 24 Tryz.underlying24 rfl (by rfl) hGLz (by rfl) BX hbj gj1 gj2 (by omega) ?_;rintro gq cq w17 g' hG8 hb9 c17 u1' u2';have BT7:=c17.blk BTz (.inl (by omega));obtain⟨u0,u1,u2,u3,u4,u5⟩:=cells3 BT7;refine hK.out _ _ ?_;clear hK K;try simp only [nr]
   refine stepL_late (i:=11) rfl (by kernel_rfl) (by kernel_rfl) (fun K hK=>?_);go_simp;refine hK.out _ _ ?_;clear hK K;try simp only [nr]
   refine stepL_late (i:=12) rfl (by kernel_rfl) (by kernel_rfl) (fun K hK=>?_);go_simp;refine hK.out _ _ ?_;clear hK K;try simp only [nr]
   refine stepL_done (by kernel_rfl) ?_ _;obtain⟨w18,E18,D18,U18⟩:=set31 BT7 (.slice (some ⟨gq,0,none⟩) (i+1) cq);rw [E18];have C18:=U18.chg (NoU.mk BT7 (by decide));obtain⟨hGP7,hDJ7⟩:=two_app (k1:=i+1) (cap:=cq) hGPz hDJ c17 (by omega) u1' u2';replace hG8:=(hG8.congr (y:=fun k=>y k+av n X s k) (fun j _=>by unfold upd; split <;> simp_all)).chg C18 (by omega) (by omega);replace hGP7:=hGP7.chg C18 (by omega) (by omega);have hY8:=LsR.chg (LsR.chg hYz c17 (by omega) (.inl (by omega))) C18 (by omega) (.inr hgt8);have eb8:=C18.ext (c17.ext ebz (by omega)) hgtb;have hs18:lo9≤w18.heap.size:=by have:=C18.size; have:=c17.size; have:=eZ.size; omega
   clear t0 t1 t2 t3 q0 q1 q2 q3 a1 v1 u0 u1 u2 u3 u4 u5 BX hbj gj1 gj2 c17 hGLz hGPz hYz BTz ebz hGL hGP hY BT eb hDJ J123 B8 hRt hRy BT7 U18 C18 E18 eZ u1' u2' hlr;have hE8:=hE.trans eb8;obtain⟨n5,A13,k13,c13,A14,k14,c14,q0,q1,q2,q3,hb5,g5,g6⟩:=((HXC.out i hlt).ext hE8).open;have hRp:=RatV.mk hb5 g5 g6;have hRk:=hIr.ext hE8;obtain⟨a0,a1,a2,-⟩:=cells3 (eb8.block B0);obtain⟨b0,b1,b2,b3,b4,b5,-⟩:=cells6 (eb8.block B1);obtain⟨v0,v1,v2,-⟩:=cells3 D18;have HZ3:=Lib.hid (HZA.out i hlt).2.2;clear hb5 g5 g6 a0 a1 v0 v1 hE8 b0 b5;go_upto_region 13 with (fail);refine region_inv [Mn.eq (.pointer (some ⟨gt,2,none⟩)),Mn.eq (.slice AP i cP),Mn.eq (.pointer (some ⟨w.heap.size+1,1,none⟩)),Mn.eq (.agg #[.bool R.b1,.slice Q1 k1 l1,.bool R.b2,.slice Q2 k2 l2]),Mn.eq (.pointer (some ⟨w.heap.size,2,none⟩)),Mn.eq (.slice (some ⟨ea3,oa3,none⟩) m c3),Mn.eq (.int .i64 (i:Int)),Mn.eq (.pointer (some ⟨ea3,oa3+i*4,none⟩)),Mn.rat N (p i),Mn.rat N (kq*p i),Mn.rbk N (kq*p i),Mn.any,Mn.any,Mn.any] [some 127,some 128,some 129,some 130,some 131,some 132,some 133,some 134,some 135,some 136,some 137,some 138,some 139,none] [11,12,13] [true,true,true,true,true,true,true,true,true,true,true,false,false,false] 3 (by kernel_rfl) (by kernel_rfl) (by kernel_rfl) (by kernel_rfl) (by kernel_rfl) (by kernel_rfl) (by kernel_rfl) (by kernel_rfl) ?_ ?_
   ·intro i hi hl;have hi':i=0∨i=1∨i=2∨i=3∨i=4∨i=5∨i=6∨i=7∨i=8∨i=9∨i=10∨i=11∨i=12∨i=13:=by have h9:i < 14:=hi; omega
    clear hi
    rcases hi' with rfl | rfl | rfl | rfl | rfl | rfl | rfl | rfl | rfl | rfl | rfl | rfl | rfl | rfl
    ·clear hl;refine stp rfl ?_;intro ac wi eI hB hA K hK;have o6:=hB 6 (by kernel_rfl);simp only [List.getElem?_toArray,List.getElem?_cons_succ,List.getElem?_cons_zero] at o6;clear hB hA;go_simp;exact hK.out _ _ (Ext.refl _) rfl
    ·clear hl;refine stp rfl ?_;intro ac wi eI hB hA K hK;obtain⟨_,s127,rfl⟩:=hA 0 (by kernel_rfl) 127 rfl;clear hB hA;have cc0:=eI.cell v2;go_simp;exact hK.out _ _ (Ext.refl _) rfl
    ·clear hl;refine stp rfl ?_;intro ac wi eI hB hA K hK;have o3:=hB 3 (by kernel_rfl);simp only [List.getElem?_toArray,List.getElem?_cons_succ,List.getElem?_cons_zero] at o3;clear hB hA;go_simp;exact hK.out _ _ (Ext.refl _) rfl
    ·clear hl;refine stp rfl ?_;intro ac wi eI hB hA K hK;obtain⟨_,s129,rfl⟩:=hA 2 (by kernel_rfl) 129 rfl;clear hB hA;have cc0:=eI.cell b1;have cc1:=eI.cell b2;have cc2:=eI.cell b3;have cc3:=eI.cell b4;go_simp;exact hK.out _ _ (Ext.refl _) rfl
    ·clear hl;refine stp rfl ?_;intro ac wi eI hB hA K hK;have o2:=hB 2 (by kernel_rfl);simp only [List.getElem?_toArray,List.getElem?_cons_succ,List.getElem?_cons_zero] at o2;clear hB hA;go_simp;exact hK.out _ _ (Ext.refl _) rfl
    ·clear hl;refine stp rfl ?_;intro ac wi eI hB hA K hK;obtain⟨_,s131,rfl⟩:=hA 4 (by kernel_rfl) 131 rfl;clear hB hA;have cc0:=eI.cell a2;go_simp;exact hK.out _ _ (Ext.refl _) rfl
    ·clear hl;refine stp rfl ?_;intro ac wi eI hB hA K hK;have o7:=hB 7 (by kernel_rfl);simp only [List.getElem?_toArray,List.getElem?_cons_succ,List.getElem?_cons_zero] at o7;clear hB hA;go_simp;exact hK.out _ _ (Ext.refl _) rfl
    ·clear hl;refine stp rfl ?_;intro ac wi eI hB hA K hK;obtain⟨_,s132,rfl⟩:=hA 5 (by kernel_rfl) 132 rfl;obtain⟨_,s133,rfl⟩:=hA 6 (by kernel_rfl) 133 rfl;clear hB hA;go_simp;exact hK.out _ _ (Ext.refl _) rfl
    ·clear hl;refine stp rfl ?_;intro ac wi eI hB hA K hK;obtain⟨_,s134,rfl⟩:=hA 7 (by kernel_rfl) 134 rfl;clear hB hA;have cc0:=eI.cell q0;have cc1:=eI.cell q1;have cc2:=eI.cell q2;have cc3:=eI.cell q3;go_simp;exact hK.out _ _ (Ext.refl _) (hRp.ext eI)
    ·clear hl;refine stp rfl ?_;intro ac wi eI hB hA K hK;obtain⟨_,s130,rfl⟩:=hA 3 (by kernel_rfl) 130 rfl;obtain⟨x135,s135,j135⟩:=hA 8 (by kernel_rfl) 135 rfl;replace j135:Mn.p (Mn.rat N (p i)) x135 wi:=j135;clear hB hA;go_simp;refine (l38_mul (hRk.ext eI) j135 HZK.out HZ3.out).mono ?_;rintro e wj ⟨vj,rfl,hj,ej⟩;go_wp2_with fail;exact hK.out _ _ ej hj
    ·clear hl;refine stp rfl ?_;intro ac wi eI hB hA K hK;obtain⟨x136,s136,j136⟩:=hA 9 (by kernel_rfl) 136 rfl;replace j136:Mn.p (Mn.rat N (kq*p i)) x136 wi:=j136;clear hB hA;obtain⟨bj,Aj,kj,cj,Aj',kj',cj',rfl,hbj,gj1,gj2⟩:=RatV.parts j136;go_simp;refine boxes1 ?_;intro wj ej hszj BJ;exact hK.out _ _ ej ⟨_,rfl,BoxR.mk BJ hbj (gj1.ext ej) (gj2.ext ej)⟩
    ·exact absurd hl (by decide)
    ·exact absurd hl (by decide)
    ·exact absurd hl (by decide)
   intro vals wz eZ hJ;have J127:vals 0=(.pointer (some ⟨gt,2,none⟩)):=hJ 0 (by decide) (by decide);have J128:vals 1=(.slice AP i cP):=hJ 1 (by decide) (by decide);have J129:vals 2=(.pointer (some ⟨w.heap.size+1,1,none⟩)):=hJ 2 (by decide) (by decide);have J130:vals 3=(.agg #[.bool R.b1,.slice Q1 k1 l1,.bool R.b2,.slice Q2 k2 l2]):=hJ 3 (by decide) (by decide);have J131:vals 4=(.pointer (some ⟨w.heap.size,2,none⟩)):=hJ 4 (by decide) (by decide);have J132:vals 5=(.slice (some ⟨ea3,oa3,none⟩) m c3):=hJ 5 (by decide) (by decide);have J133:vals 6=(.int .i64 (i:Int)):=hJ 6 (by decide) (by decide);have J134:vals 7=(.pointer (some ⟨ea3,oa3+i*4,none⟩)):=hJ 7 (by decide) (by decide);have J135:Mn.p (Mn.rat N (p i)) (vals 8) wz:=hJ 8 (by decide) (by decide);have J136:Mn.p (Mn.rat N (kq*p i)) (vals 9) wz:=hJ 9 (by decide) (by decide);have J137:Mn.p (Mn.rbk N (kq*p i)) (vals 10) wz:=hJ 10 (by decide) (by decide);clear hJ;simp only [putAll,if_true,Bool.false_eq_true,if_false,Act.put,Nat.zero_add,Nat.reduceAdd,List.setIfInBounds_toArray,List.set_cons_zero,List.set_cons_succ,J127,J128,J129,J130,J131,J132,J133,J134];clear J127 J128 J129 J130 J131 J132 J133 J134
   generalize vals 8=z135 at J135 ⊢
   generalize vals 9=z136 at J136 ⊢
   generalize vals 10=z137 at J137 ⊢
   obtain⟨gb,rfl,bj,Aj,kj,cj,Aj',kj',cj',BX,hbj,gj1,gj2⟩:=J137;have hGLz:=hG8.ext eZ;have hGPz:=hGP7.ext eZ;have hYz:=LsR.ext hY8 eZ;have BTz:=eZ.block D18;have ebz:=eb8.trans eZ;refine stepL_late (i:=11) rfl (by kernel_rfl) (by kernel_rfl) (fun K hK=>?_);refine step_append_rat_at rfl _ _ 24 Tryz.underlying24 rfl (by rfl) hGPz (by rfl) BX hbj gj1 gj2 (by omega) ?_;rintro gq2 cq2 w19 g2' hG9 hb9' c19 u1' u2';have BT7:=c19.blk BTz (.inl (by omega));obtain⟨u0,u1,u2,u3,u4,u5⟩:=cells3 BT7;refine hK.out _ _ ?_;clear hK K;try simp only [nr]
   refine stepL_late (i:=12) rfl (by kernel_rfl) (by kernel_rfl) (fun K hK=>?_);go_simp;refine hK.out _ _ ?_;clear hK K;try simp only [nr]
   refine stepL_late (i:=13) rfl (by kernel_rfl) (by kernel_rfl) (fun K hK=>?_);go_simp;refine hK.out _ _ ?_;clear hK K;try simp only [nr]
   refine stepL_done (by kernel_rfl) ?_ _;obtain⟨w20,E20,D20,U20⟩:=set32 BT7 (.slice (some ⟨gq2,0,none⟩) (i+1) cq2);rw [E20];have C20:=U20.chg (NoU.mk BT7 (by decide));obtain⟨hGL9,hDJ9⟩:=two_app (k1:=i+1) (cap:=cq2) hGLz (two_swap hDJ7) c19 (by omega) u1' u2';replace hG9:=(hG9.congr (y:=fun k=>kq*p k) (fun j _=>by unfold upd; split <;> simp_all)).chg C20 (by omega) (by omega);replace hGL9:=hGL9.chg C20 (by omega) (by omega);have hY9:=LsR.chg (LsR.chg hYz c19 (by omega) (.inl (by omega))) C20 (by omega) (.inr hgt8);have eb9:=C20.ext (c19.ext ebz (by omega)) hgtb;have hs20:lo9≤w20.heap.size:=by have:=C20.size; have:=c19.size; have:=eZ.size; omega
   clear q0 q1 q2 q3 a2 b1 b2 b3 b4 v2 u0 u1 u2 u3 u4 u5 BX hbj gj1 gj2 c19 hGLz hGPz hYz BTz ebz hG8 hGP7 hY8 D18 eb8 hDJ7 J136 hRp hRk BT7 U20 C20 E20 eZ u1' u2' hs18;go_wp2;go_roundw
   case rel=>exact⟨i+1,by omega,by go_num,eb9,hs20,hY9,_,_,_,_,D20,hGL9,hG9,two_swap hDJ9⟩
   case measure=>simp [intOf]; omega
  ·obtain rfl:m=i:=by omega
   clear hY hDJ HXA HXC;have hE20:=hE.trans eb;have B1r:=eb.block B1;have hMt:=MtV.all (hAM.ext eb);have hLl:=hGL.lsv (lo:=0) (Nat.zero_le _) rfl;have hPl:=hGP.lsv (lo:=0) (Nat.zero_le _) rfl;obtain⟨a0,a1,a2,-⟩:=cells3 (eb.block B0);clear hGL hGP;go_wp2_with (go_at_call 34; refine Hid.out ?_);refine (sn_Statistics (hI1.ext hE20) (hI2.ext hE20) (hI3.ext hE20) HD.out HG.out).mono ?_;rintro e w21 ⟨AU,cU,AV,cV,rfl,hU,hV,e21⟩;replace BT:=e21.block BT;replace hE20:=hE20.trans e21;replace B1r:=e21.block B1r;replace hMt:=MtV.all (hMt.ext e21);replace hLl:=LsV.all (hLl.ext e21);replace hPl:=LsV.all (hPl.ext e21);clear a0 a1 a2 eb e21;obtain⟨v0,v1,v2,-⟩:=cells3 BT;go_wp2_with (go_at_call 34; refine Hid.out ?_);refine (sn_Statistics hMt hLl hPl HMD.out HRG.out).mono ?_;rintro e w22 ⟨AG,cG,AH,cH,rfl,hG,hH,e22⟩;have HEQ:Hid (∀ j,j < m→kS m n (mm n X T) (fun i=>kq*p i) j=kS m n X p j∧zS m n (mm n X T) (fun i=>y i+av n X s i) (fun i=>kq*p i) j=kq*zS m n X y p j):=fun j hj=>changed_eq HD.out HMD.out HG.out HRG.out HT.out hj
   have HZ9:Hid (∀ j,j < m→Sz (zS m n X y p j)∧Sz (zS m n (mm n X T) (fun i=>y i+av n X s i) (fun i=>kq*p i) j)):=fun j hj=>⟨(zS_ht HD.out j hj).sz (by omega),(zS_ht HMD.out j hj).sz (by omega)⟩
   replace hH:=hH.congr (fun j hj=>(HEQ.out j hj).1);replace hE20:=hE20.trans e22;replace B1r:=e22.block B1r;replace hU:=LsV.all (hU.ext e22);replace hV:=hV.ext e22;clear v0 v1 v2 BT hMt hLl hPl e22;go_wp2_with (go_at_call 41; refine Hid.out ?_);refine (sl_eqBools hV hH).mono ?_;rintro e w23 ⟨rfl,e23⟩;replace hE20:=hE20.trans e23;replace B1r:=e23.block B1r;replace hU:=LsV.all (hU.ext e23);replace hG:=LsV.all (hG.ext e23);clear hV hH e23;obtain⟨bU,oU,rfl,-,-,hxU⟩:=LsR.addr hU hm0;obtain⟨bG,oG,rfl,-,-,hxG⟩:=LsR.addr hG hm0;have HXU:=Lib.hid hxU;have HXG:=Lib.hid hxG;obtain⟨zu,hzu⟩:=hid_eq (zS m n X y p);obtain⟨zg,hzg⟩:=hid_eq (zS m n (mm n X T) (fun i=>y i+av n X s i) (fun i=>kq*p i));have HE9:Hid (∀ j,j < m→zg j=kq*zu j):=by rw [Hid,hzu.out,hzg.out]; exact fun j hj=>(HEQ.out j hj).2
   rw [←hzu.out] at HXU HZ9;rw [←hzg.out] at HXG HZ9;clear hxU hxG hU hG HEQ;obtain⟨wv,hwv⟩:∃ wv,wv=w23:=⟨_,rfl⟩
   rw [←hwv] at hE20 HXU HXG B1r ⊢;clear hwv;go_wp2
   go_loopw [174] (fun j wr=>∃ a:Nat,a≤m∧j=.int .i64 a∧Ext wv wr) (fun j _=>m - (intOf j).toNat)
   case atStart=>exact⟨0,Nat.zero_le _,rfl,Ext.refl _⟩
   case round =>
    obtain⟨a,ha,rfl,eV⟩:=hrel
    by_cases hla:a < m
    ·obtain⟨n1,A7,k7,c7,A12,k12,c12,q0,q1,q2,q3,hb1,g1,g2⟩:=((HXU.out a hla).ext eV).open;obtain⟨n3,A13,k13,c13,A14,k14,c14,s0,s1,s2,s3,hb3,g3,g4⟩:=((HXG.out a hla).ext eV).open;have hRu:RatV N wr (.agg #[.bool n1,.slice A7 k7 c7,.bool false,.slice A12 k12 c12]) (zu a):=RatV.mk hb1 g1 g2;have hRg:RatV N wr (.agg #[.bool n3,.slice A13 k13 c13,.bool false,.slice A14 k14 c14]) (zg a):=RatV.mk hb3 g3 g4;have hRk:=hIr.ext (hE20.trans eV);obtain⟨b0,b1,b2,b3,b4,b5,-⟩:=cells6 (eV.block B1r);have HS1:=Lib.hid (HZ9.out a hla).1;have HS2:=Lib.hid (HZ9.out a hla).2;have HEA:=Lib.hid (HE9.out a hla);clear hb1 g1 g2 hb3 g3 g4 b0 b5;go_upto_region 22 with (fail);refine region_inv [Mn.eq (.slice (some ⟨bG,oG,none⟩) m cG),Mn.eq (.int .i64 (a:Int)),Mn.eq (.pointer (some ⟨bG,oG+a*4,none⟩)),Mn.rat N (zg a),Mn.eq (.pointer (some ⟨w.heap.size+1,1,none⟩)),Mn.eq (.agg #[.bool R.b1,.slice Q1 k1 l1,.bool R.b2,.slice Q2 k2 l2]),Mn.eq (.slice (some ⟨bU,oU,none⟩) m cU),Mn.eq (.int .i64 (a:Int)),Mn.eq (.pointer (some ⟨bU,oU+a*4,none⟩)),Mn.rat N (zu a),Mn.rat N (kq*zu a),Mn.eq (.bool true),Mn.eq (.bool false)] [some 177,some 178,some 179,some 180,some 181,some 182,some 183,some 184,some 185,some 186,some 187,some 188,some 189] [] [true,true,true,true,true,true,true,true,true,true,true,true,true] 0 (by kernel_rfl) (by kernel_rfl) (by kernel_rfl) (by kernel_rfl) (by kernel_rfl) (by kernel_rfl) (by kernel_rfl) (by kernel_rfl) ?_ ?_
     ·intro i hi hl;have hi':i=0∨i=1∨i=2∨i=3∨i=4∨i=5∨i=6∨i=7∨i=8∨i=9∨i=10∨i=11∨i=12:=by have h9:i < 13:=hi; omega
      clear hi
      rcases hi' with rfl | rfl | rfl | rfl | rfl | rfl | rfl | rfl | rfl | rfl | rfl | rfl | rfl
      ·clear hl;refine stp rfl ?_;intro ac wi eI hB hA K hK;have o12:=hB 12 (by kernel_rfl);simp only [List.getElem?_toArray,List.getElem?_cons_succ,List.getElem?_cons_zero] at o12;clear hB hA;go_simp;exact hK.out _ _ (Ext.refl _) rfl
      ·clear hl;refine stp rfl ?_;intro ac wi eI hB hA K hK;have o15:=hB 15 (by kernel_rfl);simp only [List.getElem?_toArray,List.getElem?_cons_succ,List.getElem?_cons_zero] at o15;clear hB hA;go_simp;exact hK.out _ _ (Ext.refl _) rfl
      ·clear hl;refine stp rfl ?_;intro ac wi eI hB hA K hK;obtain⟨_,s177,rfl⟩:=hA 0 (by kernel_rfl) 177 rfl;obtain⟨_,s178,rfl⟩:=hA 1 (by kernel_rfl) 178 rfl;clear hB hA;go_simp;exact hK.out _ _ (Ext.refl _) rfl
      ·clear hl;refine stp rfl ?_;intro ac wi eI hB hA K hK;obtain⟨_,s179,rfl⟩:=hA 2 (by kernel_rfl) 179 rfl;clear hB hA;have cc0:=eI.cell s0;have cc1:=eI.cell s1;have cc2:=eI.cell s2;have cc3:=eI.cell s3;go_simp;exact hK.out _ _ (Ext.refl _) (hRg.ext eI)
      ·clear hl;refine stp rfl ?_;intro ac wi eI hB hA K hK;have o3:=hB 3 (by kernel_rfl);simp only [List.getElem?_toArray,List.getElem?_cons_succ,List.getElem?_cons_zero] at o3;clear hB hA;go_simp;exact hK.out _ _ (Ext.refl _) rfl
      ·clear hl;refine stp rfl ?_;intro ac wi eI hB hA K hK;obtain⟨_,s181,rfl⟩:=hA 4 (by kernel_rfl) 181 rfl;clear hB hA;have cc0:=eI.cell b1;have cc1:=eI.cell b2;have cc2:=eI.cell b3;have cc3:=eI.cell b4;go_simp;exact hK.out _ _ (Ext.refl _) rfl
      ·clear hl;refine stp rfl ?_;intro ac wi eI hB hA K hK;have o9:=hB 9 (by kernel_rfl);simp only [List.getElem?_toArray,List.getElem?_cons_succ,List.getElem?_cons_zero] at o9;clear hB hA;go_simp;exact hK.out _ _ (Ext.refl _) rfl
      ·clear hl;refine stp rfl ?_;intro ac wi eI hB hA K hK;have o15:=hB 15 (by kernel_rfl);simp only [List.getElem?_toArray,List.getElem?_cons_succ,List.getElem?_cons_zero] at o15;clear hB hA;go_simp;exact hK.out _ _ (Ext.refl _) rfl
      ·clear hl;refine stp rfl ?_;intro ac wi eI hB hA K hK;obtain⟨_,s183,rfl⟩:=hA 6 (by kernel_rfl) 183 rfl;obtain⟨_,s184,rfl⟩:=hA 7 (by kernel_rfl) 184 rfl;clear hB hA;go_simp;exact hK.out _ _ (Ext.refl _) rfl
      ·clear hl;refine stp rfl ?_;intro ac wi eI hB hA K hK;obtain⟨_,s185,rfl⟩:=hA 8 (by kernel_rfl) 185 rfl;clear hB hA;have cc0:=eI.cell q0;have cc1:=eI.cell q1;have cc2:=eI.cell q2;have cc3:=eI.cell q3;go_simp;exact hK.out _ _ (Ext.refl _) (hRu.ext eI)
      ·clear hl;refine stp rfl ?_;intro ac wi eI hB hA K hK;obtain⟨_,s182,rfl⟩:=hA 5 (by kernel_rfl) 182 rfl;obtain⟨x186,s186,j186⟩:=hA 9 (by kernel_rfl) 186 rfl;replace j186:Mn.p (Mn.rat N (zu a)) x186 wi:=j186;clear hB hA;go_simp;refine (l38_mul (hRk.ext eI) j186 HZK.out HS1.out).mono ?_;rintro e wj ⟨vj,rfl,hj,ej⟩;go_wp2_with fail;exact hK.out _ _ ej hj
      ·clear hl;refine stp rfl ?_;intro ac wi eI hB hA K hK;obtain⟨x180,s180,j180⟩:=hA 3 (by kernel_rfl) 180 rfl;replace j180:Mn.p (Mn.rat N (zg a)) x180 wi:=j180;obtain⟨x187,s187,j187⟩:=hA 10 (by kernel_rfl) 187 rfl;replace j187:Mn.p (Mn.rat N (kq*zu a)) x187 wi:=j187;clear hB hA;go_simp;refine (r2_same j180 j187 HS2.out HEA.out).mono ?_;rintro e wj ⟨rfl,ej⟩;go_wp2_with fail;exact hK.out _ _ ej rfl
      ·clear hl;refine stp rfl ?_;intro ac wi eI hB hA K hK;obtain⟨_,s188,rfl⟩:=hA 11 (by kernel_rfl) 188 rfl;clear hB hA;go_simp;exact hK.out _ _ (Ext.refl _) rfl
     intro vals wz eZ hJ;have J177:vals 0=(.slice (some ⟨bG,oG,none⟩) m cG):=hJ 0 (by decide) (by decide);have J178:vals 1=(.int .i64 (a:Int)):=hJ 1 (by decide) (by decide);have J179:vals 2=(.pointer (some ⟨bG,oG+a*4,none⟩)):=hJ 2 (by decide) (by decide);have J180:Mn.p (Mn.rat N (zg a)) (vals 3) wz:=hJ 3 (by decide) (by decide);have J181:vals 4=(.pointer (some ⟨w.heap.size+1,1,none⟩)):=hJ 4 (by decide) (by decide);have J182:vals 5=(.agg #[.bool R.b1,.slice Q1 k1 l1,.bool R.b2,.slice Q2 k2 l2]):=hJ 5 (by decide) (by decide);have J183:vals 6=(.slice (some ⟨bU,oU,none⟩) m cU):=hJ 6 (by decide) (by decide);have J184:vals 7=(.int .i64 (a:Int)):=hJ 7 (by decide) (by decide);have J185:vals 8=(.pointer (some ⟨bU,oU+a*4,none⟩)):=hJ 8 (by decide) (by decide);have J186:Mn.p (Mn.rat N (zu a)) (vals 9) wz:=hJ 9 (by decide) (by decide);have J187:Mn.p (Mn.rat N (kq*zu a)) (vals 10) wz:=hJ 10 (by decide) (by decide);have J188:vals 11=(.bool true):=hJ 11 (by decide) (by decide);have J189:vals 12=(.bool false):=hJ 12 (by decide) (by decide);clear hJ;simp only [putAll,if_true,Bool.false_eq_true,if_false,Act.put,Nat.zero_add,Nat.reduceAdd,List.setIfInBounds_toArray,List.set_cons_zero,List.set_cons_succ,J177,J178,J179,J181,J182,J183,J184,J185,J188,J189];clear J177 J178 J179 J181 J182 J183 J184 J185 J188 J189
     generalize vals 3=z180 at J180 ⊢
     generalize vals 9=z186 at J186 ⊢
     generalize vals 10=z187 at J187 ⊢
     refine stepL_done (by kernel_rfl) ?_ _;go_wp2;go_roundw
     case rel=>exact⟨a+1,by omega,by go_num,eV.trans eZ⟩
     case measure=>simp [intOf]; omega
    ·obtain rfl:m=a:=by omega
     go_wp2;go_ret;exact⟨rfl,hE20.trans eV⟩
end Go.Proofs.YthkkknjcoidioaaGreat
