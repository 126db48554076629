import Derived.Test.YthkkknjcoidioaaGreatWb01
import Derived.Test.YthkkknjcoidioaaGreatWb02
import Derived.Test.YthkkknjcoidioaaGreatWb03
import Derived.Test.YthkkknjcoidioaaGreatWb04
import Derived.Test.YthkkknjcoidioaaGreatWb05
import Derived.Test.YthkkknjcoidioaaGreatWb06
import Derived.Test.YthkkknjcoidioaaGreatWb07
import Derived.Test.YthkkknjcoidioaaGreatWb08
import Derived.Test.YthkkknjcoidioaaGreatWb09
import Derived.Test.YthkkknjcoidioaaGreatWb10
import Derived.Test.YthkkknjcoidioaaGreatWb11
import Derived.Test.YthkkknjcoidioaaGreatWb12
import Derived.Test.YthkkknjcoidioaaGreatWb13
import Derived.Test.YthkkknjcoidioaaGreatWb14
import Derived.Test.YthkkknjcoidioaaGreatWb15
import Derived.Test.YthkkknjcoidioaaGreatWb16
import Derived.Test.YthkkknjcoidioaaGreatWb17
import Derived.Test.YthkkknjcoidioaaGreatWb18
import Derived.Test.YthkkknjcoidioaaGreatWb19
import Derived.Test.YthkkknjcoidioaaGreatWb20
import Derived.Test.YthkkknjcoidioaaGreatWb21
import Derived.Test.YthkkknjcoidioaaGreatWb22
import Derived.Test.YthkkknjcoidioaaGreatWb23
import Derived.Test.YthkkknjcoidioaaGreatWb24
import Derived.Test.YthkkknjcoidioaaGreatWb25
import Derived.Test.YthkkknjcoidioaaGreatWb26
import Derived.Test.YthkkknjcoidioaaGreatWb27
import Derived.Test.YthkkknjcoidioaaGreatWb28
import Derived.Test.YthkkknjcoidioaaGreatWb29
import Derived.Test.YthkkknjcoidioaaGreatWb30
import Derived.Test.YthkkknjcoidioaaGreatWb31
import Derived.Test.YthkkknjcoidioaaGreatWb32
import Derived.Test.YthkkknjcoidioaaGreatWb33
import Derived.Test.YthkkknjcoidioaaGreatWb34
import Derived.Test.YthkkknjcoidioaaGreatWb35
import Derived.Test.YthkkknjcoidioaaGreatWb36
import Derived.Test.YthkkknjcoidioaaGreatWb37
import Derived.Test.YthkkknjcoidioaaGreatWb38
import Derived.Test.YthkkknjcoidioaaGreatWb39
import Derived.Test.YthkkknjcoidioaaGreatWb40
import Derived.Test.YthkkknjcoidioaaGreatWb41
import Derived.Test.YthkkknjcoidioaaGreatWb42
import Derived.Test.YthkkknjcoidioaaGreatWb43
import Derived.Test.YthkkknjcoidioaaGreatWb44
import Derived.Test.YthkkknjcoidioaaGreatWb46
import Derived.Test.YthkkknjcoidioaaGreatWsc01
import Derived.Deep.AppendLies
import Derived.WalkKit
import Derived.WalkSpells
import Derived.WalkLawsBesides
import Derived.Lib.Hide
import Derived.Deep.RegionHeld3
import Derived.Deep.QuietTactic
import Derived.BigQuiet
import Derived.Maps.AppendAt
import Derived.Deep.DeepCutAuto
import Derived.Deep.RegionWith
import Derived.Deep.DeepMust
import Derived.Deep.CutBlock
import Derived.OrdersIn
import Derived.RegionTactic
import Derived.RangeFuncNested
import Derived.RangeFuncBound
import Derived.RangeFuncCalls
import Derived.RangeFuncLeaves
import Derived.RangeFuncBox
import Derived.Shelf.Abstract
import Derived.OwnWalkIn
import Derived.TacticsInMore
import Derived.LoopNIn
import Derived.LoopIn
set_option linter.all false
set_option maxHeartbeats 8000000
namespace Go.Proofs.YthkkknjcoidioaaGreat
open Go.RowKit
def DR (N:Nat) (w:World) (v:Value) (cw:Int) (q:Rat):Prop:=∃ (b:Bool) (A:Option Addr) (n c:Nat) (A':Option Addr) (n' c':Nat),v=.agg #[.bool b,.slice A n c,.bool false,.slice A' n' c']∧((cw≠0∧v=nilRat)∨(cw=0∧RatV N w v q))
def RetDR (N:Nat) (w:World) (cw:Int) (q:Rat) (e:Ending) (w':World):Prop:=∃ v,e=.returned (.tuple #[v,.int .i64 cw])∧DR N w' v cw q∧Ext w w'
def BX (N:Nat) (w:World) (g:Nat) (cw:Int) (q:Rat):Prop:=(cw≠0∧w.heap[g]?=some (.cells #[.bool false,.slice none 0 0,.bool false,.slice none 0 0] 36 (0,0)))∨(cw=0∧BoxR N w g q)
theorem BX.ext {N:Nat} {w w':World} {g:Nat} {cw:Int} {q:Rat} (h:BX N w g cw q) (e:Ext w w'):BX N w' g cw q:=by
 rcases h with ⟨h1,h2⟩ | ⟨h1,h2⟩
 ·exact .inl ⟨h1,e.block h2⟩
 ·exact .inr ⟨h1,h2.ext e⟩
theorem BX.nil {N:Nat} {w:World} {g:Nat} {cw:Int} {q:Rat} (h:BX N w g cw q) (hc:cw≠0):w.heap[g]?=some (.cells #[.bool false,.slice none 0 0,.bool false,.slice none 0 0] 36 (0,0)):=by
 rcases h with h | h
 ·exact h.2
 ·exact absurd h.1 hc
theorem BX.box {N:Nat} {w:World} {g:Nat} {q:Rat} (h:BX N w g 0 q):BoxR N w g q:=by
 rcases h with h | h
 ·exact absurd rfl h.1
 ·exact h.2
theorem BX.mk {N:Nat} {w w':World} {g:Nat} {cw:Int} {q:Rat} {b:Bool} {A:Option Addr} {n c:Nat} {A':Option Addr} {n' c':Nat} (B:w'.heap[g]?=some (.cells #[.bool b,.slice A n c,.bool false,.slice A' n' c'] 36 (0,0)))
  (h:(cw≠0∧Value.agg #[.bool b,.slice A n c,.bool false,.slice A' n' c']=nilRat)∨(cw=0∧RatV N w (.agg #[.bool b,.slice A n c,.bool false,.slice A' n' c']) q)) (e:Ext w w'):BX N w' g cw q:=by
 rcases h with ⟨h1,h2⟩ | ⟨h1,h2⟩
 ·unfold nilRat at h2;simp only [Value.agg.injEq,Array.mk.injEq,List.cons.injEq,Value.bool.injEq,Value.slice.injEq] at h2;obtain⟨rfl,⟨rfl,rfl,rfl⟩,-,⟨rfl,rfl,rfl⟩,-⟩:=h2;exact .inl ⟨h1,B⟩
 ·obtain⟨b2,A2,n2,c2,A3,n3,c3,h3,k1,k2,k3⟩:=RatV.parts (h2.ext e);simp only [Value.agg.injEq,Array.mk.injEq,List.cons.injEq,Value.bool.injEq,Value.slice.injEq] at h3;obtain⟨rfl,⟨rfl,rfl,rfl⟩,-,⟨rfl,rfl,rfl⟩,-⟩:=h3;exact .inr ⟨h1,BoxR.mk B k1 k2 k3⟩
theorem RetDR.no {N:Nat} {w:World} {cw:Int} {q:Rat} {e:Ending} {w':World} (h:RetV w (.tuple #[nilRat,.int .i64 cw]) e w') (hc:cw≠0):RetDR N w cw q e w':=by
 obtain⟨rfl,h2⟩:=h;exact⟨_,rfl,⟨false,none,0,0,none,0,0,rfl,.inl ⟨hc,rfl⟩⟩,h2⟩
theorem RetDR.yes {N:Nat} {w:World} {q:Rat} {e:Ending} {w':World} (h:RetRC N w q e w'):RetDR N w 0 q e w':=by
 obtain⟨v,rfl,h1,h2⟩:=h;obtain⟨b,A,n,c,A',n',c',rfl,-⟩:=RatV.parts h1;exact⟨_,rfl,⟨b,A,n,c,A',n',c',rfl,.inr ⟨rfl,h1⟩⟩,h2⟩
set_option maxRecDepth 100000 in
theorem reli_main {N lo hi:Nat} {w:World} {A1 A2 A3:Option Addr} {c1 c2 c3 m n:Nat} {X:Nat→Nat→Rat} {y p:Nat→Rat} {Z:Lin} {R:Raw} {u:Value} (hI:LinV N lo hi w (.agg #[.slice A1 m c1,.slice A2 m c2,.slice A3 m c3]) Z) (hm:Z.m=m) (hf:few34 7 4 Z=true) (hc:code38 Z 0 (fun _=>raw 0)=0)
  (h1:MtV N lo hi w (.slice A1 m c1) m n X) (h2:LsV N lo hi w (.slice A2 m c2) m y) (h3:LsV N lo hi w (.slice A3 m c3) m p) (d:Md m n X y p) (hr:Reg n (nmat X p m)) (hx:RawV N w u R) (hsx:RawL R) (hd:dgn R≤6) (z:Int) {dl qm qr:Rat} {f1 cw:Int} (hf1:Hid (f1=code38 Z 1 (fun _=>R))) (hqm:Hid (qm=dl / (p z.toNat*rS m n X p z.toNat))) (hqr:Hid (qr=dl*(1 - rS m n X p z.toNat) / rS m n X p z.toNat))
  (HDT:Hid (∀ W,Ext w W→Calls Tryz.prog 42 #[.agg #[.slice A1 m c1,.slice A2 m c2,.slice A3 m c3],.int .i64 z,u] W (RetDR N W cw qm))) (HRC:Hid (∀ W,Ext w W→Calls Tryz.prog 44 #[.agg #[.slice A1 m c1,.slice A2 m c2,.slice A3 m c3],.int .i64 z,u] W (RetDR N W cw qr)))
  (HOK:Hid (f1=0→RatV N w u dl∧Ht 180 dl)) (HCW:Hid (cw=if f1=0 then (if dl≤0 then 2 else if rS m n X p z.toNat=0 then 13 else 0) else f1)) (hz:inB m z=true) :
  Calls Tryz.prog 7 #[.agg #[.slice A1 m c1,.slice A2 m c2,.slice A3 m c3],.int .i64 z,u] w (RetV w (.bool true)):=by
 have hIx:=hx;have hN:N≤w.heap.size:=hx.le;have HF:=Lib.hid hf;have HSX:=Lib.hid hsx;obtain⟨dz,hdz⟩:=hid_eq ((R.l1.length+R.l2.length:Nat):Int);have HS6:=Lib.hid (dgn_sz hd);have hd1:¬ 6 < dz:=by rw [hdz.out]; unfold dgn at hd; omega
 have hd2:decide (6 < dz)=false:=decide_eq_false hd1;have HD:=Lib.hid d;have HG:=Lib.hid hr;have HC0:=Lib.hid hc;have hI1:=h1;have hI2:=h2;have hI3:=h3;have hm0:=d.m0;have hm7:=d.m7;have hn0:=d.n0;have hn4:=d.n4
 have HGOOD:Hid (cw=0→Ht 180 dl∧0 < dl∧rS m n X p z.toNat≠0∧RatV N w u dl):=fun h0=>by
  have h1:=HCW.out;rw [h0] at h1
  by_cases h2:f1=0
  ·rw [if_pos h2] at h1
   by_cases h3:dl≤0
   ·rw [if_pos h3] at h1; cases h1
   ·rw [if_neg h3] at h1
    by_cases h4:rS m n X p z.toNat=0
    ·rw [if_pos h4] at h1; cases h1
    ·exact⟨(HOK.out h2).2,Rat.not_le.1 h3,h4,(HOK.out h2).1⟩
  ·rw [if_neg h2] at h1; exact absurd h1.symm h2
 obtain⟨i,hiz⟩:∃ i,i=z.toNat:=⟨_,rfl⟩
 rw [←hiz] at hqm hqr HGOOD HCW;have him:i < m:=by rw [hiz]; exact (inB_true hz).2
 have hzi:z=(i:Int):=by rw [hiz]; exact (inB_true hz).1
 have HB:Hid (inB Z.m z=true):=by rw [Hid,hm]; exact hz
 have HBm:Hid (inB m z=true):=hz;clear hiz;subst hzi;have HIZ:Hid (((i:Nat):Int).toNat=i):=Int.toNat_natCast i;have HZP:=Lib.hid ((d.hp i him).sz (by omega));have HZE:Hid (∀ k,k < n→Sz (gS m n X p i k)∧Sz (p i*gS m n X p i k)):=fun k hk=>⟨(d.g_ht him k hk).sz (by omega),((d.hp i him).mul (d.g_ht him k hk)).sz (by omega)⟩
 obtain⟨Q1,k1,l1,Q2,k2,l2,rfl,gx1,gx2⟩:=hx.parts;clear hf hx hsx hd hc h1 h2 h3 d hr hz hm;go_enter Tryz.func7,Tryz.ntmps7;go_wp2_with (go_at_call 10; refine Hid.out ?_);refine boxesC2 ?_;intro W hE hsz B0 B1;refine (l38_known W).mono ?_;rintro e w1 ⟨rfl,e1⟩;replace hE:=hE.trans e1;replace B0:=e1.block B0;replace B1:=e1.block B1;replace hsz:=blk_lt B1;clear e1;obtain⟨a0,a1,a2,-⟩:=cells3 B0;obtain⟨b0,b1,b2,b3,-⟩:=cells4 B1;go_wp2_with (go_at_call 11; refine Hid.out ?_);refine (l38_few (hI.ext hE)).mono ?_;rintro e w2 ⟨rfl,e2⟩;rw [HF.out];replace hE:=hE.trans e2;replace B0:=e2.block B0;replace B1:=e2.block B1;replace hsz:=blk_lt B1;clear a0 a1 a2 b0 b1 b2 b3;obtain⟨a0,a1,a2,-⟩:=cells3 B0;obtain⟨b0,b1,b2,b3,-⟩:=cells4 B1;clear e2;go_wp2_with (go_at_call 21; refine Hid.out ?_);refine (r2_digitsN (hIx.ext hE) HSX.out).mono ?_;rintro e w5 ⟨rfl,e5⟩;rw [←hdz.out];replace hE:=hE.trans e5;replace B0:=e5.block B0;replace B1:=e5.block B1;replace hsz:=blk_lt B1;clear a0 a1 a2 b0 b1 b2 b3;obtain⟨a0,a1,a2,-⟩:=cells3 B0;obtain⟨b0,b1,b2,b3,-⟩:=cells4 B1;clear e5;go_wp2_with (go_at_call 42; refine Hid.out ?_);refine (HDT.out _ hE).mono ?_;rintro e w6 ⟨vBM,rfl,⟨nBM,ABM,kBM,cBM,ABM',kBM',cBM',rfl,hrBM⟩,e6⟩
 (first | replace BM:=BX.ext BM e6 | skip)
 (try replace hEx:=LsV.all (hEx.ext e6))
 replace hE:=hE.trans e6;replace B0:=e6.block B0;replace B1:=e6.block B1;replace hsz:=blk_lt B1;clear a0 a1 a2 b0 b1 b2 b3;obtain⟨a0,a1,a2,-⟩:=cells3 B0;obtain⟨b0,b1,b2,b3,-⟩:=cells4 B1;clear e6;have hrBM':=Lib.hid hrBM;clear hrBM;go_upto_region 6 with (fail);refine boxes1 ?_;intro w7 e7 hsz7 BM;replace BM:BX N w7 w6.heap.size cw qm:=BX.mk BM hrBM'.out e7;obtain⟨gBM,hgBM⟩:∃ gBM,gBM=w6.heap.size:=⟨_,rfl⟩
 rw [←hgBM] at BM ⊢
 (first | replace BM:=BX.ext BM e7 | skip)
 (try replace hEx:=LsV.all (hEx.ext e7))
 replace hE:=hE.trans e7;replace B0:=e7.block B0;replace B1:=e7.block B1;replace hsz:=blk_lt B1;clear a0 a1 a2 b0 b1 b2 b3;obtain⟨a0,a1,a2,-⟩:=cells3 B0;obtain⟨b0,b1,b2,b3,-⟩:=cells4 B1;clear e7 hsz7 hgBM hrBM';go_wp2_with (go_at_call 43; refine Hid.out ?_);refine (sn_External (hI1.ext hE) (hI2.ext hE) (hI3.ext hE) HD.out HG.out _ HBm.out).mono ?_;rw [HIZ.out];rintro e w8 ⟨AE,cE,rfl,hEx,e8⟩;replace hEx:=LsV.all hEx
 first | replace BM:=e8.block BM | replace BM:=BoxR.ext BM e8 | replace BM:=BX.ext BM e8
 replace hE:=hE.trans e8;replace B0:=e8.block B0;replace B1:=e8.block B1;replace hsz:=blk_lt B1;clear a0 a1 a2 b0 b1 b2 b3;obtain⟨a0,a1,a2,-⟩:=cells3 B0;obtain⟨b0,b1,b2,b3,-⟩:=cells4 B1;clear e8;go_wp2_with (go_at_call 44; refine Hid.out ?_);refine (HRC.out _ hE).mono ?_;rintro e w6 ⟨vBR,rfl,⟨nBR,ABR,kBR,cBR,ABR',kBR',cBR',rfl,hrBR⟩,e6⟩
 (first | replace BM:=BX.ext BM e6 | skip)
 (try replace hEx:=LsV.all (hEx.ext e6))
 replace hE:=hE.trans e6;replace B0:=e6.block B0;replace B1:=e6.block B1;replace hsz:=blk_lt B1;clear a0 a1 a2 b0 b1 b2 b3;obtain⟨a0,a1,a2,-⟩:=cells3 B0;obtain⟨b0,b1,b2,b3,-⟩:=cells4 B1;clear e6;have hrBR':=Lib.hid hrBR;clear hrBR;go_upto_region 8 with (fail);refine boxes1 ?_;intro w7 e7 hsz7 BR;replace BR:BX N w7 w6.heap.size cw qr:=BX.mk BR hrBR'.out e7;obtain⟨gBR,hgBR⟩:∃ gBR,gBR=w6.heap.size:=⟨_,rfl⟩
 rw [←hgBR] at BR ⊢
 (first | replace BM:=BX.ext BM e7 | skip)
 (try replace hEx:=LsV.all (hEx.ext e7))
 replace hE:=hE.trans e7;replace B0:=e7.block B0;replace B1:=e7.block B1;replace hsz:=blk_lt B1;clear a0 a1 a2 b0 b1 b2 b3;obtain⟨a0,a1,a2,-⟩:=cells3 B0;obtain⟨b0,b1,b2,b3,-⟩:=cells4 B1;clear e7 hsz7 hgBR hrBR';clear hd1 hd2;go_upto_region 8 with (fail);obtain⟨w9,hw9⟩:∃ w9,w9=w7:=⟨_,rfl⟩
 rw [←hw9] at hE B0 B1 BM BR a0 a1 a2 b0 b1 b2 b3 hsz ⊢
 (try rw [←hw9] at hEx)
 clear hw9;refine regI [Mn.eq (.agg #[.slice A1 m c1,.slice A2 m c2,.slice A3 m c3]),Mn.eq (.int .i64 0),Mn.eq (.agg #[.slice A1 m c1,.slice A2 m c2,.slice A3 m c3]),Mn.eq (.agg #[.bool R.b1,.slice Q1 k1 l1,.bool R.b2,.slice Q2 k2 l2]),Mn.raws N R,Mn.eq (.int .i64 f1),Mn.eq (.int .i64 0),Mn.eq (.int .i64 f1)] [some 51,some 52,some 53,some 54,some 55,some 56,some 13,some 14] [] [true,true,true,true,true,true,true,true] 0 (by kernel_rfl) ?_ ?_
 ·show ∀ i,i < 8→_
  iterate 8 refine fs ?_ ?_
  ·exact fz
  all_goals intro hl
  all_goals clear hl
  all_goals refine stp rfl ?_
  all_goals intro ac wi eI hB hA K hK
  have o3:=oOf (hB 3 (by kernel_rfl)) rfl;have cc0:=eI.cell a0;have cc1:=eI.cell a1;have cc2:=eI.cell a2
  rotate_left
  obtain⟨_,s51,rfl⟩:=hA 0 (by kernel_rfl) 51 rfl;clear hB hA
  ·go_simp;refine (l38_checked (R:=fun _=>raw 0) (hI.ext (hE.trans eI)) (lsr_nil (N:=N) (by have:=(hE.trans eI).size; omega) _) HF.out (fun i hi=>absurd hi (by omega))).mono ?_;rw [HC0.out];rintro e wj ⟨rfl,ej⟩;go_wp2_with fail;exact hK.out _ _ ej rfl
  have o3:=oOf (hB 3 (by kernel_rfl)) rfl;have cc0:=eI.cell a0;have cc1:=eI.cell a1;have cc2:=eI.cell a2
  rotate_left
  have o5:=oOf (hB 5 (by kernel_rfl)) rfl;have cc0:=eI.cell b0;have cc1:=eI.cell b1;have cc2:=eI.cell b2;have cc3:=eI.cell b3
  rotate_left
  obtain⟨_,s54,rfl⟩:=hA 3 (by kernel_rfl) 54 rfl;clear hB hA
  ·go_simp;refine boxes1 ?_;intro wj ej hszj BJ;have eJ:=(hE.trans eI).trans ej;exact hK.out _ _ ej (one_raw (by have:=eJ.size; omega) BJ (gx1.ext eJ) (gx2.ext eJ))
  obtain⟨_,s53,rfl⟩:=hA 2 (by kernel_rfl) 53 rfl;obtain⟨x55,s55,j55⟩:=hA 4 (by kernel_rfl) 55 rfl;replace j55:Mn.p (Mn.raws N R) x55 wi:=j55;clear hB hA
  ·go_simp;refine (l38_checked (R:=fun _=>R) (hI.ext (hE.trans eI)) j55 HF.out (fun i _=>HSX.out)).mono ?_;rw [←hf1.out];rintro e wj ⟨rfl,ej⟩;go_wp2_with fail;exact hK.out _ _ ej rfl
  obtain⟨_,s52,rfl⟩:=hA 1 (by kernel_rfl) 52 rfl
  rotate_left
  obtain⟨_,s56,rfl⟩:=hA 5 (by kernel_rfl) 56 rfl
  rotate_left
  all_goals clear hB hA
  all_goals go_simp
  all_goals exact hK.out _ _ (Ext.refl _) rfl
 intro vals wz eZ hJ;have J13:vals 6=_:=hJ 6 (by decide) (by decide);have J14:vals 7=_:=hJ 7 (by decide) (by decide);clear hJ;simp only [pr,Nat.reduceAdd,J13,J14];clear J13 J14;refine stepL_done (by kernel_rfl) ?_ _;replace hE:=hE.trans eZ;replace B0:=eZ.block B0;replace B1:=eZ.block B1
 first | replace BM:=eZ.block BM | replace BM:=BoxR.ext BM eZ | replace BM:=BX.ext BM eZ
 first | replace BR:=eZ.block BR | replace BR:=BoxR.ext BR eZ | replace BR:=BX.ext BR eZ
 (try replace hEx:=LsV.all (hEx.ext eZ))
 replace hsz:=blk_lt B1;clear a0 a1 a2 b0 b1 b2 b3 eZ;obtain⟨a0,a1,a2,-⟩:=cells3 B0;obtain⟨b0,b1,b2,b3,-⟩:=cells4 B1;go_wp2_with (go_at_call 13; refine Hid.out ?_);refine (l38_inside (hI.ext hE) _).mono ?_;rintro e w4 ⟨rfl,e4⟩;rw [HB.out]
 first | replace BM:=e4.block BM | replace BM:=BoxR.ext BM e4 | replace BM:=BX.ext BM e4
 first | replace BR:=e4.block BR | replace BR:=BoxR.ext BR e4 | replace BR:=BX.ext BR e4
 (try replace hEx:=LsV.all (hEx.ext e4))
 replace hE:=hE.trans e4;replace B0:=e4.block B0;replace B1:=e4.block B1;replace hsz:=blk_lt B1;clear a0 a1 a2 b0 b1 b2 b3;obtain⟨a0,a1,a2,-⟩:=cells3 B0;obtain⟨b0,b1,b2,b3,-⟩:=cells4 B1;clear e4;go_upto_region 11 with (fail);obtain⟨tb,htb⟩:=hid_eq (decide (f1=0∧dl≤0));obtain⟨wp,hwp⟩:∃ wp,wp=w4:=⟨_,rfl⟩
 rw [←hwp] at hE B0 B1 BM BR hEx hsz a0 a1 a2 b0 b1 b2 b3 ⊢;clear hwp
 go_cut [77] (fun t wc=>t=.bool tb∧Ext wp wc)
 case first =>
  by_cases h1:f1=0
  ·have q1:(f1 == 0)=true:=by simpa using h1
   obtain⟨hIr,hdh⟩:=HOK.out h1;have HZD:=Lib.hid (hdh.sz (by omega));obtain⟨sg,hsg⟩:=hid_eq dl.num.sign
   have HTB:Hid (tb=decide (sg≤0)):=by
    rw [Hid,htb.out,hsg.out]
    by_cases h9:dl≤0
    ·rw [sign_le0 h9]; exact decide_eq_true ⟨h1,h9⟩
    ·rw [sign_gt0 (Rat.not_le.1 h9)]; exact decide_eq_false (fun h8=>h9 h8.2)
   clear hdh h1 htb;go_wp2_with (go_at_call 13; refine Hid.out ?_);refine (l38_inside (hI.ext hE) _).mono ?_;rintro e w4 ⟨rfl,e4⟩;rw [HB.out];replace hE:=hE.trans e4;replace B0:=e4.block B0;replace B1:=e4.block B1;replace hsz:=blk_lt B1;clear a0 a1 a2 b0 b1 b2 b3;obtain⟨a0,a1,a2,-⟩:=cells3 B0;obtain⟨b0,b1,b2,b3,-⟩:=cells4 B1;go_wp2_with (go_at_call 35; refine Hid.out ?_);refine (r2_sign (hIr.ext hE) HZD.out).mono ?_;rw [←hsg.out];rintro e w5 ⟨rfl,e5⟩;clear a0 a1 a2 b0 b1 b2 b3;go_wp2_with fail
   go_meet
   exact⟨by rw [HTB.out],e4.trans e5⟩
  ·have q1:(f1 == 0)=false:=by rw [beq_eq_false_iff_ne]; exact h1
   have HTB:Hid (tb=false):=by rw [Hid,htb.out]; exact decide_eq_false (fun h8=>h1 h8.1)
   clear h1 htb;go_wp2_with fail
   go_meet
   exact⟨by rw [HTB.out],Ext.refl _⟩
 case rest =>
  obtain⟨rfl,eC⟩:=hcut;obtain⟨wq,hwx⟩:∃ wq,wq=wc:=⟨_,rfl⟩
  subst hwx;replace BM:=BX.ext BM eC;replace BR:=BX.ext BR eC;replace hEx:=LsV.all (hEx.ext eC);replace hE:=hE.trans eC;replace B0:=eC.block B0;replace B1:=eC.block B1;replace hsz:=blk_lt B1;clear a0 a1 a2 b0 b1 b2 b3;obtain⟨a0,a1,a2,-⟩:=cells3 B0;obtain⟨b0,b1,b2,b3,-⟩:=cells4 B1;clear eC;obtain⟨f2,hf2⟩:=hid_eq (if tb=true then 2 else f1)
  go_upto_if 77 with (fail)
  go_cut [14] (fun v wc=>v=.int .i64 f2∧wc=wq)
  case first =>
   cases tb
   ·go_wp2_with fail
    go_meet
    exact⟨by rw [hf2.out]; rfl,rfl⟩
   ·go_wp2_with fail
    go_meet
    exact⟨by rw [hf2.out]; rfl,rfl⟩
  case rest =>
   obtain⟨rfl,hwc⟩:=hcut;subst hwc;obtain⟨td,htd⟩:=hid_eq (decide (f2=0∧rS m n X p i=0));go_upto_region 13 with (fail)
   go_cut [86] (fun t wc2=>t=.bool td∧Ext wc wc2)
   case first =>
    by_cases h1:f2=0
    ·have q1:(f2 == 0)=true:=by simpa using h1
     obtain⟨r9,hr9⟩:=hid_eq (rS m n X p i);have HZR:Hid (Sz r9):=by rw [Hid,hr9.out]; exact (HD.out.r_ht i him).sz (by omega)
     obtain⟨rs,hrs⟩:=hid_eq r9.num.sign
     have HTD:Hid (td=(rs == 0)):=by
      rw [Hid,htd.out,hrs.out,←hr9.out]
      by_cases h9:r9=0
      ·rw [decide_eq_true ⟨h1,h9⟩,h9]; rfl
      ·rw [decide_eq_false (fun h8=>h9 h8.2),eq_comm,beq_eq_false_iff_ne];exact fun h8=>h9 (Rat.num_eq_zero.1 (Int.sign_eq_zero_iff_zero.1 h8))
     clear h1 htd;go_wp2_with (go_at_call 45; refine Hid.out ?_);refine (l38_redundancy (hI1.ext hE) (hI2.ext hE) (hI3.ext hE) HD.out HG.out him).mono ?_;rw [←hr9.out];intro e w11 hh;obtain⟨b9,A19,k19,c19,A20,k20,c20,rfl,hb9,g19,g20,e11⟩:=hh.form;clear a0 a1 a2 b0 b1 b2 b3 hh;go_wp2_with (go_at_call 35; refine Hid.out ?_);refine (r2_sign (RatV.mk hb9 g19 g20) HZR.out).mono ?_;rw [←hrs.out];rintro e w12 ⟨rfl,e12⟩;go_wp2_with fail
     go_meet
     exact⟨by rw [HTD.out],e11.trans e12⟩
    ·have q1:(f2 == 0)=false:=by rw [beq_eq_false_iff_ne]; exact h1
     have HTD:Hid (td=false):=by rw [Hid,htd.out]; exact decide_eq_false (fun h8=>h1 h8.1)
     clear h1 htd;go_wp2_with fail
     go_meet
     exact⟨by rw [HTD.out],Ext.refl _⟩
   case rest =>
    obtain⟨rfl,eC⟩:=hcut;obtain⟨wu,hwx⟩:∃ wu,wu=wc:=⟨_,rfl⟩
    subst hwx;replace BM:=BX.ext BM eC;replace BR:=BX.ext BR eC;replace hEx:=LsV.all (hEx.ext eC);replace hE:=hE.trans eC;replace B0:=eC.block B0;replace B1:=eC.block B1;replace hsz:=blk_lt B1;clear a0 a1 a2 b0 b1 b2 b3;obtain⟨a0,a1,a2,-⟩:=cells3 B0;obtain⟨b0,b1,b2,b3,-⟩:=cells4 B1;clear eC
    have HCF:Hid (cw=if td=true then 13 else f2):=by
     rw [Hid,HCW.out,hf2.out,htd.out,hf2.out,htb.out]
     by_cases h1:f1=0
     ·by_cases h2:dl≤0
      ·simp [h1,h2]
      ·by_cases h3:rS m n X p i=0 <;> simp [h1,h2,h3]
     ·simp [h1]
    clear hf2 htd htb
    go_upto_if 86 with (fail)
    go_cut [14] (fun v wc=>v=.int .i64 cw∧wc=wu)
    case first =>
     cases td
     ·go_wp2_with fail
      go_meet
      exact⟨by rw [HCF.out]; rfl,rfl⟩
     ·go_wp2_with fail
      go_meet
      exact⟨by rw [HCF.out]; rfl,rfl⟩
    case rest =>
     obtain⟨rfl,hwc⟩:=hcut;subst hwc;clear HCF;obtain⟨e1,off1,rfl,-,-,hx1⟩:=(hI1.ext hE).addr hm0;obtain⟨A0,c0,p0,hc0,hm0',hR0⟩:=hx1 i him;obtain⟨f3,off3,rfl,-,-,hx3⟩:=LsV.addr hI3 hm0;have HX3:=Lib.hid hx3;unfold maxLen at hm0';clear hx1 hx3;go_upto_region 19 with (fail);refine regI [Mn.eq (.agg #[.slice (some ⟨e1,off1,none⟩) m c1,.slice A2 m c2,.slice (some ⟨f3,off3,none⟩) m c3]),Mn.mt N n n (qS m n X p),Mn.eq (.pointer (some ⟨w.heap.size,0,none⟩)),Mn.eq (.slice (some ⟨e1,off1,none⟩) m c1),Mn.eq (.int .i64 (i:Int)),Mn.eq (.pointer (some ⟨e1,off1+i,none⟩)),Mn.eq (.slice A0 n c0),Mn.ls N n (gS m n X p i),Mn.eq (.int .i64 (n:Int)),Mn.eq (.int .i64 0)] [some 111,some 112,some 113,some 114,some 115,some 116,some 117,some 118,some 119,some 120] [] [true,true,true,true,true,true,true,true,true,true] 0 (by kernel_rfl) ?_ ?_
     ·show ∀ i,i < 10→_
      iterate 10 refine fs ?_ ?_
      ·exact fz
      all_goals intro hl
      all_goals clear hl
      all_goals refine stp rfl ?_
      all_goals intro ac wi eI hB hA K hK
      have o3:=oOf (hB 3 (by kernel_rfl)) rfl;have cc0:=eI.cell a0;have cc1:=eI.cell a1;have cc2:=eI.cell a2
      rotate_left
      obtain⟨_,s111,rfl⟩:=hA 0 (by kernel_rfl) 111 rfl;clear hB hA
      ·go_simp;refine (l38_cofactor (hI1.ext (hE.trans eI)) (hI2.ext (hE.trans eI)) (hI3.ext (hE.trans eI)) HD.out HG.out).mono ?_;rintro e wj ⟨Aj,cj,rfl,hj,ej⟩;go_wp2_with fail;exact hK.out _ _ ej hj
      have o3:=oOf (hB 3 (by kernel_rfl)) rfl
      rotate_left
      obtain⟨_,s113,rfl⟩:=hA 2 (by kernel_rfl) 113 rfl;have cc0:=eI.cell a0;have cc1:=eI.cell a1;have cc2:=eI.cell a2
      rotate_left
      have o1:=oOf (hB 1 (by kernel_rfl)) rfl
      rotate_left
      obtain⟨_,s114,rfl⟩:=hA 3 (by kernel_rfl) 114 rfl;obtain⟨_,s115,rfl⟩:=hA 4 (by kernel_rfl) 115 rfl
      rotate_left
      obtain⟨_,s116,rfl⟩:=hA 5 (by kernel_rfl) 116 rfl;have cc0:=eI.cell p0
      rotate_left
      obtain⟨x112,s112,j112⟩:=hA 1 (by kernel_rfl) 112 rfl;replace j112:Mn.p (Mn.mt N n n (qS m n X p)) x112 wi:=j112;obtain⟨_,s117,rfl⟩:=hA 6 (by kernel_rfl) 117 rfl;clear hB hA
      ·go_simp;refine (r5_apply j112 (hR0.ext eI) (by omega) hn0 (by omega) HD.out.q_ht (HD.out.hX i him) HD.out.hK5).mono ?_;rintro e wj ⟨Aj,cj,rfl,hj,ej⟩;go_wp2_with fail;exact hK.out _ _ ej (LsV.all hj)
      obtain⟨x118,s118,j118⟩:=hA 7 (by kernel_rfl) 118 rfl;replace j118:Mn.p (Mn.ls N n (gS m n X p i)) x118 wi:=j118;clear hB hA
      ·obtain⟨A7,c7,rfl,-⟩:=LsR.form j118;go_simp;exact hK.out _ _ (Ext.refl _) rfl
      rotate_left
      all_goals clear hB hA
      all_goals go_simp
      all_goals exact hK.out _ _ (Ext.refl _) rfl
     intro vals wz eZ hJ;have J118:Mn.p (Mn.ls N n (gS m n X p i)) (vals 7) wz:=hJ 7 (by decide) (by decide);have J119:vals 8=_:=hJ 8 (by decide) (by decide);have J120:vals 9=_:=hJ 9 (by decide) (by decide);clear hJ;simp only [pr,Nat.reduceAdd,J119,J120];clear J119 J120
     generalize vals 7=z118 at J118 ⊢
     refine stepL_done (by kernel_rfl) ?_ _;obtain⟨wy,hwy⟩:∃ wy,wy=wz:=⟨_,rfl⟩
     have h118:LsV N 0 wz.heap.size wz z118 n (gS m n X p i):=J118;rw [←hwy] at eZ h118 ⊢;obtain⟨A5,c5,rfl,hnc5,-⟩:=LsR.form h118;replace hE:=hE.trans eZ;replace B0:=eZ.block B0;replace B1:=eZ.block B1
     first | replace BM:=eZ.block BM | replace BM:=BoxR.ext BM eZ | replace BM:=BX.ext BM eZ
     first | replace BR:=eZ.block BR | replace BR:=BoxR.ext BR eZ | replace BR:=BX.ext BR eZ
     replace hEx:=LsV.all (hEx.ext eZ);clear a0 a1 a2 b0 b1 b2 b3 p0 hR0 eZ J118 hwy;obtain⟨b6,off6,rfl,-,-,hx6⟩:=LsR.addr h118 hn0;have HX6:=Lib.hid hx6;have hNy:N≤wy.heap.size:=h118.le;clear hx6 h118;go_wp2
     go_loopw [15,120] (fun v j wr=>∃ k:Nat,k≤n∧j=.int .i64 k∧Ext wy wr∧∃ A c,v=.slice A k c∧Grow N wy.heap.size wr (.slice A k c) k (fun k=>p i*gS m n X p i k)) (fun _ j _=>n - (intOf j).toNat)
     case atStart=>exact⟨0,Nat.zero_le _,rfl,Ext.refl _,_,_,rfl,Grow.nil hNy (Nat.le_refl _) _⟩
     case round =>
      obtain⟨k,hk,rfl,eR,AG,cG,rfl,hG⟩:=hrel
      by_cases hlt:k < n
      ·obtain⟨n1,A7,k7,c7,A12,k12,c12,q0,q1,q2,q3,hb1,g1,g2⟩:=((HX6.out k hlt).ext eR).open;go_upto_region 22 with (fail);refine boxes1 ?_;intro w5 e5 hsz5 B17;have hRt:RatV N w5 (.agg #[.bool n1,.slice A7 k7 c7,.bool false,.slice A12 k12 c12]) (gS m n X p i k):=RatV.mk hb1 (g1.ext e5) (g2.ext e5);obtain⟨g17,hg17⟩:∃ g17,g17=wr.heap.size:=⟨_,rfl⟩
       rw [←hg17] at B17 ⊢;replace eR:=eR.trans e5;replace hG:=hG.ext e5;clear q0 q1 q2 q3 hb1 g1 g2 hsz5 hg17 e5;obtain⟨n5,A13,k13,c13,A14,k14,c14,q0,q1,q2,q3,hb5,g5,g6⟩:=((HX3.out i him).ext (hE.trans eR)).open;have hRp:=RatV.mk hb5 g5 g6;obtain⟨t0,t1,t2,t3,-⟩:=cells4 B17;obtain⟨a0,a1,a2,-⟩:=cells3 (eR.block B0);have HS1:=Lib.hid (HZE.out k hlt).1;clear hb5 g5 g6 a0 a1;refine regI [Mn.eq (.slice AG k cG),Mn.eq (.pointer (some ⟨w.heap.size,2,none⟩)),Mn.eq (.slice (some ⟨f3,off3,none⟩) m c3),Mn.eq (.int .i64 (i:Int)),Mn.eq (.pointer (some ⟨f3,off3+i*4,none⟩)),Mn.rat N (p i),Mn.rat N (gS m n X p i k),Mn.rat N (p i*gS m n X p i k),Mn.rbl N (p i*gS m n X p i k),Mn.any,Mn.any] [some 124,some 125,some 126,some 127,some 128,some 129,some 130,some 131,some 132,some 133,some 15] [9,10] [true,true,true,true,true,true,true,true,true,false,false] 2 (by kernel_rfl) ?_ ?_
       ·show ∀ i,i < 11→_
        iterate 11 refine fs ?_ ?_
        ·exact fz
        all_goals intro hl
        all_goals first | exact absurd hl (by decide) | skip
        all_goals clear hl
        all_goals refine stp rfl ?_
        all_goals intro ac wi eI hB hA K hK
        have o15:=oOf (hB 15 (by kernel_rfl)) rfl
        rotate_left
        have o3:=oOf (hB 3 (by kernel_rfl)) rfl
        rotate_left
        obtain⟨_,s125,rfl⟩:=hA 1 (by kernel_rfl) 125 rfl;have cc0:=eI.cell a2
        rotate_left
        have o1:=oOf (hB 1 (by kernel_rfl)) rfl
        rotate_left
        obtain⟨_,s126,rfl⟩:=hA 2 (by kernel_rfl) 126 rfl;obtain⟨_,s127,rfl⟩:=hA 3 (by kernel_rfl) 127 rfl
        rotate_left
        obtain⟨_,s128,rfl⟩:=hA 4 (by kernel_rfl) 128 rfl;clear hB hA;have cc0:=eI.cell q0;have cc1:=eI.cell q1;have cc2:=eI.cell q2;have cc3:=eI.cell q3
        ·go_simp;exact hK.out _ _ (Ext.refl _) (hRp.ext eI)
        have o17:=oOf (hB 17 (by kernel_rfl)) rfl;clear hB hA;have cc0:=eI.cell t0;have cc1:=eI.cell t1;have cc2:=eI.cell t2;have cc3:=eI.cell t3
        ·go_simp;exact hK.out _ _ (Ext.refl _) (hRt.ext eI)
        obtain⟨x129,s129,j129⟩:=hA 5 (by kernel_rfl) 129 rfl;replace j129:Mn.p (Mn.rat N (p i)) x129 wi:=j129;obtain⟨x130,s130,j130⟩:=hA 6 (by kernel_rfl) 130 rfl;replace j130:Mn.p (Mn.rat N (gS m n X p i k)) x130 wi:=j130;clear hB hA
        ·go_simp;refine (l38_mul j129 j130 HZP.out HS1.out).mono ?_;rintro e wj ⟨vj,rfl,hj,ej⟩;go_wp2_with fail;exact hK.out _ _ ej hj
        obtain⟨x131,s131,j131⟩:=hA 7 (by kernel_rfl) 131 rfl;replace j131:Mn.p (Mn.rat N (p i*gS m n X p i k)) x131 wi:=j131;clear hB hA
        ·obtain⟨bj,Aj,kj,cj,Aj',kj',cj',rfl,hbj,gj1,gj2⟩:=RatV.parts j131;go_simp;refine boxes1 ?_;intro wj ej hszj BJ;exact hK.out _ _ ej ⟨_,rfl,BoxR.mk BJ hbj (gj1.ext ej) (gj2.ext ej)⟩
        all_goals clear hB hA
        all_goals go_simp
        all_goals exact hK.out _ _ (Ext.refl _) rfl
       intro vals wz eZ hJ;have J124:vals 0=_:=hJ 0 (by decide) (by decide);have J131:Mn.p (Mn.rat N (p i*gS m n X p i k)) (vals 7) wz:=hJ 7 (by decide) (by decide);have J132:Mn.p (Mn.rbl N (p i*gS m n X p i k)) (vals 8) wz:=hJ 8 (by decide) (by decide);clear hJ;simp only [pr,Nat.reduceAdd,J124];clear J124
       generalize vals 7=z131 at J131 ⊢
       generalize vals 8=z132 at J132 ⊢
       obtain⟨gb,rfl,bj,Aj,kj,cj,Aj',kj',cj',BX,hbj,gj1,gj2⟩:=J132;have hGz:=hG.ext eZ;have hEz:=eR.trans eZ;refine stepL_late (i:=9) rfl (by kernel_rfl) (by kernel_rfl) (fun K hK=>?_);refine step_append_rat rfl _ _ 24 Tryz.underlying24 rfl (by rfl) hGz (by rfl) BX hbj gj1 gj2 (by omega) ?_;rintro gq cap' w17 hG8 ⟨g',hg',c17,-⟩ -;replace hEz:=c17.ext hEz hg';replace hG8:=hG8.congr (y:=fun k=>p i*gS m n X p i k) (fun j _=>by unfold upd; split <;> simp_all);refine hK.out _ _ ?_;clear hK K;try simp only [nr]
       refine stepL_late (i:=10) rfl (by kernel_rfl) (by kernel_rfl) (fun K hK=>?_);go_simp;refine hK.out _ _ ?_;clear hK K;try simp only [nr]
       refine stepL_done (by kernel_rfl) ?_ _;clear t0 t1 t2 t3 q0 q1 q2 q3 a2 BX hbj gj1 gj2 c17 hGz hG J131 B17 hRt hRp;go_wp2;go_roundw
       case rel=>exact⟨k+1,by omega,by go_num,hEz,_,_,rfl,hG8⟩
       case measure=>simp [intOf]; omega
      ·obtain rfl:n=k:=by omega
       have hGl:=hG.lsv (lo:=0) (Nat.zero_le _) rfl;replace hE:=hE.trans eR;replace B0:=eR.block B0;replace B1:=eR.block B1
       first | replace BM:=eR.block BM | replace BM:=BoxR.ext BM eR | replace BM:=BX.ext BM eR
       first | replace BR:=eR.block BR | replace BR:=BoxR.ext BR eR | replace BR:=BX.ext BR eR
       replace hEx:=LsV.all (hEx.ext eR);clear eR hG;go_wp2_with (go_at_call 47; refine Hid.out ?_);refine (r2_sameList hEx hGl (fun j hj=>(HZE.out j hj).2) (fun j hj=>rfl)).mono ?_;rintro e w18 ⟨rfl,e18⟩;replace hE:=hE.trans e18;replace B0:=e18.block B0;replace B1:=e18.block B1
       first | replace BM:=e18.block BM | replace BM:=BoxR.ext BM e18 | replace BM:=BX.ext BM e18
       first | replace BR:=e18.block BR | replace BR:=BoxR.ext BR e18 | replace BR:=BX.ext BR e18
       replace hEx:=LsV.all (hEx.ext e18);clear e18 hGl;obtain⟨a0,a1,a2,-⟩:=cells3 B0;obtain⟨b0,b1,b2,b3,-⟩:=cells4 B1
       by_cases h0:cw=0
       case neg =>
        replace BM:=BX.nil BM h0;replace BR:=BX.nil BR h0;have tz:(cw == 0)=false:=by rw [beq_eq_false_iff_ne]; exact h0
        have tz2:(cw != 0)=true:=by simpa using tz
        clear h0;obtain⟨x0,x1,x2,x3,-⟩:=cells4 BM;go_wp2_with (go_at_call 48; refine Hid.out ?_);refine r2_zero.mono ?_;rintro e w20 ⟨rfl,e20⟩;replace hE:=hE.trans e20
        first | replace BR:=e20.block BR | replace BR:=BoxR.ext BR e20 | replace BR:=BX.ext BR e20
        clear x0 x1 x2 x3 a0 a1 a2 b0 b1 b2 b3 B0 B1 BM e20;obtain⟨x0,x1,x2,x3,-⟩:=cells4 BR;go_wp2_with (go_at_call 48; refine Hid.out ?_);refine r2_zero.mono ?_;rintro e w21 ⟨rfl,e21⟩;clear x0 x1 x2 x3;go_wp2;go_ret;exact⟨rfl,hE.trans e21⟩
       case pos =>
        subst h0;replace BM:=BX.box BM;replace BR:=BX.box BR;obtain⟨hdh,hdl,h0,hIr0⟩:=HGOOD.out rfl;have hIr:=hIr0;have hp0:p i≠0:=fun e=>by have h9:=HD.out.pos i him; rw [e] at h9; exact absurd h9 (by decide)
        obtain⟨r9,hr9⟩:=hid_eq (rS m n X p i);have hrh:Ht 92000000 r9:=by rw [hr9.out]; exact HD.out.r_ht i him
        have h09:r9≠0:=by rw [hr9.out]; exact h0
        have HZD:=Lib.hid (hdh.sz (by omega));have HZR:Hid (Sz r9):=hrh.sz (by omega);have HR0:Hid (r9≠0):=h09;have HPR:Hid (Sz (p i*r9)):=((HD.out.hp i him).mul hrh).sz (by omega)
        have HPR0:Hid (p i*r9≠0):=fun e=>by
         rcases Rat.mul_eq_zero.1 e with e9 | e9
         ·exact hp0 e9
         ·exact h09 e9
        have HZM:Hid (Sz qm):=by rw [Hid,hqm.out]; exact (hdh.div ((HD.out.hp i him).mul (HD.out.r_ht i him))).sz (by omega)
        have HZQ:Hid (Sz qr):=by rw [Hid,hqr.out]; exact ((hdh.mul (Ht.sub Ht.one (HD.out.r_ht i him))).div (HD.out.r_ht i him)).sz (by omega)
        have HZ1:Hid (Sz ((1:Int):Rat)):=(ht_nat 1 1 (by decide) (by omega)).sz (by omega);have HZ1R:Hid (Sz (((1:Int):Rat) - r9)):=(Ht.sub Ht.one hrh).sz (by omega);have HZDR:Hid (Sz (dl*(((1:Int):Rat) - r9))):=(hdh.mul (Ht.sub Ht.one hrh)).sz (by omega);have HEM:Hid (qm=dl / (p i*r9)):=by rw [Hid,hqm.out,hr9.out]
        have HER:Hid (qr=dl*(((1:Int):Rat) - r9) / r9):=by rw [Hid,hqr.out,hr9.out]; rfl
        have hKx:HtL n 22000400 (fun k=>p i*gS m n X p i k):=fun k hk=>((HD.out.hp i him).mul (HD.out.g_ht him k hk)).mono (by omega)
        have HKX:=Lib.hid hKx;have HQF:Hid (Sz (qfS n (nmat X p m) (fun k=>p i*gS m n X p i k) n)):=(sum_ht (n:=n) (k:=22000400+90000000) (K:=460000000) (fun j hj=>(hKx j hj).mul (sum_ht (n:=n) (k:=8408+22000400) (K:=90000000) (fun c hc=>(HD.out.K_ht j hj c hc).mul (hKx c hc)) (Nat.le_refl _) (by omega))) (Nat.le_refl _) (by omega)).sz (by omega);have HEQ:Hid (qr=qm*qfS n (nmat X p m) (fun k=>p i*gS m n X p i k) n):=by rw [Hid,hqr.out,hqm.out]; exact reach_eq HD.out HG.out him h0
        clear hdh hdl h0 h09 hrh hKx hp0 hIr0;go_wp2_with (go_at_call 45; refine Hid.out ?_);refine (l38_redundancy (hI1.ext hE) (hI2.ext hE) (hI3.ext hE) HD.out HG.out him).mono ?_;rw [←hr9.out];intro e w11 hh;obtain⟨b9,A19,k19,c19,A20,k20,c20,rfl,hb9,g19,g20,e11⟩:=hh.form;replace BM:=BoxR.ext BM e11;replace BR:=BoxR.ext BR e11;replace hEx:=LsV.all (hEx.ext e11);replace hE:=hE.trans e11;replace B0:=e11.block B0;replace B1:=e11.block B1;replace hsz:=blk_lt B1;clear a0 a1 a2 b0 b1 b2 b3;obtain⟨a0,a1,a2,-⟩:=cells3 B0;obtain⟨b0,b1,b2,b3,-⟩:=cells4 B1;clear e11 hh;go_upto_region 29 with (fail);refine boxes1 ?_;intro w30 e30 hsz30 BN;have hR9:RatV N w30 (.agg #[.bool b9,.slice A19 k19 c19,.bool false,.slice A20 k20 c20]) r9:=RatV.mk hb9 (g19.ext e30) (g20.ext e30);obtain⟨gN,hgN⟩:∃ gN,gN=w11.heap.size:=⟨_,rfl⟩
        rw [←hgN] at BN ⊢;replace BM:=BoxR.ext BM e30;replace BR:=BoxR.ext BR e30;replace hEx:=LsV.all (hEx.ext e30);replace hE:=hE.trans e30;replace B0:=e30.block B0;replace B1:=e30.block B1;replace hsz:=blk_lt B1;clear a0 a1 a2 b0 b1 b2 b3;obtain⟨a0,a1,a2,-⟩:=cells3 B0;obtain⟨b0,b1,b2,b3,-⟩:=cells4 B1;clear e30 hsz30 hgN hb9 g19 g20;obtain⟨m0',M1,k31,c31,M2,k32,c32,x0,x1,x2,x3,-,-,-,-,hRm,-⟩:=BM.open;obtain⟨r0',R1',k33,c33,R2',k34,c34,y0,y1,y2,y3,-,-,-,-,hRr,-⟩:=BR.open;obtain⟨s0,s1,s2,s3,-⟩:=cells4 BN;obtain⟨n5,A13,k13,c13,A14,k14,c14,q0,q1,q2,q3,hb5,g5,g6⟩:=((HX3.out i him).ext hE).open;have hRp:=RatV.mk hb5 g5 g6;have hRd:=hIr.ext hE;clear hb5 g5 g6;have hN30:N≤w30.heap.size:=by have:=hE.size; omega
        refine regI [Mn.rat N (qm),Mn.rat N (dl),Mn.eq (.pointer (some ⟨w.heap.size,2,none⟩)),Mn.eq (.slice (some ⟨f3,off3,none⟩) m c3),Mn.eq (.int .i64 (i:Int)),Mn.eq (.pointer (some ⟨f3,off3+i*4,none⟩)),Mn.rat N (p i),Mn.rat N (r9),Mn.rat N (p i*r9),Mn.rat N (dl / (p i*r9)),Mn.eq (.bool true),Mn.eq (.bool false),Mn.eq (.bool false),Mn.rat N (qr),Mn.rat N (dl),Mn.rat N ((1:Int):Rat),Mn.rat N (r9),Mn.rat N (((1:Int):Rat) - r9),Mn.rat N (dl*(((1:Int):Rat) - r9)),Mn.rat N (r9),Mn.rat N (dl*(((1:Int):Rat) - r9) / r9),Mn.eq (.bool true),Mn.eq (.bool false),Mn.eq (.bool false)] [some 150,some 151,some 152,some 153,some 154,some 155,some 156,some 157,some 158,some 159,some 160,some 161,some 162,some 163,some 164,some 165,some 166,some 167,some 168,some 169,some 170,some 171,some 172,some 173] [] [true,true,true,true,true,true,true,true,true,true,true,true,true,true,true,true,true,true,true,true,true,true,true,true] 0 (by kernel_rfl) ?_ ?_
        ·show ∀ i,i < 24→_
         iterate 24 refine fs ?_ ?_
         ·exact fz
         all_goals intro hl
         all_goals clear hl
         all_goals refine stp rfl ?_
         all_goals intro ac wi eI hB hA K hK
         have o7:=oOf (hB 7 (by kernel_rfl)) rfl;clear hB hA;have cc0:=eI.cell x0;have cc1:=eI.cell x1;have cc2:=eI.cell x2;have cc3:=eI.cell x3
         ·go_simp;exact hK.out _ _ (Ext.refl _) (hRm.ext eI)
         have o5:=oOf (hB 5 (by kernel_rfl)) rfl;clear hB hA;have cc0:=eI.cell b0;have cc1:=eI.cell b1;have cc2:=eI.cell b2;have cc3:=eI.cell b3
         ·go_simp;exact hK.out _ _ (Ext.refl _) (hRd.ext eI)
         have o3:=oOf (hB 3 (by kernel_rfl)) rfl
         rotate_left
         obtain⟨_,s152,rfl⟩:=hA 2 (by kernel_rfl) 152 rfl;have cc0:=eI.cell a2
         rotate_left
         have o1:=oOf (hB 1 (by kernel_rfl)) rfl
         rotate_left
         obtain⟨_,s153,rfl⟩:=hA 3 (by kernel_rfl) 153 rfl;obtain⟨_,s154,rfl⟩:=hA 4 (by kernel_rfl) 154 rfl
         rotate_left
         obtain⟨_,s155,rfl⟩:=hA 5 (by kernel_rfl) 155 rfl;clear hB hA;have cc0:=eI.cell q0;have cc1:=eI.cell q1;have cc2:=eI.cell q2;have cc3:=eI.cell q3
         ·go_simp;exact hK.out _ _ (Ext.refl _) (hRp.ext eI)
         have o18:=oOf (hB 18 (by kernel_rfl)) rfl;clear hB hA;have cc0:=eI.cell s0;have cc1:=eI.cell s1;have cc2:=eI.cell s2;have cc3:=eI.cell s3
         ·go_simp;exact hK.out _ _ (Ext.refl _) (hR9.ext eI)
         obtain⟨x156,s156,j156⟩:=hA 6 (by kernel_rfl) 156 rfl;replace j156:Mn.p (Mn.rat N (p i)) x156 wi:=j156;obtain⟨x157,s157,j157⟩:=hA 7 (by kernel_rfl) 157 rfl;replace j157:Mn.p (Mn.rat N (r9)) x157 wi:=j157;clear hB hA
         ·go_simp;refine (l38_mul j156 j157 HZP.out HZR.out).mono ?_;rintro e wj ⟨vj,rfl,hj,ej⟩;go_wp2_with fail;exact hK.out _ _ ej hj
         obtain⟨x151,s151,j151⟩:=hA 1 (by kernel_rfl) 151 rfl;replace j151:Mn.p (Mn.rat N (dl)) x151 wi:=j151;obtain⟨x158,s158,j158⟩:=hA 8 (by kernel_rfl) 158 rfl;replace j158:Mn.p (Mn.rat N (p i*r9)) x158 wi:=j158;clear hB hA
         ·go_simp;refine (l38_div j151 j158 HZD.out HPR.out HPR0.out).mono ?_;rintro e wj ⟨vj,rfl,hj,ej⟩;go_wp2_with fail;exact hK.out _ _ ej hj
         obtain⟨x150,s150,j150⟩:=hA 0 (by kernel_rfl) 150 rfl;replace j150:Mn.p (Mn.rat N (qm)) x150 wi:=j150;obtain⟨x159,s159,j159⟩:=hA 9 (by kernel_rfl) 159 rfl;replace j159:Mn.p (Mn.rat N (dl / (p i*r9))) x159 wi:=j159;clear hB hA
         ·go_simp;refine (r2_same j150 j159 HZM.out HEM.out).mono ?_;rintro e wj ⟨rfl,ej⟩;go_wp2_with fail;exact hK.out _ _ ej rfl
         obtain⟨_,s160,rfl⟩:=hA 10 (by kernel_rfl) 160 rfl
         rotate_left
         obtain⟨_,s161,rfl⟩:=hA 11 (by kernel_rfl) 161 rfl
         rotate_left
         obtain⟨_,s162,rfl⟩:=hA 12 (by kernel_rfl) 162 rfl;have o11:=oOf (hB 11 (by kernel_rfl)) rfl;clear hB hA;rw [if_pos (by simp [Region.wanted,yielded,s162])];have cc0:=eI.cell y0;have cc1:=eI.cell y1;have cc2:=eI.cell y2;have cc3:=eI.cell y3
         ·go_simp;exact hK.out _ _ (Ext.refl _) (hRr.ext eI)
         obtain⟨_,s162,rfl⟩:=hA 12 (by kernel_rfl) 162 rfl;have o5:=oOf (hB 5 (by kernel_rfl)) rfl;clear hB hA;rw [if_pos (by simp [Region.wanted,yielded,s162])];have cc0:=eI.cell b0;have cc1:=eI.cell b1;have cc2:=eI.cell b2;have cc3:=eI.cell b3
         ·go_simp;exact hK.out _ _ (Ext.refl _) (hRd.ext eI)
         obtain⟨_,s162,rfl⟩:=hA 12 (by kernel_rfl) 162 rfl;clear hB hA;rw [if_pos (by simp [Region.wanted,yielded,s162])]
         ·go_simp;refine (r2_Whole (N:=N) (by have:=eI.size; omega) 1 (by omega) (by omega)).mono ?_;rintro e wj ⟨vj,rfl,hj,ej⟩;go_wp2_with fail;exact hK.out _ _ ej hj
         obtain⟨_,s162,rfl⟩:=hA 12 (by kernel_rfl) 162 rfl;have o18:=oOf (hB 18 (by kernel_rfl)) rfl;clear hB hA;rw [if_pos (by simp [Region.wanted,yielded,s162])];have cc0:=eI.cell s0;have cc1:=eI.cell s1;have cc2:=eI.cell s2;have cc3:=eI.cell s3
         ·go_simp;exact hK.out _ _ (Ext.refl _) (hR9.ext eI)
         obtain⟨_,s162,rfl⟩:=hA 12 (by kernel_rfl) 162 rfl;obtain⟨x165,s165,j165⟩:=hA 15 (by kernel_rfl) 165 rfl;replace j165:Mn.p (Mn.rat N ((1:Int):Rat)) x165 wi:=j165;obtain⟨x166,s166,j166⟩:=hA 16 (by kernel_rfl) 166 rfl;replace j166:Mn.p (Mn.rat N (r9)) x166 wi:=j166;clear hB hA;rw [if_pos (by simp [Region.wanted,yielded,s162])]
         ·go_simp;refine (l38_sub j165 j166 HZ1.out HZR.out).mono ?_;rintro e wj ⟨vj,rfl,hj,ej⟩;go_wp2_with fail;exact hK.out _ _ ej hj
         obtain⟨_,s162,rfl⟩:=hA 12 (by kernel_rfl) 162 rfl;obtain⟨x164,s164,j164⟩:=hA 14 (by kernel_rfl) 164 rfl;replace j164:Mn.p (Mn.rat N (dl)) x164 wi:=j164;obtain⟨x167,s167,j167⟩:=hA 17 (by kernel_rfl) 167 rfl;replace j167:Mn.p (Mn.rat N (((1:Int):Rat) - r9)) x167 wi:=j167;clear hB hA;rw [if_pos (by simp [Region.wanted,yielded,s162])]
         ·go_simp;refine (l38_mul j164 j167 HZD.out HZ1R.out).mono ?_;rintro e wj ⟨vj,rfl,hj,ej⟩;go_wp2_with fail;exact hK.out _ _ ej hj
         obtain⟨_,s162,rfl⟩:=hA 12 (by kernel_rfl) 162 rfl;have o18:=oOf (hB 18 (by kernel_rfl)) rfl;clear hB hA;rw [if_pos (by simp [Region.wanted,yielded,s162])];have cc0:=eI.cell s0;have cc1:=eI.cell s1;have cc2:=eI.cell s2;have cc3:=eI.cell s3
         ·go_simp;exact hK.out _ _ (Ext.refl _) (hR9.ext eI)
         obtain⟨_,s162,rfl⟩:=hA 12 (by kernel_rfl) 162 rfl;obtain⟨x168,s168,j168⟩:=hA 18 (by kernel_rfl) 168 rfl;replace j168:Mn.p (Mn.rat N (dl*(((1:Int):Rat) - r9))) x168 wi:=j168;obtain⟨x169,s169,j169⟩:=hA 19 (by kernel_rfl) 169 rfl;replace j169:Mn.p (Mn.rat N (r9)) x169 wi:=j169;clear hB hA;rw [if_pos (by simp [Region.wanted,yielded,s162])]
         ·go_simp;refine (l38_div j168 j169 HZDR.out HZR.out HR0.out).mono ?_;rintro e wj ⟨vj,rfl,hj,ej⟩;go_wp2_with fail;exact hK.out _ _ ej hj
         obtain⟨_,s162,rfl⟩:=hA 12 (by kernel_rfl) 162 rfl;obtain⟨x163,s163,j163⟩:=hA 13 (by kernel_rfl) 163 rfl;replace j163:Mn.p (Mn.rat N (qr)) x163 wi:=j163;obtain⟨x170,s170,j170⟩:=hA 20 (by kernel_rfl) 170 rfl;replace j170:Mn.p (Mn.rat N (dl*(((1:Int):Rat) - r9) / r9)) x170 wi:=j170;clear hB hA;rw [if_pos (by simp [Region.wanted,yielded,s162])]
         ·go_simp;refine (r2_same j163 j170 HZQ.out HER.out).mono ?_;rintro e wj ⟨rfl,ej⟩;go_wp2_with fail;exact hK.out _ _ ej rfl
         obtain⟨_,s162,rfl⟩:=hA 12 (by kernel_rfl) 162 rfl;obtain⟨_,s171,rfl⟩:=hA 21 (by kernel_rfl) 171 rfl;rw [if_pos (by simp [Region.wanted,yielded,s162])]
         rotate_left
         obtain⟨_,s162,rfl⟩:=hA 12 (by kernel_rfl) 162 rfl;obtain⟨_,s172,rfl⟩:=hA 22 (by kernel_rfl) 172 rfl
         rotate_left
         all_goals clear hB hA
         all_goals go_simp
         all_goals exact hK.out _ _ (Ext.refl _) rfl
        intro vals wz eZ hJ;have J173:vals 23=_:=hJ 23 (by decide) (by decide);clear hJ;simp only [pr,Nat.reduceAdd,J173];clear J173;refine stepL_done (by kernel_rfl) ?_ _;obtain⟨wy2,hwy2⟩:∃ wy2,wy2=wz:=⟨_,rfl⟩
        rw [←hwy2] at eZ ⊢;replace hE:=hE.trans eZ;replace B0:=eZ.block B0;replace BM:=BoxR.ext BM eZ;replace BR:=BoxR.ext BR eZ;replace hEx:=LsV.all (hEx.ext eZ);clear a0 a1 a2 b0 b1 b2 b3 x0 x1 x2 x3 y0 y1 y2 y3 s0 s1 s2 s3 q0 q1 q2 q3 eZ hwy2 hRm hRr hRp hRd BN B1;obtain⟨a0,a1,a2,-⟩:=cells3 B0;go_wp2_with (go_at_call 51; refine Hid.out ?_);refine (l34_normal (hI1.ext hE) (hI2.ext hE) (hI3.ext hE) hm0 (by omega) hn0 (by omega) HD.out.hX HD.out.hy HD.out.hp HD.out.hK1).mono ?_;rintro e w33 ⟨AN,cN,AR,cR,rfl,hMn,-,e33⟩;replace BM:=BoxR.ext BM e33;replace BR:=BoxR.ext BR e33;replace hEx:=LsV.all (hEx.ext e33);replace hE:=hE.trans e33;clear a0 a1 a2 e33 B0;obtain⟨m0',M1,k31,c31,M2,k32,c32,x0,x1,x2,x3,-,-,-,-,hRm,-⟩:=BM.open;obtain⟨r0',R1',k33,c33,R2',k34,c34,y0,y1,y2,y3,-,-,-,-,hRr,-⟩:=BR.open;go_upto_region 32 with (fail);refine regI [Mn.rat N (qr),Mn.rat N (qm),Mn.eq (.slice AN n cN),Mn.eq (.slice AE n cE),Mn.rat N (qfS n (nmat X p m) (fun k=>p i*gS m n X p i k) n),Mn.rat N (qm*qfS n (nmat X p m) (fun k=>p i*gS m n X p i k) n),Mn.eq (.bool true),Mn.eq (.bool true)] [some 179,some 180,some 181,some 182,some 183,some 184,some 185,some 6] [] [true,true,true,true,true,true,true,true] 0 (by kernel_rfl) ?_ ?_
        ·show ∀ i,i < 8→_
         iterate 8 refine fs ?_ ?_
         ·exact fz
         all_goals intro hl
         all_goals clear hl
         all_goals refine stp rfl ?_
         all_goals intro ac wi eI hB hA K hK
         have o11:=oOf (hB 11 (by kernel_rfl)) rfl;clear hB hA;have cc0:=eI.cell y0;have cc1:=eI.cell y1;have cc2:=eI.cell y2;have cc3:=eI.cell y3
         ·go_simp;exact hK.out _ _ (Ext.refl _) (hRr.ext eI)
         have o7:=oOf (hB 7 (by kernel_rfl)) rfl;clear hB hA;have cc0:=eI.cell x0;have cc1:=eI.cell x1;have cc2:=eI.cell x2;have cc3:=eI.cell x3
         ·go_simp;exact hK.out _ _ (Ext.refl _) (hRm.ext eI)
         have o19:=oOf (hB 19 (by kernel_rfl)) rfl
         rotate_left
         have o9:=oOf (hB 9 (by kernel_rfl)) rfl
         rotate_left
         obtain⟨_,s181,rfl⟩:=hA 2 (by kernel_rfl) 181 rfl;obtain⟨_,s182,rfl⟩:=hA 3 (by kernel_rfl) 182 rfl;clear hB hA
         ·go_simp;refine (r5_form (K:=90000000) (hMn.ext eI) (hEx.ext eI) hn0 (by omega) HD.out.K_ht HKX.out (by omega) (by omega)).mono ?_;rintro e wj ⟨vj,rfl,hj,ej⟩;go_wp2_with fail;exact hK.out _ _ ej hj
         obtain⟨x180,s180,j180⟩:=hA 1 (by kernel_rfl) 180 rfl;replace j180:Mn.p (Mn.rat N (qm)) x180 wi:=j180;obtain⟨x183,s183,j183⟩:=hA 4 (by kernel_rfl) 183 rfl;replace j183:Mn.p (Mn.rat N (qfS n (nmat X p m) (fun k=>p i*gS m n X p i k) n)) x183 wi:=j183;clear hB hA
         ·go_simp;refine (l38_mul j180 j183 HZM.out HQF.out).mono ?_;rintro e wj ⟨vj,rfl,hj,ej⟩;go_wp2_with fail;exact hK.out _ _ ej hj
         obtain⟨x179,s179,j179⟩:=hA 0 (by kernel_rfl) 179 rfl;replace j179:Mn.p (Mn.rat N (qr)) x179 wi:=j179;obtain⟨x184,s184,j184⟩:=hA 5 (by kernel_rfl) 184 rfl;replace j184:Mn.p (Mn.rat N (qm*qfS n (nmat X p m) (fun k=>p i*gS m n X p i k) n)) x184 wi:=j184;clear hB hA
         ·go_simp;refine (r2_same j179 j184 HZQ.out HEQ.out).mono ?_;rintro e wj ⟨rfl,ej⟩;go_wp2_with fail;exact hK.out _ _ ej rfl
         obtain⟨_,s185,rfl⟩:=hA 6 (by kernel_rfl) 185 rfl
         rotate_left
         all_goals clear hB hA
         all_goals go_simp
         all_goals exact hK.out _ _ (Ext.refl _) rfl
        intro vals wz eZ hJ;have J6:vals 7=_:=hJ 7 (by decide) (by decide);clear hJ;simp only [pr,Nat.reduceAdd,J6];clear J6;refine stepL_done (by kernel_rfl) ?_ _;go_wp2;go_ret;exact⟨rfl,hE.trans eZ⟩
end Go.Proofs.YthkkknjcoidioaaGreat
