import Derived.Test.YtccepmpebioeiaaGreatWb01
import Derived.Test.YtccepmpebioeiaaGreatWb02
import Derived.Test.YtccepmpebioeiaaGreatWb03
import Derived.Test.YtccepmpebioeiaaGreatWb04
import Derived.Test.YtccepmpebioeiaaGreatWb05
import Derived.Test.YtccepmpebioeiaaGreatWb06
import Derived.Test.YtccepmpebioeiaaGreatWb07
import Derived.Test.YtccepmpebioeiaaGreatWb08
import Derived.Test.YtccepmpebioeiaaGreatWb09
import Derived.Test.YtccepmpebioeiaaGreatWb10
import Derived.Test.YtccepmpebioeiaaGreatWb11
import Derived.Test.YtccepmpebioeiaaGreatWb12
import Derived.Test.YtccepmpebioeiaaGreatWb13
import Derived.Test.YtccepmpebioeiaaGreatWb14
import Derived.Test.YtccepmpebioeiaaGreatWb15
import Derived.Test.YtccepmpebioeiaaGreatWb16
import Derived.Test.YtccepmpebioeiaaGreatWb17
import Derived.Test.YtccepmpebioeiaaGreatWb18
import Derived.Test.YtccepmpebioeiaaGreatWb19
import Derived.Test.YtccepmpebioeiaaGreatWb20
import Derived.Test.YtccepmpebioeiaaGreatWb21
import Derived.Test.YtccepmpebioeiaaGreatWb22
import Derived.Test.YtccepmpebioeiaaGreatWb23
import Derived.Test.YtccepmpebioeiaaGreatWb24
import Derived.Test.YtccepmpebioeiaaGreatWb25
import Derived.Test.YtccepmpebioeiaaGreatWb26
import Derived.Test.YtccepmpebioeiaaGreatWb27
import Derived.Test.YtccepmpebioeiaaGreatWb29
import Derived.Test.YtccepmpebioeiaaGreatWb30
import Derived.Test.YtccepmpebioeiaaGreatWb31
import Derived.Test.YtccepmpebioeiaaGreatWb32
import Derived.Test.YtccepmpebioeiaaGreatWb33
import Derived.Test.YtccepmpebioeiaaGreatWb34
import Derived.Test.YtccepmpebioeiaaGreatWb35
import Derived.Test.YtccepmpebioeiaaGreatWb37
import Derived.Test.YtccepmpebioeiaaGreatWb38
import Derived.Test.YtccepmpebioeiaaGreatWb39
import Derived.Test.YtccepmpebioeiaaGreatWb40
import Derived.Test.YtccepmpebioeiaaGreatWb41
import Derived.Test.YtccepmpebioeiaaGreatWb42
import Derived.Test.YtccepmpebioeiaaGreatWb43
import Derived.Test.YtccepmpebioeiaaGreatWb44
import Derived.Deep.RegionHeld3
import Derived.Deep.AppendLies
import Derived.WalkKit
import Derived.WalkSpells
import Derived.WalkLawsBesides
import Derived.Lib.Hide
import Derived.Deep.QuietTactic
import Derived.BigQuiet
import Derived.Maps.AppendAt
import Derived.Deep.DeepCutAuto
import Derived.Deep.RegionWith
import Derived.Deep.DeepMust
import Derived.Deep.CutBlock
import Derived.OrdersIn
import Derived.RegionTactic
import Derived.RangeFuncNested
import Derived.RangeFuncBound
import Derived.RangeFuncCalls
import Derived.RangeFuncLeaves
import Derived.RangeFuncBox
import Derived.Shelf.Abstract
import Derived.OwnWalkIn
import Derived.TacticsInMore
import Derived.LoopNIn
import Derived.LoopIn
import Derived.Deep.RegionLaw
import Derived.Lib.SliceRun
import Derived.Laws.IdiomCopy
import Derived.Shelf.Bits.Mul64
import Derived.Deep.Slices
import Derived.Deep.Strs
import Derived.Lib.SmallJoins
import Derived.ProofKit
import Derived.OpenShut
import Derived.Below
set_option linter.all false
set_option maxHeartbeats 8000000
namespace Go.Proofs.YtccepmpebioeiaaGreat
open Go.RowKit
theorem r2_zero {w:World}:Calls Tryz.prog 34 #[.agg #[.bool false,.slice none 0 0,.bool false,.slice none 0 0]] w (RetV w (.bool true)):=by
 go_enter Tryz.func34,Tryz.ntmps34
 go_wp2
 go_ret
 exact⟨rfl,(Ext.refl w).alloc _⟩
structure FewLin (Z:Lin) (n:Nat) (X:Nat→Nat→Rat) (y p:Nat→Rat):Prop where
 m0:0 < Z.m
 m6:Z.m≤6
 n0:0 < n
 n4:n≤4
 L:∀ i,i < Z.m→Z.L i=n
 eA:∀ i,i < Z.m→∀ j,j < n→Z.A i j=raw (X i j)
 nl:Z.nl=Z.m
 el:∀ i,i < Z.m→Z.l i=raw (y i)
 np:Z.np=Z.m
 ep:∀ i,i < Z.m→Z.p i=raw (p i)
 pos:∀ i,i < Z.m→0 < p i
 hX:HtM Z.m n 17 X
 hy:HtL Z.m 17 y
 hp:HtL Z.m 17 p
theorem FewLin.mem {Z:Lin} {n:Nat} {X:Nat→Nat→Rat} {y p:Nat→Rat} (f:FewLin Z n X y p) {N lo hi:Nat} {w:World} {A1 A2 A3:Option Addr} {c1 c2 c3:Nat} (h1:MtR N lo hi w (.slice A1 Z.m c1) Z.m Z.L Z.A) (h2:LsR N lo hi w (.slice A2 Z.nl c2) Z.nl Z.l) (h3:LsR N lo hi w (.slice A3 Z.np c3) Z.np Z.p) :
  MtV N lo hi w (.slice A1 Z.m c1) Z.m n X∧LsV N lo hi w (.slice A2 Z.m c2) Z.m y∧LsV N lo hi w (.slice A3 Z.m c3) Z.m p:=by
 refine⟨MtR.congr h1 f.L (fun i hi j hj=>f.eA i hi j (by rw [←f.L i hi]; exact hj)),?_,?_⟩
 ·rw [f.nl] at h2; exact LsR.congr h2 f.el
 ·rw [f.np] at h3; exact LsR.congr h3 f.ep
theorem shB_sz {most n:Nat} {R:Nat→Raw} (h:shB most n R=true):∀ i,i < n→RawSz (R i):=fun i hi=>(brief_raw ((shB_all h).2 i hi)).1
theorem FewG.mem {r c:Nat} {Z:Lin} {n:Nat} {X:Nat→Nat→Rat} {y p:Nat→Rat} (f:FewG r c Z n X y p) {N lo hi:Nat} {w:World} {A1 A2 A3:Option Addr} {c1 c2 c3:Nat} (h1:MtR N lo hi w (.slice A1 Z.m c1) Z.m Z.L Z.A) (h2:LsR N lo hi w (.slice A2 Z.nl c2) Z.nl Z.l) (h3:LsR N lo hi w (.slice A3 Z.np c3) Z.np Z.p) :
  MtV N lo hi w (.slice A1 Z.m c1) Z.m n X∧LsV N lo hi w (.slice A2 Z.m c2) Z.m y∧LsV N lo hi w (.slice A3 Z.m c3) Z.m p:=by
 refine⟨MtR.congr h1 f.L (fun i hi j hj=>f.eA i hi j (by rw [←f.L i hi]; exact hj)),?_,?_⟩
 ·rw [f.nl] at h2; exact LsR.congr h2 f.el
 ·rw [f.np] at h3; exact LsR.congr h3 f.ep
set_option maxRecDepth 100000 in
theorem val_out {N lo hi lo' hi':Nat} {w:World} {v u:Value} {Z:Lin} {n:Nat} {R:Nat→Raw} (h:LinV N lo hi w v Z) (hx:LsR N lo' hi' w u n R) (hs:few34 8 6 Z=false∨(few34 8 6 Z=true∧shB 8 n R=false)) :
  Calls Tryz.prog 6 #[v,u] w (RetV w (.bool true)):=by
 have hI:=h
 obtain⟨A1,c1,A2,c2,A3,c3,rfl,-⟩:=h.parts
 obtain⟨A4,c4,rfl,-⟩:=hx.form
 have hX:=hx
 rcases hs with hs | ⟨hs,hs'⟩
 ·have HS:=Lib.hid hs
  clear h hx hs
  go_enter Tryz.func6,Tryz.ntmps6
  go_wp2_with (go_at_call 10; refine Hid.out ?_)
  refine boxesC1 ?_
  intro W hE hsz B0
  refine (l34_known W).mono ?_
  rintro e w1 ⟨rfl,e1⟩
  replace hE:=hE.trans e1
  replace B0:=e1.block B0
  have hs1:=e1.size
  replace hsz:w.heap.size < w1.heap.size:=by omega
  clear e1 hs1
  obtain⟨a0,a1,a2,-⟩:=cells3 B0
  go_wp2_with (go_at_call 11; refine Hid.out ?_)
  refine (l34_few (hI.ext hE) 8 6 rfl rfl (by omega) (by omega)).mono ?_
  rintro e w2 ⟨rfl,e2⟩
  rw [HS.out]
  replace hE:=hE.trans e2
  replace B0:=e2.block B0
  replace hsz:=blk_lt B0
  clear a0 a1 a2
  obtain⟨a0,a1,a2,-⟩:=cells3 B0
  clear e2
  go_wp2
  go_ret
  exact⟨rfl,hE⟩
 ·have HS:=Lib.hid hs
  have HS':=Lib.hid hs'
  clear h hx hs hs'
  go_enter Tryz.func6,Tryz.ntmps6
  go_wp2_with (go_at_call 10; refine Hid.out ?_)
  refine boxesC1 ?_
  intro W hE hsz B0
  refine (l34_known W).mono ?_
  rintro e w1 ⟨rfl,e1⟩
  replace hE:=hE.trans e1
  replace B0:=e1.block B0
  have hs1:=e1.size
  replace hsz:w.heap.size < w1.heap.size:=by omega
  clear e1 hs1
  obtain⟨a0,a1,a2,-⟩:=cells3 B0
  go_wp2_with (go_at_call 11; refine Hid.out ?_)
  refine (l34_few (hI.ext hE) 8 6 rfl rfl (by omega) (by omega)).mono ?_
  rintro e w2 ⟨rfl,e2⟩
  rw [HS.out]
  replace hE:=hE.trans e2
  replace B0:=e2.block B0
  replace hsz:=blk_lt B0
  clear a0 a1 a2
  obtain⟨a0,a1,a2,-⟩:=cells3 B0
  clear e2
  go_wp2_with (go_at_call 12; refine Hid.out ?_)
  refine (r2_short (hX.ext hE) 8 rfl (by omega)).mono ?_
  rintro e w3 ⟨rfl,e3⟩
  rw [HS'.out]
  replace hE:=hE.trans e3
  replace B0:=e3.block B0
  replace hsz:=blk_lt B0
  clear a0 a1 a2
  obtain⟨a0,a1,a2,-⟩:=cells3 B0
  clear e3
  go_wp2
  go_ret
  exact⟨rfl,hE⟩
set_option maxRecDepth 100000 in
theorem val_bad {N lo hi lo' hi':Nat} {w:World} {v u:Value} {Z:Lin} {n:Nat} {R:Nat→Raw} (h:LinV N lo hi w v Z) (hx:LsR N lo' hi' w u n R) (hs:few34 8 6 Z=true) (hs':shB 8 n R=true) (hg:givCode Z n R≠0) :
  Calls Tryz.prog 6 #[v,u] w (RetV w (.bool true)):=by
 have hI:=h
 obtain⟨A1,c1,A2,c2,A3,c3,rfl,h1,h2,h3,-⟩:=h.parts
 obtain⟨A4,c4,rfl,hnc4,hcm4⟩:=hx.form
 have hn8:=(shB_all hs').1
 have hX:=hx
 obtain⟨f1,f2,f3⟩:=few34_sz hs
 have HXS:Hid (∀ i,i < n→RawSz (R i)):=shB_sz hs'
 have HS:=Lib.hid hs
 have HS':=Lib.hid hs'
 have HG:=Lib.hid hg
 have HF2:=Lib.hid f2
 have HF3:=Lib.hid f3
 obtain⟨r,hr⟩:=hid_eq (givCode Z n R)
 have hr0:(r == 0)=false:=by rw [hr.out]; simpa using hg
 have hr1:(r != 0)=true:=by simpa using hr0
 have hr3:(r != r)=false:=by simp
 by_cases hc:codeOf Z=0
 ·have HC:=Lib.hid hc
  obtain⟨s,hsv⟩:=hid_eq (allB n (fun i=>okR (R i)))
  cases s with
  | false =>
   have HR1:Hid (r=1):=by
    rw [Hid,hr.out]; unfold givCode
    rw [if_neg (by simpa using hc),if_pos hsv.out.symm]
   clear h hx h1 h2 h3 hs hs' hg hc f2 f3
   go_enter Tryz.func6,Tryz.ntmps6
   go_wp2_with (go_at_call 10; refine Hid.out ?_)
   refine boxesC1 ?_
   intro W hE hsz B0
   refine (l34_known W).mono ?_
   rintro e w1 ⟨rfl,e1⟩
   replace hE:=hE.trans e1
   replace B0:=e1.block B0
   have hs1:=e1.size
   replace hsz:w.heap.size < w1.heap.size:=by omega
   clear e1 hs1
   obtain⟨a0,a1,a2,-⟩:=cells3 B0
   go_wp2_with (go_at_call 11; refine Hid.out ?_)
   refine (l34_few (hI.ext hE) 8 6 rfl rfl (by omega) (by omega)).mono ?_
   rintro e w2 ⟨rfl,e2⟩
   rw [HS.out]
   replace hE:=hE.trans e2
   replace B0:=e2.block B0
   replace hsz:=blk_lt B0
   clear a0 a1 a2
   obtain⟨a0,a1,a2,-⟩:=cells3 B0
   clear e2
   go_wp2_with (go_at_call 12; refine Hid.out ?_)
   refine (r2_short (hX.ext hE) 8 rfl (by omega)).mono ?_
   rintro e w3 ⟨rfl,e3⟩
   rw [HS'.out]
   replace hE:=hE.trans e3
   replace B0:=e3.block B0
   replace hsz:=blk_lt B0
   clear a0 a1 a2
   obtain⟨a0,a1,a2,-⟩:=cells3 B0
   clear e3
   go_wp2_with (go_at_call 31; refine Hid.out ?_)
   refine (n_Residuals_bad (hI.ext hE) (hX.ext hE) HF2.out HF3.out HXS.out HG.out).mono ?_
   rintro e w4 ⟨rfl,e4⟩
   rw [←hr.out]
   replace hE:=hE.trans e4
   replace B0:=e4.block B0
   replace hsz:=blk_lt B0
   clear a0 a1 a2
   obtain⟨a0,a1,a2,-⟩:=cells3 B0
   go_wp2_with (go_at_call 32; refine Hid.out ?_)
   refine (n_Objective_bad (hI.ext hE) (hX.ext hE) HF2.out HF3.out HXS.out HG.out).mono ?_
   rintro e w5 ⟨rfl,e5⟩
   rw [←hr.out]
   unfold nilRat
   replace hE:=hE.trans e5
   replace B0:=e5.block B0
   replace hsz:=blk_lt B0
   clear a0 a1 a2
   obtain⟨a0,a1,a2,-⟩:=cells3 B0
   go_upto_region 7 with (fail)
   refine boxes1 ?_
   intro w6 e6 hsz6 B6
   replace hE:=hE.trans e6
   replace B0:=e6.block B0
   replace hsz:=blk_lt B0
   clear a0 a1 a2
   obtain⟨a0,a1,a2,-⟩:=cells3 B0
   go_wp2_with (go_at_call 33; refine Hid.out ?_)
   refine (n_Gradient_bad (hI.ext hE) (hX.ext hE) HF2.out HF3.out HXS.out HG.out).mono ?_
   rintro e w7 ⟨rfl,e7⟩
   rw [←hr.out]
   replace B6:=e7.block B6
   replace hE:=hE.trans e7
   replace B0:=e7.block B0
   replace hsz:=blk_lt B0
   clear a0 a1 a2
   obtain⟨a0,a1,a2,-⟩:=cells3 B0
   go_wp2_with (go_at_call 14; refine Hid.out ?_)
   refine (l34_checked (hI.ext hE) HF2.out HF3.out).mono ?_
   rintro e w8 ⟨rfl,e8⟩
   replace B6:=e8.block B6
   replace hE:=hE.trans e8
   replace B0:=e8.block B0
   replace hsz:=blk_lt B0
   clear a0 a1 a2
   obtain⟨a0,a1,a2,-⟩:=cells3 B0
   clear e4 e5 e6 e7 e8 hsz6
   rw [HC.out]
   go_wp2_with (go_at_call 17; refine Hid.out ?_)
   refine (r2_validList (hX.ext hE) HXS.out).mono ?_
   rw [←hsv.out]
   rintro e w9 ⟨rfl,e9⟩
   replace B6:=e9.block B6
   replace hE:=hE.trans e9
   replace B0:=e9.block B0
   replace hsz:=blk_lt B0
   clear a0 a1 a2
   obtain⟨a0,a1,a2,-⟩:=cells3 B0
   have hr9:=HR1.out
   subst hr9
   clear a0 a1 a2
   obtain⟨a0,a1,a2,a3,-⟩:=cells4 B6
   go_wp2_with (go_at_call 34; refine Hid.out ?_)
   refine r2_zero.mono ?_
   rintro e w12 ⟨rfl,e12⟩
   go_wp2
   go_ret
   exact⟨rfl,hE.trans e12⟩
  | true =>
   have hL0:n≠Z.L 0:=fun h9=>hg (by
    unfold givCode
    rw [if_neg (by simpa using hc),if_neg (by rw [←hsv.out]; simp),if_neg (by simpa using h9)])
   have HR4:Hid (r=4):=by
    rw [Hid,hr.out]; unfold givCode
    rw [if_neg (by simpa using hc),if_neg (by rw [←hsv.out]; simp),if_pos hL0]
   have hm1:=codeOf_m hc
   obtain⟨bb,off,rfl,-,-,hx1⟩:=h1.addr (by omega)
   obtain⟨A0,c0,o0,hc0,hm0',-⟩:=hx1 0 (by omega)
   rw [Nat.add_zero] at o0
   unfold maxLen at hm0'
   obtain⟨L0,hL0d⟩:=hid_eq (Z.L 0)
   rw [←hL0d.out] at o0 hL0 hc0
   have t1:((n:Int) != (L0:Int))=true:=by rw [bne_iff_ne]; omega
   clear h hx h1 h2 h3 hs hs' hg hc f2 f3 hx1 hL0
   go_enter Tryz.func6,Tryz.ntmps6
   go_wp2_with (go_at_call 10; refine Hid.out ?_)
   refine boxesC1 ?_
   intro W hE hsz B0
   refine (l34_known W).mono ?_
   rintro e w1 ⟨rfl,e1⟩
   replace hE:=hE.trans e1
   replace B0:=e1.block B0
   have hs1:=e1.size
   replace hsz:w.heap.size < w1.heap.size:=by omega
   clear e1 hs1
   obtain⟨a0,a1,a2,-⟩:=cells3 B0
   go_wp2_with (go_at_call 11; refine Hid.out ?_)
   refine (l34_few (hI.ext hE) 8 6 rfl rfl (by omega) (by omega)).mono ?_
   rintro e w2 ⟨rfl,e2⟩
   rw [HS.out]
   replace hE:=hE.trans e2
   replace B0:=e2.block B0
   replace hsz:=blk_lt B0
   clear a0 a1 a2
   obtain⟨a0,a1,a2,-⟩:=cells3 B0
   clear e2
   go_wp2_with (go_at_call 12; refine Hid.out ?_)
   refine (r2_short (hX.ext hE) 8 rfl (by omega)).mono ?_
   rintro e w3 ⟨rfl,e3⟩
   rw [HS'.out]
   replace hE:=hE.trans e3
   replace B0:=e3.block B0
   replace hsz:=blk_lt B0
   clear a0 a1 a2
   obtain⟨a0,a1,a2,-⟩:=cells3 B0
   clear e3
   go_wp2_with (go_at_call 31; refine Hid.out ?_)
   refine (n_Residuals_bad (hI.ext hE) (hX.ext hE) HF2.out HF3.out HXS.out HG.out).mono ?_
   rintro e w4 ⟨rfl,e4⟩
   rw [←hr.out]
   replace hE:=hE.trans e4
   replace B0:=e4.block B0
   replace hsz:=blk_lt B0
   clear a0 a1 a2
   obtain⟨a0,a1,a2,-⟩:=cells3 B0
   go_wp2_with (go_at_call 32; refine Hid.out ?_)
   refine (n_Objective_bad (hI.ext hE) (hX.ext hE) HF2.out HF3.out HXS.out HG.out).mono ?_
   rintro e w5 ⟨rfl,e5⟩
   rw [←hr.out]
   unfold nilRat
   replace hE:=hE.trans e5
   replace B0:=e5.block B0
   replace hsz:=blk_lt B0
   clear a0 a1 a2
   obtain⟨a0,a1,a2,-⟩:=cells3 B0
   go_upto_region 7 with (fail)
   refine boxes1 ?_
   intro w6 e6 hsz6 B6
   replace hE:=hE.trans e6
   replace B0:=e6.block B0
   replace hsz:=blk_lt B0
   clear a0 a1 a2
   obtain⟨a0,a1,a2,-⟩:=cells3 B0
   go_wp2_with (go_at_call 33; refine Hid.out ?_)
   refine (n_Gradient_bad (hI.ext hE) (hX.ext hE) HF2.out HF3.out HXS.out HG.out).mono ?_
   rintro e w7 ⟨rfl,e7⟩
   rw [←hr.out]
   replace B6:=e7.block B6
   replace hE:=hE.trans e7
   replace B0:=e7.block B0
   replace hsz:=blk_lt B0
   clear a0 a1 a2
   obtain⟨a0,a1,a2,-⟩:=cells3 B0
   go_wp2_with (go_at_call 14; refine Hid.out ?_)
   refine (l34_checked (hI.ext hE) HF2.out HF3.out).mono ?_
   rintro e w8 ⟨rfl,e8⟩
   replace B6:=e8.block B6
   replace hE:=hE.trans e8
   replace B0:=e8.block B0
   replace hsz:=blk_lt B0
   clear a0 a1 a2
   obtain⟨a0,a1,a2,-⟩:=cells3 B0
   clear e4 e5 e6 e7 e8 hsz6
   rw [HC.out]
   go_wp2_with (go_at_call 17; refine Hid.out ?_)
   refine (r2_validList (hX.ext hE) HXS.out).mono ?_
   rw [←hsv.out]
   rintro e w9 ⟨rfl,e9⟩
   replace B6:=e9.block B6
   replace hE:=hE.trans e9
   replace B0:=e9.block B0
   replace hsz:=blk_lt B0
   clear a0 a1 a2
   obtain⟨a0,a1,a2,-⟩:=cells3 B0
   have o9:=hE.cell o0
   have hr9:=HR4.out
   subst hr9
   go_upto_region 16 with (fail)
   clear a0 a1 a2
   obtain⟨a0,a1,a2,a3,-⟩:=cells4 B6
   go_wp2_with (go_at_call 34; refine Hid.out ?_)
   refine r2_zero.mono ?_
   rintro e w12 ⟨rfl,e12⟩
   go_wp2
   go_ret
   exact⟨rfl,hE.trans e12⟩
 ·have HC:=Lib.hid hc
  have HR0:Hid (codeOf Z=r):=by
   rw [Hid,hr.out]; unfold givCode
   rw [if_pos hc]
  clear h hx h1 h2 h3 hs hs' hg hc f2 f3
  go_enter Tryz.func6,Tryz.ntmps6
  go_wp2_with (go_at_call 10; refine Hid.out ?_)
  refine boxesC1 ?_
  intro W hE hsz B0
  refine (l34_known W).mono ?_
  rintro e w1 ⟨rfl,e1⟩
  replace hE:=hE.trans e1
  replace B0:=e1.block B0
  have hs1:=e1.size
  replace hsz:w.heap.size < w1.heap.size:=by omega
  clear e1 hs1
  obtain⟨a0,a1,a2,-⟩:=cells3 B0
  go_wp2_with (go_at_call 11; refine Hid.out ?_)
  refine (l34_few (hI.ext hE) 8 6 rfl rfl (by omega) (by omega)).mono ?_
  rintro e w2 ⟨rfl,e2⟩
  rw [HS.out]
  replace hE:=hE.trans e2
  replace B0:=e2.block B0
  replace hsz:=blk_lt B0
  clear a0 a1 a2
  obtain⟨a0,a1,a2,-⟩:=cells3 B0
  clear e2
  go_wp2_with (go_at_call 12; refine Hid.out ?_)
  refine (r2_short (hX.ext hE) 8 rfl (by omega)).mono ?_
  rintro e w3 ⟨rfl,e3⟩
  rw [HS'.out]
  replace hE:=hE.trans e3
  replace B0:=e3.block B0
  replace hsz:=blk_lt B0
  clear a0 a1 a2
  obtain⟨a0,a1,a2,-⟩:=cells3 B0
  clear e3
  go_wp2_with (go_at_call 31; refine Hid.out ?_)
  refine (n_Residuals_bad (hI.ext hE) (hX.ext hE) HF2.out HF3.out HXS.out HG.out).mono ?_
  rintro e w4 ⟨rfl,e4⟩
  rw [←hr.out]
  replace hE:=hE.trans e4
  replace B0:=e4.block B0
  replace hsz:=blk_lt B0
  clear a0 a1 a2
  obtain⟨a0,a1,a2,-⟩:=cells3 B0
  go_wp2_with (go_at_call 32; refine Hid.out ?_)
  refine (n_Objective_bad (hI.ext hE) (hX.ext hE) HF2.out HF3.out HXS.out HG.out).mono ?_
  rintro e w5 ⟨rfl,e5⟩
  rw [←hr.out]
  unfold nilRat
  replace hE:=hE.trans e5
  replace B0:=e5.block B0
  replace hsz:=blk_lt B0
  clear a0 a1 a2
  obtain⟨a0,a1,a2,-⟩:=cells3 B0
  go_upto_region 7 with (fail)
  refine boxes1 ?_
  intro w6 e6 hsz6 B6
  replace hE:=hE.trans e6
  replace B0:=e6.block B0
  replace hsz:=blk_lt B0
  clear a0 a1 a2
  obtain⟨a0,a1,a2,-⟩:=cells3 B0
  go_wp2_with (go_at_call 33; refine Hid.out ?_)
  refine (n_Gradient_bad (hI.ext hE) (hX.ext hE) HF2.out HF3.out HXS.out HG.out).mono ?_
  rintro e w7 ⟨rfl,e7⟩
  rw [←hr.out]
  replace B6:=e7.block B6
  replace hE:=hE.trans e7
  replace B0:=e7.block B0
  replace hsz:=blk_lt B0
  clear a0 a1 a2
  obtain⟨a0,a1,a2,-⟩:=cells3 B0
  go_wp2_with (go_at_call 14; refine Hid.out ?_)
  refine (l34_checked (hI.ext hE) HF2.out HF3.out).mono ?_
  rintro e w8 ⟨rfl,e8⟩
  replace B6:=e8.block B6
  replace hE:=hE.trans e8
  replace B0:=e8.block B0
  replace hsz:=blk_lt B0
  clear a0 a1 a2
  obtain⟨a0,a1,a2,-⟩:=cells3 B0
  clear e4 e5 e6 e7 e8 hsz6
  rw [HR0.out]
  clear a0 a1 a2
  obtain⟨a0,a1,a2,a3,-⟩:=cells4 B6
  go_wp2_with (go_at_call 34; refine Hid.out ?_)
  refine r2_zero.mono ?_
  rintro e w12 ⟨rfl,e12⟩
  go_wp2
  go_ret
  exact⟨rfl,hE.trans e12⟩
set_option maxRecDepth 100000 in
theorem val_good {N lo hi lo' hi':Nat} {w:World} {A1 A2 A3 A4:Option Addr} {c1 c2 c3 c4 m n:Nat} {X:Nat→Nat→Rat} {y p x:Nat→Rat} {R:Nat→Raw} {Z:Lin}
  (hI:LinV N lo hi w (.agg #[.slice A1 m c1,.slice A2 m c2,.slice A3 m c3]) Z) (hX:LsR N lo' hi' w (.slice A4 n c4) n R) (hs:few34 8 6 Z=true) (hs':shB 8 n R=true) (hc:codeOf Z=0) (hok:allB n (fun i=>okR (R i))=true)
  (h1:MtV N lo hi w (.slice A1 m c1) m n X) (h2:LsV N lo hi w (.slice A2 m c2) m y) (h3:LsV N lo hi w (.slice A3 m c3) m p) (h4:LsV N lo' hi' w (.slice A4 n c4) n x) (hm0:0 < m) (hm:m≤8) (hn0:0 < n) (hn:n≤6) (hpos:∀ i,i < m→0 < p i)
  (hkX:HtM m n 17 X) (hky:HtL m 17 y) (hkp:HtL m 17 p) (hkx:HtL n 17 x) :
  Calls Tryz.prog 6 #[.agg #[.slice A1 m c1,.slice A2 m c2,.slice A3 m c3],.slice A4 n c4] w (RetV w (.bool true)):=by
 obtain⟨f1,f2,f3⟩:=few34_sz hs
 have HS:=Lib.hid hs
 have HS':=Lib.hid hs'
 have HC:=Lib.hid hc
 have HOK:=Lib.hid hok
 have HF2:=Lib.hid f2
 have HF3:=Lib.hid f3
 have HX:=Lib.hid hkX
 have HY:=Lib.hid hky
 have HP:=Lib.hid hkp
 have HXX:=Lib.hid hkx
 have HPOS:=Lib.hid hpos
 have HXS:Hid (∀ i,i < n→RawSz (R i)):=shB_sz hs'
 have hN:=h1.le
 obtain⟨Q,hQ⟩:∃ Q,m*(3*17+1)+3*17+2=Q:=⟨_,rfl⟩
 have hQb:Q≤469:=by omega
 have HQ:=Lib.hid hQ
 have HQK:Hid (n*(Q+17+1)+Q+5≤29000000000):=by
  have h9:n*(Q+17+1)≤6*487:=Nat.mul_le_mul hn (by omega)
  rw [Hid]; omega
 have HRH:Hid (HtL m 300 (fun i=>av n X x i - y i)):=fun i hi=>by
  refine Ht.mono (Ht.sub (sum_ht (n:=n) (k:=17+17) (K:=n*(17+17+1)+1) (fun c hc=>(hkX i hi c hc).mul (hkx c hc)) (Nat.le_refl _) (Nat.le_refl _)) (hky i hi)) (by omega)
 obtain⟨RS,hRS⟩:=hid_eq (fun i=>av n X x i - y i)
 obtain⟨T,hT⟩:=hid_eq (obj m p (fun i=>av n X x i - y i))
 have HTH:Hid (Ht 6000 T):=by
  rw [Hid,hT.out]
  refine Ht.mono (sum_ht (n:=m) (k:=17+(300+300)) (K:=m*(17+(300+300)+1)+1) (fun i hi=>(hkp i hi).mul ((HRH.out i hi).mul (HRH.out i hi))) (Nat.le_refl _) (Nat.le_refl _)) (by omega)
 rw [←hRS.out] at HRH
 obtain⟨G,hG⟩:=hid_eq (grd m X p (fun i=>av n X x i - y i))
 have HGE:Hid (∀ i,i < n→grN n (nmat X p m) (nrhs X y p m) x i=G i):=fun i _=>by rw [hG.out]; exact grN_grd i
 have HGH:Hid (HtL n 6000 G):=fun i hi=>by
  rw [hG.out]
  unfold grd
  have h2h:Ht 2 ((2:Int):Rat):=ht_nat 2 2 (by omega) (by omega)
  rw [←hRS.out]
  exact Ht.mono (sum_ht (n:=m) (k:=2+(17+(17+300))) (K:=m*(2+(17+(17+300))+1)+1) (fun t ht=>h2h.mul ((hkp t ht).mul ((hkX t ht i hi).mul (HRH.out t ht)))) (Nat.le_refl _) (Nat.le_refl _)) (by omega)
 obtain⟨kv,hkv0⟩:∃ kv,kv=n*(17+17+1)+1+17+1:=⟨_,rfl⟩
 have hkvb:kv≤229:=by omega
 have HKV:=Lib.hid hkv0
 have h8:m*(17+(kv+kv)+1)≤8*476:=mul_le8 hm (by omega)
 have h9:m*(2+(17+(17+kv))+1)≤8*300:=mul_le8 hm (by omega)
 have HK8:Hid (m*(17+(kv+kv)+1)+1≤29000000000):=by rw [Hid]; omega
 have HK9:Hid (m*(2+(17+(17+kv))+1)+1≤29000000000):=by rw [Hid]; omega
 clear hs hs' hc hok f2 f3 hkX hky hkp hkx hpos hQ hkv0 h8 h9
 go_enter Tryz.func6,Tryz.ntmps6
 go_wp2_with (go_at_call 10; refine Hid.out ?_)
 refine boxesC1 ?_
 intro W hE hsz B0
 refine (l34_known W).mono ?_
 rintro e w1 ⟨rfl,e1⟩
 replace hE:=hE.trans e1
 replace B0:=e1.block B0
 have hs1:=e1.size
 replace hsz:w.heap.size < w1.heap.size:=by omega
 clear e1 hs1
 obtain⟨a0,a1,a2,-⟩:=cells3 B0
 go_wp2_with (go_at_call 11; refine Hid.out ?_)
 refine (l34_few (hI.ext hE) 8 6 rfl rfl (by omega) (by omega)).mono ?_
 rintro e w2 ⟨rfl,e2⟩
 rw [HS.out]
 replace hE:=hE.trans e2
 replace B0:=e2.block B0
 replace hsz:=blk_lt B0
 clear a0 a1 a2
 obtain⟨a0,a1,a2,-⟩:=cells3 B0
 clear e2
 go_wp2_with (go_at_call 12; refine Hid.out ?_)
 refine (r2_short (hX.ext hE) 8 rfl (by omega)).mono ?_
 rintro e w3 ⟨rfl,e3⟩
 rw [HS'.out]
 replace hE:=hE.trans e3
 replace B0:=e3.block B0
 replace hsz:=blk_lt B0
 clear a0 a1 a2
 obtain⟨a0,a1,a2,-⟩:=cells3 B0
 clear e3
 go_wp2_with (go_at_call 31; refine Hid.out ?_)
 refine (n_Residuals (h1.ext hE) (h2.ext hE) (h3.ext hE) (h4.ext hE) hm0 (by omega) hn0 (by omega) HPOS.out HX.out HY.out HP.out HXX.out (by omega) (by omega)).mono ?_
 rw [←hRS.out]
 rintro e w4 ⟨A5,c5,rfl,h5,e4⟩
 replace h5:=LsV.all h5
 replace hE:=hE.trans e4
 replace B0:=e4.block B0
 replace hsz:=blk_lt B0
 clear a0 a1 a2
 obtain⟨a0,a1,a2,-⟩:=cells3 B0
 go_wp2_with (go_at_call 32; refine Hid.out ?_)
 refine (n_Objective (h1.ext hE) (h2.ext hE) (h3.ext hE) (h4.ext hE) hm0 (by omega) hn0 (by omega) HPOS.out HX.out HY.out HP.out HXX.out (by omega) HKV.out HK8.out).mono ?_
 rw [←hT.out]
 rintro e w5 ⟨v6,rfl,h6,e5⟩
 obtain⟨nb,Q5,m5,l5,Q6,m6,l6,rfl,hn1,y1,y2⟩:=RatV.parts h6
 replace h5:=h5.ext e5
 clear h6
 replace hE:=hE.trans e5
 replace B0:=e5.block B0
 replace hsz:=blk_lt B0
 clear a0 a1 a2
 obtain⟨a0,a1,a2,-⟩:=cells3 B0
 go_upto_region 7 with (fail)
 refine boxes1 ?_
 intro w6 e6 hsz6 B6
 replace h5:=h5.ext e6
 replace y1:=y1.ext e6
 replace y2:=y2.ext e6
 replace hE:=hE.trans e6
 replace B0:=e6.block B0
 replace hsz:=blk_lt B0
 clear a0 a1 a2
 obtain⟨a0,a1,a2,-⟩:=cells3 B0
 go_wp2_with (go_at_call 33; refine Hid.out ?_)
 refine (n_Gradient (Q:=Q) (h1.ext hE) (h2.ext hE) (h3.ext hE) (h4.ext hE) hm0 (by omega) hn0 (by omega) HPOS.out HX.out HY.out HP.out HXX.out (by omega) HQ.out HQK.out).mono ?_
 rintro e w7 ⟨A9,c9,rfl,h9,e7⟩
 replace h9:=LsV.all (LsV.congr h9 HGE.out)
 replace h5:=h5.ext e7
 replace y1:=y1.ext e7
 replace y2:=y2.ext e7
 replace B6:=e7.block B6
 replace hE:=hE.trans e7
 replace B0:=e7.block B0
 replace hsz:=blk_lt B0
 clear a0 a1 a2
 obtain⟨a0,a1,a2,-⟩:=cells3 B0
 go_wp2_with (go_at_call 14; refine Hid.out ?_)
 refine (l34_checked (hI.ext hE) HF2.out HF3.out).mono ?_
 rw [HC.out]
 rintro e w8 ⟨rfl,e8⟩
 replace h9:=h9.ext e8
 replace h5:=h5.ext e8
 replace y1:=y1.ext e8
 replace y2:=y2.ext e8
 replace B6:=e8.block B6
 replace hE:=hE.trans e8
 replace B0:=e8.block B0
 replace hsz:=blk_lt B0
 clear a0 a1 a2
 obtain⟨a0,a1,a2,-⟩:=cells3 B0
 go_wp2_with (go_at_call 17; refine Hid.out ?_)
 refine (r2_validList (hX.ext hE) HXS.out).mono ?_
 rw [HOK.out]
 rintro e w9 ⟨rfl,e9⟩
 replace h9:=h9.ext e9
 replace h5:=h5.ext e9
 replace y1:=y1.ext e9
 replace y2:=y2.ext e9
 replace B6:=e9.block B6
 replace hE:=hE.trans e9
 replace B0:=e9.block B0
 replace hsz:=blk_lt B0
 clear a0 a1 a2
 obtain⟨a0,a1,a2,-⟩:=cells3 B0
 clear e4 e5 e6 e7 e8 e9 hsz6
 have h1w:=h1.ext hE
 obtain⟨bb,off,rfl,-,-,hx1⟩:=h1w.addr hm0
 obtain⟨A0,c0,o0,hc0,hm0',-⟩:=hx1 0 (by omega)
 rw [Nat.add_zero] at o0
 unfold maxLen at hm0'
 clear hx1 h1w
 go_upto_region 17 with (fail)
 clear o0
 obtain⟨d0,d1,d2,d3,-⟩:=cells4 B6
 refine region_inv [Mn.eq (.slice A5 m c5),Mn.eq (.agg #[.slice (some ⟨bb,off,none⟩) m c1,.slice A2 m c2,.slice A3 m c3]),Mn.eq (.slice A4 n c4),Mn.ls N m RS,Mn.eq (.bool true),Mn.eq (.bool true),Mn.rat N T,Mn.eq (.agg #[.slice (some ⟨bb,off,none⟩) m c1,.slice A2 m c2,.slice A3 m c3]),Mn.eq (.slice A4 n c4),Mn.rat N T,Mn.eq (.bool true),Mn.eq (.bool true),Mn.eq (.bool true),Mn.eq (.slice A9 n c9),Mn.eq (.agg #[.slice (some ⟨bb,off,none⟩) m c1,.slice A2 m c2,.slice A3 m c3]),Mn.eq (.slice A4 n c4),Mn.ls N n G,Mn.eq (.bool true),Mn.eq (.bool true),Mn.eq (.bool true)] [some 88,some 89,some 90,some 91,some 92,some 93,some 94,some 95,some 96,some 97,some 98,some 99,some 100,some 101,some 102,some 103,some 104,some 105,some 106,some 4] [] [true,true,true,true,true,true,true,true,true,true,true,true,true,true,true,true,true,true,true,true] 0 (by kernel_rfl) (by kernel_rfl) (by kernel_rfl) (by kernel_rfl) (by kernel_rfl) (by kernel_rfl) (by kernel_rfl) (by kernel_rfl) ?_ ?_
 ·intro i hi hl
  have hi':i=0∨i=1∨i=2∨i=3∨i=4∨i=5∨i=6∨i=7∨i=8∨i=9∨i=10∨i=11∨i=12∨i=13∨i=14∨i=15∨i=16∨i=17∨i=18∨i=19:=by have h9:i < 20:=hi; omega
  clear hi
  rcases hi' with rfl | rfl | rfl | rfl | rfl | rfl | rfl | rfl | rfl | rfl | rfl | rfl | rfl | rfl | rfl | rfl | rfl | rfl | rfl | rfl
  ·clear hl
   refine stp rfl ?_
   intro ac wi eI hold hpre K hK
   have o5:=hold 5 (by kernel_rfl)
   simp only [List.getElem?_toArray,List.getElem?_cons_succ,List.getElem?_cons_zero] at o5
   clear hold hpre
   go_simp
   exact hK.out _ _ (Ext.refl _) rfl
  ·clear hl
   refine stp rfl ?_
   intro ac wi eI hold hpre K hK
   have o2:=hold 2 (by kernel_rfl)
   simp only [List.getElem?_toArray,List.getElem?_cons_succ,List.getElem?_cons_zero] at o2
   clear hold hpre
   have cc0:=eI.cell a0
   have cc1:=eI.cell a1
   have cc2:=eI.cell a2
   have cc3:=eI.cell d0
   have cc4:=eI.cell d1
   have cc5:=eI.cell d2
   have cc6:=eI.cell d3
   go_simp
   exact hK.out _ _ (Ext.refl _) rfl
  ·clear hl
   refine stp rfl ?_
   intro ac wi eI hold hpre K hK
   have o1:=hold 1 (by kernel_rfl)
   simp only [List.getElem?_toArray,List.getElem?_cons_succ,List.getElem?_cons_zero] at o1
   clear hold hpre
   go_simp
   exact hK.out _ _ (Ext.refl _) rfl
  ·clear hl
   refine stp rfl ?_
   intro ac wi eI hold hpre K hK
   obtain⟨x89,s89,j89⟩:=hpre 1 (by kernel_rfl) 89 rfl
   obtain rfl:x89=(.agg #[.slice (some ⟨bb,off,none⟩) m c1,.slice A2 m c2,.slice A3 m c3]):=j89
   obtain⟨x90,s90,j90⟩:=hpre 2 (by kernel_rfl) 90 rfl
   obtain rfl:x90=(.slice A4 n c4):=j90
   clear hold hpre
   go_simp
   refine (l34_residuals (h1.ext (hE.trans eI)) (h2.ext (hE.trans eI)) (h3.ext (hE.trans eI)) (h4.ext (hE.trans eI)) (by omega) hn0 (by omega) HX.out HY.out HXX.out (by omega)).mono ?_
   rw [←hRS.out]
   rintro e wj ⟨Aj,cj,rfl,hj,ej⟩
   go_wp2_with fail
   exact hK.out _ _ ej (LsV.all hj)
  ·clear hl
   refine stp rfl ?_
   intro ac wi eI hold hpre K hK
   obtain⟨x88,s88,j88⟩:=hpre 0 (by kernel_rfl) 88 rfl
   obtain rfl:x88=(.slice A5 m c5):=j88
   obtain⟨x91,s91,j91⟩:=hpre 3 (by kernel_rfl) 91 rfl
   replace j91:Mn.p (Mn.ls N m RS) x91 wi:=j91
   clear hold hpre
   obtain⟨Q9,l9,rfl,-⟩:=LsV.form j91
   go_simp
   refine (r2_sameList (h5.ext eI) j91 (fun i hi=>(HRH.out i hi).sz (by omega)) (fun _ _=>rfl)).mono ?_
   rintro e wj ⟨rfl,ej⟩
   go_wp2_with fail
   exact hK.out _ _ ej rfl
  ·clear hl
   refine stp rfl ?_
   intro ac wi eI hold hpre K hK
   obtain⟨x92,s92,j92⟩:=hpre 4 (by kernel_rfl) 92 rfl
   obtain rfl:x92=(.bool true):=j92
   clear hold hpre
   go_simp
   exact hK.out _ _ (Ext.refl _) rfl
  ·clear hl
   refine stp rfl ?_
   intro ac wi eI hold hpre K hK
   obtain⟨x93,s93,j93⟩:=hpre 5 (by kernel_rfl) 93 rfl
   obtain rfl:x93=(.bool true):=j93
   have o7:=hold 7 (by kernel_rfl)
   simp only [List.getElem?_toArray,List.getElem?_cons_succ,List.getElem?_cons_zero] at o7
   clear hold hpre
   rw [if_pos (by simp [Region.wanted,yielded,s93])]
   have cc0:=eI.cell a0
   have cc1:=eI.cell a1
   have cc2:=eI.cell a2
   have cc3:=eI.cell d0
   have cc4:=eI.cell d1
   have cc5:=eI.cell d2
   have cc6:=eI.cell d3
   go_simp
   exact hK.out _ _ (Ext.refl _) ((RatV.mk hn1 y1 y2).ext eI)
  ·clear hl
   refine stp rfl ?_
   intro ac wi eI hold hpre K hK
   obtain⟨x93,s93,j93⟩:=hpre 5 (by kernel_rfl) 93 rfl
   obtain rfl:x93=(.bool true):=j93
   have o2:=hold 2 (by kernel_rfl)
   simp only [List.getElem?_toArray,List.getElem?_cons_succ,List.getElem?_cons_zero] at o2
   clear hold hpre
   rw [if_pos (by simp [Region.wanted,yielded,s93])]
   have cc0:=eI.cell a0
   have cc1:=eI.cell a1
   have cc2:=eI.cell a2
   have cc3:=eI.cell d0
   have cc4:=eI.cell d1
   have cc5:=eI.cell d2
   have cc6:=eI.cell d3
   go_simp
   exact hK.out _ _ (Ext.refl _) rfl
  ·clear hl
   refine stp rfl ?_
   intro ac wi eI hold hpre K hK
   obtain⟨x93,s93,j93⟩:=hpre 5 (by kernel_rfl) 93 rfl
   obtain rfl:x93=(.bool true):=j93
   have o1:=hold 1 (by kernel_rfl)
   simp only [List.getElem?_toArray,List.getElem?_cons_succ,List.getElem?_cons_zero] at o1
   clear hold hpre
   rw [if_pos (by simp [Region.wanted,yielded,s93])]
   go_simp
   exact hK.out _ _ (Ext.refl _) rfl
  ·clear hl
   refine stp rfl ?_
   intro ac wi eI hold hpre K hK
   obtain⟨x93,s93,j93⟩:=hpre 5 (by kernel_rfl) 93 rfl
   obtain rfl:x93=(.bool true):=j93
   obtain⟨x95,s95,j95⟩:=hpre 7 (by kernel_rfl) 95 rfl
   obtain rfl:x95=(.agg #[.slice (some ⟨bb,off,none⟩) m c1,.slice A2 m c2,.slice A3 m c3]):=j95
   obtain⟨x96,s96,j96⟩:=hpre 8 (by kernel_rfl) 96 rfl
   obtain rfl:x96=(.slice A4 n c4):=j96
   clear hold hpre
   rw [if_pos (by simp [Region.wanted,yielded,s93])]
   go_simp
   refine (l34_objective (h1.ext (hE.trans eI)) (h2.ext (hE.trans eI)) (h3.ext (hE.trans eI)) (h4.ext (hE.trans eI)) hm0 (by omega) hn0 (by omega) HX.out HY.out HP.out HXX.out HKV.out HK8.out).mono ?_
   rw [←hT.out]
   rintro e wj ⟨vj,rfl,hj,ej⟩
   go_wp2_with fail
   exact hK.out _ _ ej hj
  ·clear hl
   refine stp rfl ?_
   intro ac wi eI hold hpre K hK
   obtain⟨x93,s93,j93⟩:=hpre 5 (by kernel_rfl) 93 rfl
   obtain rfl:x93=(.bool true):=j93
   obtain⟨x94,s94,j94⟩:=hpre 6 (by kernel_rfl) 94 rfl
   replace j94:Mn.p (Mn.rat N T) x94 wi:=j94
   obtain⟨x97,s97,j97⟩:=hpre 9 (by kernel_rfl) 97 rfl
   replace j97:Mn.p (Mn.rat N T) x97 wi:=j97
   clear hold hpre
   rw [if_pos (by simp [Region.wanted,yielded,s93])]
   go_simp
   refine (r2_same j94 j97 (HTH.out.sz (by omega)) rfl).mono ?_
   rintro e wj ⟨rfl,ej⟩
   go_wp2_with fail
   exact hK.out _ _ ej rfl
  ·clear hl
   refine stp rfl ?_
   intro ac wi eI hold hpre K hK
   obtain⟨x93,s93,j93⟩:=hpre 5 (by kernel_rfl) 93 rfl
   obtain rfl:x93=(.bool true):=j93
   obtain⟨x98,s98,j98⟩:=hpre 10 (by kernel_rfl) 98 rfl
   obtain rfl:x98=(.bool true):=j98
   clear hold hpre
   go_simp
   exact hK.out _ _ (Ext.refl _) rfl
  ·clear hl
   refine stp rfl ?_
   intro ac wi eI hold hpre K hK
   obtain⟨x99,s99,j99⟩:=hpre 11 (by kernel_rfl) 99 rfl
   obtain rfl:x99=(.bool true):=j99
   clear hold hpre
   go_simp
   exact hK.out _ _ (Ext.refl _) rfl
  ·clear hl
   refine stp rfl ?_
   intro ac wi eI hold hpre K hK
   obtain⟨x100,s100,j100⟩:=hpre 12 (by kernel_rfl) 100 rfl
   obtain rfl:x100=(.bool true):=j100
   have o9:=hold 9 (by kernel_rfl)
   simp only [List.getElem?_toArray,List.getElem?_cons_succ,List.getElem?_cons_zero] at o9
   clear hold hpre
   rw [if_pos (by simp [Region.wanted,yielded,s100])]
   go_simp
   exact hK.out _ _ (Ext.refl _) rfl
  ·clear hl
   refine stp rfl ?_
   intro ac wi eI hold hpre K hK
   obtain⟨x100,s100,j100⟩:=hpre 12 (by kernel_rfl) 100 rfl
   obtain rfl:x100=(.bool true):=j100
   have o2:=hold 2 (by kernel_rfl)
   simp only [List.getElem?_toArray,List.getElem?_cons_succ,List.getElem?_cons_zero] at o2
   clear hold hpre
   rw [if_pos (by simp [Region.wanted,yielded,s100])]
   have cc0:=eI.cell a0
   have cc1:=eI.cell a1
   have cc2:=eI.cell a2
   have cc3:=eI.cell d0
   have cc4:=eI.cell d1
   have cc5:=eI.cell d2
   have cc6:=eI.cell d3
   go_simp
   exact hK.out _ _ (Ext.refl _) rfl
  ·clear hl
   refine stp rfl ?_
   intro ac wi eI hold hpre K hK
   obtain⟨x100,s100,j100⟩:=hpre 12 (by kernel_rfl) 100 rfl
   obtain rfl:x100=(.bool true):=j100
   have o1:=hold 1 (by kernel_rfl)
   simp only [List.getElem?_toArray,List.getElem?_cons_succ,List.getElem?_cons_zero] at o1
   clear hold hpre
   rw [if_pos (by simp [Region.wanted,yielded,s100])]
   go_simp
   exact hK.out _ _ (Ext.refl _) rfl
  ·clear hl
   refine stp rfl ?_
   intro ac wi eI hold hpre K hK
   obtain⟨x100,s100,j100⟩:=hpre 12 (by kernel_rfl) 100 rfl
   obtain rfl:x100=(.bool true):=j100
   obtain⟨x102,s102,j102⟩:=hpre 14 (by kernel_rfl) 102 rfl
   obtain rfl:x102=(.agg #[.slice (some ⟨bb,off,none⟩) m c1,.slice A2 m c2,.slice A3 m c3]):=j102
   obtain⟨x103,s103,j103⟩:=hpre 15 (by kernel_rfl) 103 rfl
   obtain rfl:x103=(.slice A4 n c4):=j103
   clear hold hpre
   rw [if_pos (by simp [Region.wanted,yielded,s100])]
   go_simp
   refine (l34_gradient (h1.ext (hE.trans eI)) (h2.ext (hE.trans eI)) (h3.ext (hE.trans eI)) (h4.ext (hE.trans eI)) hm0 (by omega) hn0 (by omega) HX.out HY.out HP.out HXX.out HKV.out HK9.out).mono ?_
   rw [←hG.out]
   rintro e wj ⟨Aj,cj,rfl,hj,ej⟩
   go_wp2_with fail
   exact hK.out _ _ ej (LsV.all hj)
  ·clear hl
   refine stp rfl ?_
   intro ac wi eI hold hpre K hK
   obtain⟨x100,s100,j100⟩:=hpre 12 (by kernel_rfl) 100 rfl
   obtain rfl:x100=(.bool true):=j100
   obtain⟨x101,s101,j101⟩:=hpre 13 (by kernel_rfl) 101 rfl
   obtain rfl:x101=(.slice A9 n c9):=j101
   obtain⟨x104,s104,j104⟩:=hpre 16 (by kernel_rfl) 104 rfl
   replace j104:Mn.p (Mn.ls N n G) x104 wi:=j104
   clear hold hpre
   rw [if_pos (by simp [Region.wanted,yielded,s100])]
   obtain⟨Q9,l9,rfl,-⟩:=LsV.form j104
   go_simp
   refine (r2_sameList (h9.ext eI) j104 (fun i hi=>(HGH.out i hi).sz (by omega)) (fun _ _=>rfl)).mono ?_
   rintro e wj ⟨rfl,ej⟩
   go_wp2_with fail
   exact hK.out _ _ ej rfl
  ·clear hl
   refine stp rfl ?_
   intro ac wi eI hold hpre K hK
   obtain⟨x100,s100,j100⟩:=hpre 12 (by kernel_rfl) 100 rfl
   obtain rfl:x100=(.bool true):=j100
   obtain⟨x105,s105,j105⟩:=hpre 17 (by kernel_rfl) 105 rfl
   obtain rfl:x105=(.bool true):=j105
   clear hold hpre
   go_simp
   exact hK.out _ _ (Ext.refl _) rfl
  ·clear hl
   refine stp rfl ?_
   intro ac wi eI hold hpre K hK
   obtain⟨x106,s106,j106⟩:=hpre 18 (by kernel_rfl) 106 rfl
   obtain rfl:x106=(.bool true):=j106
   clear hold hpre
   go_simp
   exact hK.out _ _ (Ext.refl _) rfl
 intro vals wz eZ hJ
 have J88:Mn.p (Mn.eq (.slice A5 m c5)) (vals 0) wz:=hJ 0 (by decide) (by decide)
 have J89:Mn.p (Mn.eq (.agg #[.slice (some ⟨bb,off,none⟩) m c1,.slice A2 m c2,.slice A3 m c3])) (vals 1) wz:=hJ 1 (by decide) (by decide)
 have J90:Mn.p (Mn.eq (.slice A4 n c4)) (vals 2) wz:=hJ 2 (by decide) (by decide)
 have J91:Mn.p (Mn.ls N m RS) (vals 3) wz:=hJ 3 (by decide) (by decide)
 have J92:Mn.p (Mn.eq (.bool true)) (vals 4) wz:=hJ 4 (by decide) (by decide)
 have J93:Mn.p (Mn.eq (.bool true)) (vals 5) wz:=hJ 5 (by decide) (by decide)
 have J94:Mn.p (Mn.rat N T) (vals 6) wz:=hJ 6 (by decide) (by decide)
 have J95:Mn.p (Mn.eq (.agg #[.slice (some ⟨bb,off,none⟩) m c1,.slice A2 m c2,.slice A3 m c3])) (vals 7) wz:=hJ 7 (by decide) (by decide)
 have J96:Mn.p (Mn.eq (.slice A4 n c4)) (vals 8) wz:=hJ 8 (by decide) (by decide)
 have J97:Mn.p (Mn.rat N T) (vals 9) wz:=hJ 9 (by decide) (by decide)
 have J98:Mn.p (Mn.eq (.bool true)) (vals 10) wz:=hJ 10 (by decide) (by decide)
 have J99:Mn.p (Mn.eq (.bool true)) (vals 11) wz:=hJ 11 (by decide) (by decide)
 have J100:Mn.p (Mn.eq (.bool true)) (vals 12) wz:=hJ 12 (by decide) (by decide)
 have J101:Mn.p (Mn.eq (.slice A9 n c9)) (vals 13) wz:=hJ 13 (by decide) (by decide)
 have J102:Mn.p (Mn.eq (.agg #[.slice (some ⟨bb,off,none⟩) m c1,.slice A2 m c2,.slice A3 m c3])) (vals 14) wz:=hJ 14 (by decide) (by decide)
 have J103:Mn.p (Mn.eq (.slice A4 n c4)) (vals 15) wz:=hJ 15 (by decide) (by decide)
 have J104:Mn.p (Mn.ls N n G) (vals 16) wz:=hJ 16 (by decide) (by decide)
 have J105:Mn.p (Mn.eq (.bool true)) (vals 17) wz:=hJ 17 (by decide) (by decide)
 have J106:Mn.p (Mn.eq (.bool true)) (vals 18) wz:=hJ 18 (by decide) (by decide)
 have J4:Mn.p (Mn.eq (.bool true)) (vals 19) wz:=hJ 19 (by decide) (by decide)
 clear hJ
 simp only [putAll,if_true,Bool.false_eq_true,if_false,Act.put,Nat.zero_add,Nat.reduceAdd,List.setIfInBounds_toArray,List.set_cons_zero,List.set_cons_succ]
 generalize vals 0=z88 at J88 ⊢
 obtain rfl:z88=(.slice A5 m c5):=J88
 generalize vals 1=z89 at J89 ⊢
 obtain rfl:z89=(.agg #[.slice (some ⟨bb,off,none⟩) m c1,.slice A2 m c2,.slice A3 m c3]):=J89
 generalize vals 2=z90 at J90 ⊢
 obtain rfl:z90=(.slice A4 n c4):=J90
 generalize vals 3=z91 at J91 ⊢
 generalize vals 4=z92 at J92 ⊢
 obtain rfl:z92=(.bool true):=J92
 generalize vals 5=z93 at J93 ⊢
 obtain rfl:z93=(.bool true):=J93
 generalize vals 6=z94 at J94 ⊢
 generalize vals 7=z95 at J95 ⊢
 obtain rfl:z95=(.agg #[.slice (some ⟨bb,off,none⟩) m c1,.slice A2 m c2,.slice A3 m c3]):=J95
 generalize vals 8=z96 at J96 ⊢
 obtain rfl:z96=(.slice A4 n c4):=J96
 generalize vals 9=z97 at J97 ⊢
 generalize vals 10=z98 at J98 ⊢
 obtain rfl:z98=(.bool true):=J98
 generalize vals 11=z99 at J99 ⊢
 obtain rfl:z99=(.bool true):=J99
 generalize vals 12=z100 at J100 ⊢
 obtain rfl:z100=(.bool true):=J100
 generalize vals 13=z101 at J101 ⊢
 obtain rfl:z101=(.slice A9 n c9):=J101
 generalize vals 14=z102 at J102 ⊢
 obtain rfl:z102=(.agg #[.slice (some ⟨bb,off,none⟩) m c1,.slice A2 m c2,.slice A3 m c3]):=J102
 generalize vals 15=z103 at J103 ⊢
 obtain rfl:z103=(.slice A4 n c4):=J103
 generalize vals 16=z104 at J104 ⊢
 generalize vals 17=z105 at J105 ⊢
 obtain rfl:z105=(.bool true):=J105
 generalize vals 18=z106 at J106 ⊢
 obtain rfl:z106=(.bool true):=J106
 generalize vals 19=z4 at J4 ⊢
 obtain rfl:z4=(.bool true):=J4
 refine stepL_done (by kernel_rfl) ?_ _
 go_wp2
 go_ret
 exact⟨rfl,hE.trans eZ⟩
end Go.Proofs.YtccepmpebioeiaaGreat
namespace Go.Proofs.YtccepmpebioeiaaGreat
open Go.RowKit Go.ChangeShapes Go.ChangeAt
theorem cells_lin:Tryz.prog.cellsOf 26=3:=by kernel_rfl
section
variable {H:Type} {enc:TypeId×Value→H} {w:World} {spare:Nat→Bool} {held:Bool}
instance:Inhabited Raw:=⟨⟨false,[],false,[]⟩⟩
end
end Go.Proofs.YtccepmpebioeiaaGreat
