import Derived.Test.YtccepmpebioeiaaGreatWb01
import Derived.Test.YtccepmpebioeiaaGreatWb02
import Derived.Test.YtccepmpebioeiaaGreatWb03
import Derived.Test.YtccepmpebioeiaaGreatWb04
import Derived.Test.YtccepmpebioeiaaGreatWb05
import Derived.Test.YtccepmpebioeiaaGreatWb06
import Derived.Test.YtccepmpebioeiaaGreatWb07
import Derived.Test.YtccepmpebioeiaaGreatWb08
import Derived.Test.YtccepmpebioeiaaGreatWb09
import Derived.Test.YtccepmpebioeiaaGreatWb10
import Derived.Test.YtccepmpebioeiaaGreatWb11
import Derived.Test.YtccepmpebioeiaaGreatWb12
import Derived.Test.YtccepmpebioeiaaGreatWb13
import Derived.Test.YtccepmpebioeiaaGreatWb14
import Derived.Test.YtccepmpebioeiaaGreatWb15
import Derived.Test.YtccepmpebioeiaaGreatWb16
import Derived.Test.YtccepmpebioeiaaGreatWb17
import Derived.Test.YtccepmpebioeiaaGreatWb18
import Derived.Test.YtccepmpebioeiaaGreatWb19
import Derived.Test.YtccepmpebioeiaaGreatWb20
import Derived.Test.YtccepmpebioeiaaGreatWb21
import Derived.Test.YtccepmpebioeiaaGreatWb22
import Derived.Test.YtccepmpebioeiaaGreatWb23
import Derived.Test.YtccepmpebioeiaaGreatWb24
import Derived.Test.YtccepmpebioeiaaGreatWb25
import Derived.Test.YtccepmpebioeiaaGreatWb26
import Derived.Test.YtccepmpebioeiaaGreatWb27
import Derived.Test.YtccepmpebioeiaaGreatWb28
import Derived.Test.YtccepmpebioeiaaGreatWb29
import Derived.Test.YtccepmpebioeiaaGreatWb30
import Derived.Test.YtccepmpebioeiaaGreatWb31
import Derived.Test.YtccepmpebioeiaaGreatWb32
import Derived.Test.YtccepmpebioeiaaGreatWb33
import Derived.Test.YtccepmpebioeiaaGreatWb34
import Derived.Test.YtccepmpebioeiaaGreatWb35
import Derived.Test.YtccepmpebioeiaaGreatWb36
import Derived.Test.YtccepmpebioeiaaGreatWb37
import Derived.Test.YtccepmpebioeiaaGreatWb38
import Derived.Test.YtccepmpebioeiaaGreatWb39
import Derived.Test.YtccepmpebioeiaaGreatWb40
import Derived.Test.YtccepmpebioeiaaGreatWb41
import Derived.Test.YtccepmpebioeiaaGreatWb42
import Derived.Test.YtccepmpebioeiaaGreatWb43
import Derived.Test.YtccepmpebioeiaaGreatWb44
import Derived.Deep.AppendLies
import Derived.WalkKit
import Derived.WalkSpells
import Derived.WalkLawsBesides
import Derived.Lib.Hide
import Derived.Deep.RegionHeld3
import Derived.Deep.QuietTactic
import Derived.BigQuiet
import Derived.Maps.AppendAt
import Derived.Deep.DeepCutAuto
import Derived.Deep.RegionWith
import Derived.Deep.DeepMust
import Derived.Deep.CutBlock
import Derived.OrdersIn
import Derived.RegionTactic
import Derived.RangeFuncNested
import Derived.RangeFuncBound
import Derived.RangeFuncCalls
import Derived.RangeFuncLeaves
import Derived.RangeFuncBox
import Derived.Shelf.Abstract
import Derived.OwnWalkIn
import Derived.TacticsInMore
import Derived.LoopNIn
import Derived.LoopIn
import Derived.Deep.RegionLaw
import Derived.Lib.SliceRun
import Derived.Laws.IdiomCopy
import Derived.Shelf.Bits.Mul64
import Derived.Deep.Slices
import Derived.Deep.Strs
import Derived.Lib.SmallJoins
import Derived.ProofKit
import Derived.OpenShut
import Derived.Below
set_option linter.all false
set_option maxHeartbeats 8000000
namespace Go.Proofs.YtccepmpebioeiaaGreat
open Go.RowKit
structure FewLin (Z:Lin) (n:Nat) (X:Nat→Nat→Rat) (y p:Nat→Rat):Prop where
 m0:0 < Z.m
 m6:Z.m≤6
 n0:0 < n
 n4:n≤4
 L:∀ i,i < Z.m→Z.L i=n
 eA:∀ i,i < Z.m→∀ j,j < n→Z.A i j=raw (X i j)
 nl:Z.nl=Z.m
 el:∀ i,i < Z.m→Z.l i=raw (y i)
 np:Z.np=Z.m
 ep:∀ i,i < Z.m→Z.p i=raw (p i)
 pos:∀ i,i < Z.m→0 < p i
 hX:HtM Z.m n 17 X
 hy:HtL Z.m 17 y
 hp:HtL Z.m 17 p
theorem FewLin.mem {Z:Lin} {n:Nat} {X:Nat→Nat→Rat} {y p:Nat→Rat} (f:FewLin Z n X y p) {N lo hi:Nat} {w:World} {A1 A2 A3:Option Addr} {c1 c2 c3:Nat} (h1:MtR N lo hi w (.slice A1 Z.m c1) Z.m Z.L Z.A) (h2:LsR N lo hi w (.slice A2 Z.nl c2) Z.nl Z.l) (h3:LsR N lo hi w (.slice A3 Z.np c3) Z.np Z.p) :
  MtV N lo hi w (.slice A1 Z.m c1) Z.m n X∧LsV N lo hi w (.slice A2 Z.m c2) Z.m y∧LsV N lo hi w (.slice A3 Z.m c3) Z.m p:=by
 refine⟨MtR.congr h1 f.L (fun i hi j hj=>f.eA i hi j (by rw [←f.L i hi]; exact hj)),?_,?_⟩
 ·rw [f.nl] at h2; exact LsR.congr h2 f.el
 ·rw [f.np] at h3; exact LsR.congr h3 f.ep
theorem FewG.mem {r c:Nat} {Z:Lin} {n:Nat} {X:Nat→Nat→Rat} {y p:Nat→Rat} (f:FewG r c Z n X y p) {N lo hi:Nat} {w:World} {A1 A2 A3:Option Addr} {c1 c2 c3:Nat} (h1:MtR N lo hi w (.slice A1 Z.m c1) Z.m Z.L Z.A) (h2:LsR N lo hi w (.slice A2 Z.nl c2) Z.nl Z.l) (h3:LsR N lo hi w (.slice A3 Z.np c3) Z.np Z.p) :
  MtV N lo hi w (.slice A1 Z.m c1) Z.m n X∧LsV N lo hi w (.slice A2 Z.m c2) Z.m y∧LsV N lo hi w (.slice A3 Z.m c3) Z.m p:=by
 refine⟨MtR.congr h1 f.L (fun i hi j hj=>f.eA i hi j (by rw [←f.L i hi]; exact hj)),?_,?_⟩
 ·rw [f.nl] at h2; exact LsR.congr h2 f.el
 ·rw [f.np] at h3; exact LsR.congr h3 f.ep
set_option maxRecDepth 100000 in
theorem least_out {N lo hi lo' hi':Nat} {w:World} {v u:Value} {Z:Lin} {n:Nat} {R:Nat→Raw} (h:LinV N lo hi w v Z) (hx:LsR N lo' hi' w u n R) (hs:few34 8 5 Z=false∨(few34 8 5 Z=true∧shB 8 n R=false)) :
  Calls Tryz.prog 3 #[v,u] w (RetV w (.bool true)):=by
 have hI:=h
 obtain⟨A1,c1,A2,c2,A3,c3,rfl,-⟩:=h.parts
 obtain⟨A4,c4,rfl,-⟩:=hx.form
 have hX:=hx
 rcases hs with hs | ⟨hs,hs'⟩
 ·have HS:=Lib.hid hs
  clear h hx hs
  go_enter Tryz.func3,Tryz.ntmps3
  go_wp2_with (go_at_call 10; refine Hid.out ?_)
  refine boxesC1 ?_
  intro W hE hsz B0
  refine (l34_known W).mono ?_
  rintro e w1 ⟨rfl,e1⟩
  replace hE:=hE.trans e1
  replace B0:=e1.block B0
  have hs1:=e1.size
  replace hsz:w.heap.size < w1.heap.size:=by omega
  clear e1 hs1
  obtain⟨a0,a1,a2,-⟩:=cells3 B0
  go_wp2_with (go_at_call 11; refine Hid.out ?_)
  refine (l34_few (hI.ext hE) 8 5 rfl rfl (by omega) (by omega)).mono ?_
  rintro e w2 ⟨rfl,e2⟩
  rw [HS.out]
  replace hE:=hE.trans e2
  replace B0:=e2.block B0
  replace hsz:=blk_lt B0
  clear a0 a1 a2
  obtain⟨a0,a1,a2,-⟩:=cells3 B0
  clear e2
  go_wp2
  go_ret
  exact⟨rfl,hE⟩
 ·have HS:=Lib.hid hs
  have HS':=Lib.hid hs'
  clear h hx hs hs'
  go_enter Tryz.func3,Tryz.ntmps3
  go_wp2_with (go_at_call 10; refine Hid.out ?_)
  refine boxesC1 ?_
  intro W hE hsz B0
  refine (l34_known W).mono ?_
  rintro e w1 ⟨rfl,e1⟩
  replace hE:=hE.trans e1
  replace B0:=e1.block B0
  have hs1:=e1.size
  replace hsz:w.heap.size < w1.heap.size:=by omega
  clear e1 hs1
  obtain⟨a0,a1,a2,-⟩:=cells3 B0
  go_wp2_with (go_at_call 11; refine Hid.out ?_)
  refine (l34_few (hI.ext hE) 8 5 rfl rfl (by omega) (by omega)).mono ?_
  rintro e w2 ⟨rfl,e2⟩
  rw [HS.out]
  replace hE:=hE.trans e2
  replace B0:=e2.block B0
  replace hsz:=blk_lt B0
  clear a0 a1 a2
  obtain⟨a0,a1,a2,-⟩:=cells3 B0
  clear e2
  go_wp2_with (go_at_call 12; refine Hid.out ?_)
  refine (r2_short (hX.ext hE) 8 rfl (by omega)).mono ?_
  rintro e w3 ⟨rfl,e3⟩
  rw [HS'.out]
  replace hE:=hE.trans e3
  replace B0:=e3.block B0
  replace hsz:=blk_lt B0
  clear a0 a1 a2
  obtain⟨a0,a1,a2,-⟩:=cells3 B0
  clear e3
  go_wp2
  go_ret
  exact⟨rfl,hE⟩
set_option maxRecDepth 100000 in
theorem least_bad {N lo hi lo' hi':Nat} {w:World} {v u:Value} {Z:Lin} {n:Nat} {R:Nat→Raw} (h:LinV N lo hi w v Z) (hx:LsR N lo' hi' w u n R) (hs:few34 8 5 Z=true) (hs':shB 8 n R=true) (hc:codeOf Z≠0) :
  Calls Tryz.prog 3 #[v,u] w (RetV w (.bool true)):=by
 have hI:=h
 obtain⟨A1,c1,A2,c2,A3,c3,rfl,-⟩:=h.parts
 obtain⟨A4,c4,rfl,-⟩:=hx.form
 have hX:=hx
 obtain⟨f1,f2,f3⟩:=few34_sz hs
 have HS:=Lib.hid hs
 have HS':=Lib.hid hs'
 have HC:=Lib.hid hc
 have HF2:=Lib.hid f2
 have HF3:=Lib.hid f3
 obtain⟨r,hr⟩:=hid_eq (codeOf Z)
 have hr0:(r == 0)=false:=by rw [hr.out]; simpa using hc
 have hr1:(r != 0)=true:=by simpa using hr0
 have hr2:(r == r)=true:=by simp
 clear h hx hs hs' hc f1 f2 f3
 go_enter Tryz.func3,Tryz.ntmps3
 go_wp2_with (go_at_call 10; refine Hid.out ?_)
 refine boxesC1 ?_
 intro W hE hsz B0
 refine (l34_known W).mono ?_
 rintro e w1 ⟨rfl,e1⟩
 replace hE:=hE.trans e1
 replace B0:=e1.block B0
 have hs1:=e1.size
 replace hsz:w.heap.size < w1.heap.size:=by omega
 clear e1 hs1
 obtain⟨a0,a1,a2,-⟩:=cells3 B0
 go_wp2_with (go_at_call 11; refine Hid.out ?_)
 refine (l34_few (hI.ext hE) 8 5 rfl rfl (by omega) (by omega)).mono ?_
 rintro e w2 ⟨rfl,e2⟩
 rw [HS.out]
 replace hE:=hE.trans e2
 replace B0:=e2.block B0
 replace hsz:=blk_lt B0
 clear a0 a1 a2
 obtain⟨a0,a1,a2,-⟩:=cells3 B0
 clear e2
 go_wp2_with (go_at_call 12; refine Hid.out ?_)
 refine (r2_short (hX.ext hE) 8 rfl (by omega)).mono ?_
 rintro e w3 ⟨rfl,e3⟩
 rw [HS'.out]
 replace hE:=hE.trans e3
 replace B0:=e3.block B0
 replace hsz:=blk_lt B0
 clear a0 a1 a2
 obtain⟨a0,a1,a2,-⟩:=cells3 B0
 clear e3
 go_wp2_with (go_at_call 13; refine Hid.out ?_)
 refine (n_solve_bad (hI.ext hE) HF2.out HF3.out HC.out).mono ?_
 rintro e w4 ⟨rfl,e4⟩
 rw [←hr.out]
 replace hE:=hE.trans e4
 replace B0:=e4.block B0
 replace hsz:=blk_lt B0
 clear a0 a1 a2
 obtain⟨a0,a1,a2,-⟩:=cells3 B0
 go_wp2_with (go_at_call 14; refine Hid.out ?_)
 refine (l34_checked (hI.ext hE) HF2.out HF3.out).mono ?_
 rintro e w5 ⟨rfl,e5⟩
 rw [←hr.out]
 replace hE:=hE.trans e5
 replace B0:=e5.block B0
 replace hsz:=blk_lt B0
 clear a0 a1 a2
 obtain⟨a0,a1,a2,-⟩:=cells3 B0
 go_wp2
 go_ret
 exact⟨rfl,hE⟩
set_option maxRecDepth 100000 in
theorem least_good {N lo hi lo' hi':Nat} {w:World} {A1 A2 A3 A4:Option Addr} {c1 c2 c3 c4 m n nx:Nat} {X:Nat→Nat→Rat} {y p:Nat→Rat} {R:Nat→Raw} {Z:Lin}
  (hI:LinV N lo hi w (.agg #[.slice A1 m c1,.slice A2 m c2,.slice A3 m c3]) Z) (hX:LsR N lo' hi' w (.slice A4 nx c4) nx R) (hs:few34 8 5 Z=true) (hs':shB 8 nx R=true) (hc:codeOf Z=0)
  (h1:MtV N lo hi w (.slice A1 m c1) m n X) (h2:LsV N lo hi w (.slice A2 m c2) m y) (h3:LsV N lo hi w (.slice A3 m c3) m p) (hm0:0 < m) (hm:m≤8) (hn0:0 < n) (hn:n≤5) (hpos:∀ i,i < m→0 < p i)
  (hkx:HtM m n 17 X) (hky:HtL m 17 y) (hkp:HtL m 17 p) :
  Calls Tryz.prog 3 #[.agg #[.slice A1 m c1,.slice A2 m c2,.slice A3 m c3],.slice A4 nx c4] w (RetV w (.bool true)):=by
 obtain⟨f1,f2,f3⟩:=few34_sz hs
 have HS:=Lib.hid hs
 have HS':=Lib.hid hs'
 have HC:=Lib.hid hc
 have HF2:=Lib.hid f2
 have HF3:=Lib.hid f3
 have HX:=Lib.hid hkx
 have HY:=Lib.hid hky
 have HP:=Lib.hid hkp
 have HPOS:=Lib.hid hpos
 have hN:=h1.le
 have h55:(5:Nat) ^ 5=3125:=by decide
 have hkM:HtM n n 469 (nmat X p m):=(nmat_ht hkx hkp (Nat.le_refl _) (Nat.le_refl _)).mono (by omega)
 have hkR:HtL n 469 (nrhs X y p m):=(nrhs_ht hkx hky hkp (Nat.le_refl _) (Nat.le_refl _)).mono (by omega)
 have HKM:=Lib.hid hkM
 obtain⟨M,hM⟩:=hid_eq (nmat X p m)
 obtain⟨SOL,hSOL⟩:=hid_eq (nsv n (nmat X p m) (nrhs X y p m))
 have HSH:Hid (HtL n 7400000 SOL):=by
  rw [Hid,hSOL.out]
  exact (nsv_ht hkM hkR hn).mono (by rw [h55]; omega)
 obtain⟨rk,hrk⟩:=hid_eq (rref n (nmat X p m) n).2.length
 have hrkn:rk≤n:=by rw [hrk.out]; exact (rref_len n (nmat X p m) n).1
 have hkv:n*(17+7400000+1)+1+17+1≤37000109:=by omega
 obtain⟨kv,hkv0⟩:∃ kv,kv=n*(17+7400000+1)+1+17+1:=⟨_,rfl⟩
 have HKV:=Lib.hid hkv0
 have hkv2:kv≤37000109:=by omega
 have HVV:Hid (HtL m kv (fun i=>av n X SOL i - y i)):=fun i hi=>by
  refine Ht.mono (Ht.sub (sum_ht (n:=n) (k:=17+7400000) (K:=n*(17+7400000+1)+1) (fun c hc=>(hkx i hi c hc).mul (HSH.out c hc)) (Nat.le_refl _) (Nat.le_refl _)) (hky i hi)) (by omega)
 obtain⟨T,hT⟩:=hid_eq (obj m p (fun i=>av n X SOL i - y i))
 have h8:m*(17+(kv+kv)+1)≤8*(17+(37000109+37000109)+1):=mul_le8 hm (by omega)
 have h9:m*(2+(17+(17+kv))+1)≤8*(2+(17+(17+37000109))+1):=mul_le8 hm (by omega)
 have HK8:Hid (m*(17+(kv+kv)+1)+1≤29000000000):=by rw [Hid]; omega
 have HK9:Hid (m*(2+(17+(17+kv))+1)+1≤29000000000):=by rw [Hid]; omega
 have HTH:Hid (Ht 600000000 T):=by
  rw [Hid,hT.out]
  refine Ht.mono (sum_ht (n:=m) (k:=17+(kv+kv)) (K:=m*(17+(kv+kv)+1)+1) (fun i hi=>(hkp i hi).mul ((HVV.out i hi).mul (HVV.out i hi))) (Nat.le_refl _) (Nat.le_refl _)) ?_
  omega
 have HK7:Hid (m*(3*17+1)+3*17+2≤29000000000):=by rw [Hid]; omega
 have HK6:Hid (5*(5 ^ 5*(m*(3*17+1)+1))≤29000000000):=by rw [Hid,h55]; omega
 clear hs hs' hc f2 f3 hkx hky hkp hpos hkM hkR hkv0 hkv h8 h9
 go_enter Tryz.func3,Tryz.ntmps3
 go_wp2_with (go_at_call 10; refine Hid.out ?_)
 refine boxesC1 ?_
 intro W hE hsz B0
 refine (l34_known W).mono ?_
 rintro e w1 ⟨rfl,e1⟩
 replace hE:=hE.trans e1
 replace B0:=e1.block B0
 have hs1:=e1.size
 replace hsz:w.heap.size < w1.heap.size:=by omega
 clear e1 hs1
 obtain⟨a0,a1,a2,-⟩:=cells3 B0
 go_wp2_with (go_at_call 11; refine Hid.out ?_)
 refine (l34_few (hI.ext hE) 8 5 rfl rfl (by omega) (by omega)).mono ?_
 rintro e w2 ⟨rfl,e2⟩
 rw [HS.out]
 replace hE:=hE.trans e2
 replace B0:=e2.block B0
 replace hsz:=blk_lt B0
 clear a0 a1 a2
 obtain⟨a0,a1,a2,-⟩:=cells3 B0
 clear e2
 go_wp2_with (go_at_call 12; refine Hid.out ?_)
 refine (r2_short (hX.ext hE) 8 rfl (by omega)).mono ?_
 rintro e w3 ⟨rfl,e3⟩
 rw [HS'.out]
 replace hE:=hE.trans e3
 replace B0:=e3.block B0
 replace hsz:=blk_lt B0
 clear a0 a1 a2
 obtain⟨a0,a1,a2,-⟩:=cells3 B0
 clear e3
 go_wp2_with (go_at_call 13; refine Hid.out ?_)
 refine (n_solve (P:=5) (h1.ext hE) (h2.ext hE) (h3.ext hE) hm0 (by omega) hn0 (by omega) HPOS.out HX.out HY.out HP.out HK7.out hn HK6.out).mono ?_
 rintro e w4 ⟨e4,hh⟩
 rw [←hrk.out,←hSOL.out] at hh
 by_cases hfull:rk < n
 ·rcases hh with ⟨-,rfl⟩ | ⟨h0,-⟩
  case inr=>exact absurd hfull h0
  replace hE:=hE.trans e4
  replace B0:=e4.block B0
  replace hsz:=blk_lt B0
  clear a0 a1 a2
  obtain⟨a0,a1,a2,-⟩:=cells3 B0
  go_wp2_with (go_at_call 14; refine Hid.out ?_)
  refine (l34_checked (hI.ext hE) HF2.out HF3.out).mono ?_
  rintro e w5 ⟨rfl,e5⟩
  rw [HC.out]
  replace hE:=hE.trans e5
  replace B0:=e5.block B0
  replace hsz:=blk_lt B0
  clear a0 a1 a2
  obtain⟨a0,a1,a2,-⟩:=cells3 B0
  go_wp2_with (go_at_call 15; refine Hid.out ?_)
  refine (l34_normal (h1.ext hE) (h2.ext hE) (h3.ext hE) hm0 (by omega) hn0 (by omega) HX.out HY.out HP.out HK7.out).mono ?_
  rintro e w6 ⟨A6,c6,A7,c7,rfl,h6,h7,e6⟩
  replace hE:=hE.trans e6
  replace B0:=e6.block B0
  replace hsz:=blk_lt B0
  clear a0 a1 a2
  obtain⟨a0,a1,a2,-⟩:=cells3 B0
  go_wp2_with (go_at_call 16; refine Hid.out ?_)
  refine (r5_rank (P:=5) h6 hn0 (by omega) hn0 (by omega) HKM.out (.inl hn) (by decide)).mono ?_
  rintro e w7 ⟨rfl,e7⟩
  rw [←hrk.out]
  go_wp2
  go_ret
  exact⟨rfl,hE.trans e7⟩
 rcases hh with ⟨h0,-⟩ | ⟨-,A5,c5,rfl,h5⟩
 ·exact absurd h0 hfull
 obtain rfl:n=rk:=by omega
 have HREG:Hid (Reg n (nmat X p m)):=(rank_iff _ _).1 hrk.out.symm
 have HEQ:Hid (∀ z,T≤obj m p (fun i=>av n X z i - y i)):=by
  rw [Hid,hT.out,hSOL.out]
  exact nsv_least HPOS.out HREG.out
 have HGR:Hid (∀ j,j < n→grd m X p (fun a=>av n X SOL a - y a) j=0):=by
  rw [Hid,hSOL.out]
  exact nsv_grd HREG.out
 have h5':=LsV.all h5
 clear h5
 replace hE:=hE.trans e4
 replace B0:=e4.block B0
 replace hsz:=blk_lt B0
 clear a0 a1 a2
 obtain⟨a0,a1,a2,-⟩:=cells3 B0
 go_wp2_with (go_at_call 14; refine Hid.out ?_)
 refine (l34_checked (hI.ext hE) HF2.out HF3.out).mono ?_
 rintro e w5 ⟨rfl,e5⟩
 rw [HC.out]
 replace h5':=LsV.all (h5'.ext e5)
 replace hE:=hE.trans e5
 replace B0:=e5.block B0
 replace hsz:=blk_lt B0
 clear a0 a1 a2
 obtain⟨a0,a1,a2,-⟩:=cells3 B0
 go_wp2_with (go_at_call 15; refine Hid.out ?_)
 refine (l34_normal (h1.ext hE) (h2.ext hE) (h3.ext hE) hm0 (by omega) hn0 (by omega) HX.out HY.out HP.out HK7.out).mono ?_
 rintro e w6 ⟨A6,c6,A7,c7,rfl,h6,h7,e6⟩
 replace h5':=LsV.all (h5'.ext e6)
 replace hE:=hE.trans e6
 replace B0:=e6.block B0
 replace hsz:=blk_lt B0
 clear a0 a1 a2
 obtain⟨a0,a1,a2,-⟩:=cells3 B0
 go_wp2_with (go_at_call 16; refine Hid.out ?_)
 refine (r5_rank (P:=5) h6 hn0 (by omega) hn0 (by omega) HKM.out (.inl hn) (by decide)).mono ?_
 rintro e w7 ⟨rfl,e7⟩
 rw [←hrk.out]
 replace h5':=LsV.all (h5'.ext e7)
 replace hE:=hE.trans e7
 replace B0:=e7.block B0
 replace hsz:=blk_lt B0
 clear a0 a1 a2
 obtain⟨a0,a1,a2,-⟩:=cells3 B0
 clear e4 e5 e6 e7 h6 h7
 go_wp2_with (go_at_call 17; refine Hid.out ?_)
 refine (r2_validList h5' (fun i hi=>((HSH.out i hi).sz (by omega)).raw)).mono ?_
 rw [allB_true.2 (fun i _=>okR_raw _)]
 rintro e w8 ⟨rfl,e8⟩
 replace h5':=LsV.all (h5'.ext e8)
 replace hE:=hE.trans e8
 replace B0:=e8.block B0
 replace hsz:=blk_lt B0
 clear a0 a1 a2
 obtain⟨a0,a1,a2,-⟩:=cells3 B0
 go_wp2_with (go_at_call 19; refine Hid.out ?_)
 refine (l34_gradient (h1.ext hE) (h2.ext hE) (h3.ext hE) h5' hm0 (by omega) hn0 (by omega) HX.out HY.out HP.out HSH.out HKV.out HK9.out).mono ?_
 rintro e w9 ⟨A9,c9,rfl,h9,e9⟩
 replace h5':=LsV.all (h5'.ext e9)
 replace hE:=hE.trans e9
 replace B0:=e9.block B0
 replace hsz:=blk_lt B0
 clear a0 a1 a2
 obtain⟨a0,a1,a2,-⟩:=cells3 B0
 go_wp2_with (go_at_call 18; refine Hid.out ?_)
 refine (r5_nonzero h9 HGR.out).mono ?_
 rintro e w10 ⟨rfl,e10⟩
 replace h5':=LsV.all (h5'.ext e10)
 replace hE:=hE.trans e10
 replace B0:=e10.block B0
 replace hsz:=blk_lt B0
 clear a0 a1 a2
 obtain⟨a0,a1,a2,-⟩:=cells3 B0
 clear e8 e9 e10 h9
 go_upto_region 14 with (fail)
 have hXE:=hX.ext hE
 obtain⟨f8,fall⟩:=shB_all HS'.out
 have HBR:=Lib.hid fall
 clear fall
 obtain⟨s,hsv⟩:=hid_eq (allB nx (fun i=>okR (R i)))
 by_cases hnx:nx=n
 case neg =>
  have t1:((nx:Int) != (n:Int))=true:=by rw [bne_iff_ne]; omega
  refine region_inv [Mn.eq (.slice A4 nx c4),Mn.eq (.int .i64 (nx:Int)),Mn.eq (.slice A5 n c5),Mn.eq (.int .i64 (n:Int)),Mn.eq (.bool true),Mn.eq (.bool true),Mn.any,Mn.any,Mn.any,Mn.eq (.bool true),Mn.eq (.bool true),Mn.any,Mn.any,Mn.any,Mn.any,Mn.any,Mn.any,Mn.any,Mn.any,Mn.eq (.bool true),Mn.eq (.bool true)] [some 74,some 75,some 76,some 77,some 78,some 79,some 80,some 81,some 82,some 83,some 84,some 85,some 86,some 87,some 88,some 89,some 90,some 91,some 92,some 93,some 4] [] [true,true,true,true,true,true,true,true,true,true,true,true,true,true,true,true,true,true,true,true,true] 0 (by kernel_rfl) (by kernel_rfl) (by kernel_rfl) (by kernel_rfl) (by kernel_rfl) (by kernel_rfl) (by kernel_rfl) (by kernel_rfl) ?_ ?_
  ·intro i hi hl
   have hi':i=0∨i=1∨i=2∨i=3∨i=4∨i=5∨i=6∨i=7∨i=8∨i=9∨i=10∨i=11∨i=12∨i=13∨i=14∨i=15∨i=16∨i=17∨i=18∨i=19∨i=20:=by have h9:i < 21:=hi; omega
   clear hi
   rcases hi' with rfl | rfl | rfl | rfl | rfl | rfl | rfl | rfl | rfl | rfl | rfl | rfl | rfl | rfl | rfl | rfl | rfl | rfl | rfl | rfl | rfl
   ·clear hl
    refine stp rfl ?_
    intro ac wi eI hold hpre K hK
    have o1:=hold 1 (by kernel_rfl)
    simp only [List.getElem?_toArray,List.getElem?_cons_succ,List.getElem?_cons_zero] at o1
    clear hold hpre
    go_simp
    exact hK.out _ _ (Ext.refl _) rfl
   ·clear hl
    refine stp rfl ?_
    intro ac wi eI hold hpre K hK
    obtain⟨x74,s74,j74⟩:=hpre 0 (by kernel_rfl) 74 rfl
    obtain rfl:x74=(.slice A4 nx c4):=j74
    clear hold hpre
    go_simp
    exact hK.out _ _ (Ext.refl _) rfl
   ·clear hl
    refine stp rfl ?_
    intro ac wi eI hold hpre K hK
    have o5:=hold 5 (by kernel_rfl)
    simp only [List.getElem?_toArray,List.getElem?_cons_succ,List.getElem?_cons_zero] at o5
    clear hold hpre
    go_simp
    exact hK.out _ _ (Ext.refl _) rfl
   ·clear hl
    refine stp rfl ?_
    intro ac wi eI hold hpre K hK
    obtain⟨x76,s76,j76⟩:=hpre 2 (by kernel_rfl) 76 rfl
    obtain rfl:x76=(.slice A5 n c5):=j76
    clear hold hpre
    go_simp
    exact hK.out _ _ (Ext.refl _) rfl
   ·clear hl
    refine stp rfl ?_
    intro ac wi eI hold hpre K hK
    obtain⟨x75,s75,j75⟩:=hpre 1 (by kernel_rfl) 75 rfl
    obtain rfl:x75=(.int .i64 (nx:Int)):=j75
    obtain⟨x77,s77,j77⟩:=hpre 3 (by kernel_rfl) 77 rfl
    obtain rfl:x77=(.int .i64 (n:Int)):=j77
    clear hold hpre
    go_simp
    exact hK.out _ _ (Ext.refl _) rfl
   ·clear hl
    refine stp rfl ?_
    intro ac wi eI hold hpre K hK
    obtain⟨x78,s78,j78⟩:=hpre 4 (by kernel_rfl) 78 rfl
    obtain rfl:x78=(.bool true):=j78
    clear hold hpre
    go_simp
    exact hK.out _ _ (Ext.refl _) rfl
   ·clear hl
    refine stp rfl ?_
    intro ac wi eI hold hpre K hK
    obtain⟨x79,s79,j79⟩:=hpre 5 (by kernel_rfl) 79 rfl
    obtain rfl:x79=(.bool true):=j79
    have o1:=hold 1 (by kernel_rfl)
    simp only [List.getElem?_toArray,List.getElem?_cons_succ,List.getElem?_cons_zero] at o1
    clear hold hpre
    rw [if_neg (by simp [Region.wanted,yielded,s79])]
    exact hK.out _ _ (Ext.refl _) trivial
   ·clear hl
    refine stp rfl ?_
    intro ac wi eI hold hpre K hK
    obtain⟨x79,s79,j79⟩:=hpre 5 (by kernel_rfl) 79 rfl
    obtain rfl:x79=(.bool true):=j79
    obtain⟨x80,s80,j80⟩:=hpre 6 (by kernel_rfl) 80 rfl
    replace j80:Mn.p (Mn.any) x80 wi:=j80
    clear hold hpre
    rw [if_neg (by simp [Region.wanted,yielded,s79])]
    exact hK.out _ _ (Ext.refl _) trivial
   ·clear hl
    refine stp rfl ?_
    intro ac wi eI hold hpre K hK
    obtain⟨x79,s79,j79⟩:=hpre 5 (by kernel_rfl) 79 rfl
    obtain rfl:x79=(.bool true):=j79
    obtain⟨x81,s81,j81⟩:=hpre 7 (by kernel_rfl) 81 rfl
    replace j81:Mn.p (Mn.any) x81 wi:=j81
    clear hold hpre
    rw [if_neg (by simp [Region.wanted,yielded,s79])]
    exact hK.out _ _ (Ext.refl _) trivial
   ·clear hl
    refine stp rfl ?_
    intro ac wi eI hold hpre K hK
    obtain⟨x79,s79,j79⟩:=hpre 5 (by kernel_rfl) 79 rfl
    obtain rfl:x79=(.bool true):=j79
    obtain⟨x82,s82,j82⟩:=hpre 8 (by kernel_rfl) 82 rfl
    replace j82:Mn.p (Mn.any) x82 wi:=j82
    clear hold hpre
    go_simp
    exact hK.out _ _ (Ext.refl _) rfl
   ·clear hl
    refine stp rfl ?_
    intro ac wi eI hold hpre K hK
    obtain⟨x83,s83,j83⟩:=hpre 9 (by kernel_rfl) 83 rfl
    obtain rfl:x83=(.bool true):=j83
    clear hold hpre
    go_simp
    exact hK.out _ _ (Ext.refl _) rfl
   ·clear hl
    refine stp rfl ?_
    intro ac wi eI hold hpre K hK
    obtain⟨x84,s84,j84⟩:=hpre 10 (by kernel_rfl) 84 rfl
    obtain rfl:x84=(.bool true):=j84
    have o2:=hold 2 (by kernel_rfl)
    simp only [List.getElem?_toArray,List.getElem?_cons_succ,List.getElem?_cons_zero] at o2
    clear hold hpre
    rw [if_neg (by simp [Region.wanted,yielded,s84])]
    exact hK.out _ _ (Ext.refl _) trivial
   ·clear hl
    refine stp rfl ?_
    intro ac wi eI hold hpre K hK
    obtain⟨x84,s84,j84⟩:=hpre 10 (by kernel_rfl) 84 rfl
    obtain rfl:x84=(.bool true):=j84
    have o5:=hold 5 (by kernel_rfl)
    simp only [List.getElem?_toArray,List.getElem?_cons_succ,List.getElem?_cons_zero] at o5
    clear hold hpre
    rw [if_neg (by simp [Region.wanted,yielded,s84])]
    exact hK.out _ _ (Ext.refl _) trivial
   ·clear hl
    refine stp rfl ?_
    intro ac wi eI hold hpre K hK
    obtain⟨x84,s84,j84⟩:=hpre 10 (by kernel_rfl) 84 rfl
    obtain rfl:x84=(.bool true):=j84
    obtain⟨x85,s85,j85⟩:=hpre 11 (by kernel_rfl) 85 rfl
    replace j85:Mn.p (Mn.any) x85 wi:=j85
    obtain⟨x86,s86,j86⟩:=hpre 12 (by kernel_rfl) 86 rfl
    replace j86:Mn.p (Mn.any) x86 wi:=j86
    clear hold hpre
    rw [if_neg (by simp [Region.wanted,yielded,s84])]
    exact hK.out _ _ (Ext.refl _) trivial
   ·clear hl
    refine stp rfl ?_
    intro ac wi eI hold hpre K hK
    obtain⟨x84,s84,j84⟩:=hpre 10 (by kernel_rfl) 84 rfl
    obtain rfl:x84=(.bool true):=j84
    have o2:=hold 2 (by kernel_rfl)
    simp only [List.getElem?_toArray,List.getElem?_cons_succ,List.getElem?_cons_zero] at o2
    clear hold hpre
    rw [if_neg (by simp [Region.wanted,yielded,s84])]
    exact hK.out _ _ (Ext.refl _) trivial
   ·clear hl
    refine stp rfl ?_
    intro ac wi eI hold hpre K hK
    obtain⟨x84,s84,j84⟩:=hpre 10 (by kernel_rfl) 84 rfl
    obtain rfl:x84=(.bool true):=j84
    have o1:=hold 1 (by kernel_rfl)
    simp only [List.getElem?_toArray,List.getElem?_cons_succ,List.getElem?_cons_zero] at o1
    clear hold hpre
    rw [if_neg (by simp [Region.wanted,yielded,s84])]
    exact hK.out _ _ (Ext.refl _) trivial
   ·clear hl
    refine stp rfl ?_
    intro ac wi eI hold hpre K hK
    obtain⟨x84,s84,j84⟩:=hpre 10 (by kernel_rfl) 84 rfl
    obtain rfl:x84=(.bool true):=j84
    obtain⟨x88,s88,j88⟩:=hpre 14 (by kernel_rfl) 88 rfl
    replace j88:Mn.p (Mn.any) x88 wi:=j88
    obtain⟨x89,s89,j89⟩:=hpre 15 (by kernel_rfl) 89 rfl
    replace j89:Mn.p (Mn.any) x89 wi:=j89
    clear hold hpre
    rw [if_neg (by simp [Region.wanted,yielded,s84])]
    exact hK.out _ _ (Ext.refl _) trivial
   ·clear hl
    refine stp rfl ?_
    intro ac wi eI hold hpre K hK
    obtain⟨x84,s84,j84⟩:=hpre 10 (by kernel_rfl) 84 rfl
    obtain rfl:x84=(.bool true):=j84
    obtain⟨x87,s87,j87⟩:=hpre 13 (by kernel_rfl) 87 rfl
    replace j87:Mn.p (Mn.any) x87 wi:=j87
    obtain⟨x90,s90,j90⟩:=hpre 16 (by kernel_rfl) 90 rfl
    replace j90:Mn.p (Mn.any) x90 wi:=j90
    clear hold hpre
    rw [if_neg (by simp [Region.wanted,yielded,s84])]
    exact hK.out _ _ (Ext.refl _) trivial
   ·clear hl
    refine stp rfl ?_
    intro ac wi eI hold hpre K hK
    obtain⟨x84,s84,j84⟩:=hpre 10 (by kernel_rfl) 84 rfl
    obtain rfl:x84=(.bool true):=j84
    obtain⟨x91,s91,j91⟩:=hpre 17 (by kernel_rfl) 91 rfl
    replace j91:Mn.p (Mn.any) x91 wi:=j91
    clear hold hpre
    rw [if_neg (by simp [Region.wanted,yielded,s84])]
    exact hK.out _ _ (Ext.refl _) trivial
   ·clear hl
    refine stp rfl ?_
    intro ac wi eI hold hpre K hK
    obtain⟨x84,s84,j84⟩:=hpre 10 (by kernel_rfl) 84 rfl
    obtain rfl:x84=(.bool true):=j84
    obtain⟨x92,s92,j92⟩:=hpre 18 (by kernel_rfl) 92 rfl
    replace j92:Mn.p (Mn.any) x92 wi:=j92
    clear hold hpre
    go_simp
    exact hK.out _ _ (Ext.refl _) rfl
   ·clear hl
    refine stp rfl ?_
    intro ac wi eI hold hpre K hK
    obtain⟨x93,s93,j93⟩:=hpre 19 (by kernel_rfl) 93 rfl
    obtain rfl:x93=(.bool true):=j93
    clear hold hpre
    go_simp
    exact hK.out _ _ (Ext.refl _) rfl
  intro vals wz eZ hJ
  have J74:Mn.p (Mn.eq (.slice A4 nx c4)) (vals 0) wz:=hJ 0 (by decide) (by decide)
  have J75:Mn.p (Mn.eq (.int .i64 (nx:Int))) (vals 1) wz:=hJ 1 (by decide) (by decide)
  have J76:Mn.p (Mn.eq (.slice A5 n c5)) (vals 2) wz:=hJ 2 (by decide) (by decide)
  have J77:Mn.p (Mn.eq (.int .i64 (n:Int))) (vals 3) wz:=hJ 3 (by decide) (by decide)
  have J78:Mn.p (Mn.eq (.bool true)) (vals 4) wz:=hJ 4 (by decide) (by decide)
  have J79:Mn.p (Mn.eq (.bool true)) (vals 5) wz:=hJ 5 (by decide) (by decide)
  have J80:Mn.p (Mn.any) (vals 6) wz:=hJ 6 (by decide) (by decide)
  have J81:Mn.p (Mn.any) (vals 7) wz:=hJ 7 (by decide) (by decide)
  have J82:Mn.p (Mn.any) (vals 8) wz:=hJ 8 (by decide) (by decide)
  have J83:Mn.p (Mn.eq (.bool true)) (vals 9) wz:=hJ 9 (by decide) (by decide)
  have J84:Mn.p (Mn.eq (.bool true)) (vals 10) wz:=hJ 10 (by decide) (by decide)
  have J85:Mn.p (Mn.any) (vals 11) wz:=hJ 11 (by decide) (by decide)
  have J86:Mn.p (Mn.any) (vals 12) wz:=hJ 12 (by decide) (by decide)
  have J87:Mn.p (Mn.any) (vals 13) wz:=hJ 13 (by decide) (by decide)
  have J88:Mn.p (Mn.any) (vals 14) wz:=hJ 14 (by decide) (by decide)
  have J89:Mn.p (Mn.any) (vals 15) wz:=hJ 15 (by decide) (by decide)
  have J90:Mn.p (Mn.any) (vals 16) wz:=hJ 16 (by decide) (by decide)
  have J91:Mn.p (Mn.any) (vals 17) wz:=hJ 17 (by decide) (by decide)
  have J92:Mn.p (Mn.any) (vals 18) wz:=hJ 18 (by decide) (by decide)
  have J93:Mn.p (Mn.eq (.bool true)) (vals 19) wz:=hJ 19 (by decide) (by decide)
  have J4:Mn.p (Mn.eq (.bool true)) (vals 20) wz:=hJ 20 (by decide) (by decide)
  clear hJ
  simp only [putAll,if_true,Bool.false_eq_true,if_false,Act.put,Nat.zero_add,Nat.reduceAdd,List.setIfInBounds_toArray,List.set_cons_zero,List.set_cons_succ]
  generalize vals 0=z74 at J74 ⊢
  obtain rfl:z74=(.slice A4 nx c4):=J74
  generalize vals 1=z75 at J75 ⊢
  obtain rfl:z75=(.int .i64 (nx:Int)):=J75
  generalize vals 2=z76 at J76 ⊢
  obtain rfl:z76=(.slice A5 n c5):=J76
  generalize vals 3=z77 at J77 ⊢
  obtain rfl:z77=(.int .i64 (n:Int)):=J77
  generalize vals 4=z78 at J78 ⊢
  obtain rfl:z78=(.bool true):=J78
  generalize vals 5=z79 at J79 ⊢
  obtain rfl:z79=(.bool true):=J79
  generalize vals 6=z80 at J80 ⊢
  generalize vals 7=z81 at J81 ⊢
  generalize vals 8=z82 at J82 ⊢
  generalize vals 9=z83 at J83 ⊢
  obtain rfl:z83=(.bool true):=J83
  generalize vals 10=z84 at J84 ⊢
  obtain rfl:z84=(.bool true):=J84
  generalize vals 11=z85 at J85 ⊢
  generalize vals 12=z86 at J86 ⊢
  generalize vals 13=z87 at J87 ⊢
  generalize vals 14=z88 at J88 ⊢
  generalize vals 15=z89 at J89 ⊢
  generalize vals 16=z90 at J90 ⊢
  generalize vals 17=z91 at J91 ⊢
  generalize vals 18=z92 at J92 ⊢
  generalize vals 19=z93 at J93 ⊢
  obtain rfl:z93=(.bool true):=J93
  generalize vals 20=z4 at J4 ⊢
  obtain rfl:z4=(.bool true):=J4
  refine stepL_done (by kernel_rfl) ?_ _
  go_wp2
  go_ret
  exact⟨rfl,hE.trans eZ⟩
 case pos =>
 have t1:((nx:Int) != (n:Int))=false:=by rw [hnx]; simp
 cases s with
 | false =>
  clear hnx
  refine region_inv [Mn.eq (.slice A4 nx c4),Mn.eq (.int .i64 (nx:Int)),Mn.eq (.slice A5 n c5),Mn.eq (.int .i64 (n:Int)),Mn.eq (.bool false),Mn.eq (.bool false),Mn.eq (.slice A4 nx c4),Mn.eq (.bool false),Mn.eq (.bool true),Mn.eq (.bool true),Mn.eq (.bool true),Mn.any,Mn.any,Mn.any,Mn.any,Mn.any,Mn.any,Mn.any,Mn.any,Mn.eq (.bool true),Mn.eq (.bool true)] [some 74,some 75,some 76,some 77,some 78,some 79,some 80,some 81,some 82,some 83,some 84,some 85,some 86,some 87,some 88,some 89,some 90,some 91,some 92,some 93,some 4] [] [true,true,true,true,true,true,true,true,true,true,true,true,true,true,true,true,true,true,true,true,true] 0 (by kernel_rfl) (by kernel_rfl) (by kernel_rfl) (by kernel_rfl) (by kernel_rfl) (by kernel_rfl) (by kernel_rfl) (by kernel_rfl) ?_ ?_
  ·intro i hi hl
   have hi':i=0∨i=1∨i=2∨i=3∨i=4∨i=5∨i=6∨i=7∨i=8∨i=9∨i=10∨i=11∨i=12∨i=13∨i=14∨i=15∨i=16∨i=17∨i=18∨i=19∨i=20:=by have h9:i < 21:=hi; omega
   clear hi
   rcases hi' with rfl | rfl | rfl | rfl | rfl | rfl | rfl | rfl | rfl | rfl | rfl | rfl | rfl | rfl | rfl | rfl | rfl | rfl | rfl | rfl | rfl
   ·clear hl
    refine stp rfl ?_
    intro ac wi eI hold hpre K hK
    have o1:=hold 1 (by kernel_rfl)
    simp only [List.getElem?_toArray,List.getElem?_cons_succ,List.getElem?_cons_zero] at o1
    clear hold hpre
    go_simp
    exact hK.out _ _ (Ext.refl _) rfl
   ·clear hl
    refine stp rfl ?_
    intro ac wi eI hold hpre K hK
    obtain⟨x74,s74,j74⟩:=hpre 0 (by kernel_rfl) 74 rfl
    obtain rfl:x74=(.slice A4 nx c4):=j74
    clear hold hpre
    go_simp
    exact hK.out _ _ (Ext.refl _) rfl
   ·clear hl
    refine stp rfl ?_
    intro ac wi eI hold hpre K hK
    have o5:=hold 5 (by kernel_rfl)
    simp only [List.getElem?_toArray,List.getElem?_cons_succ,List.getElem?_cons_zero] at o5
    clear hold hpre
    go_simp
    exact hK.out _ _ (Ext.refl _) rfl
   ·clear hl
    refine stp rfl ?_
    intro ac wi eI hold hpre K hK
    obtain⟨x76,s76,j76⟩:=hpre 2 (by kernel_rfl) 76 rfl
    obtain rfl:x76=(.slice A5 n c5):=j76
    clear hold hpre
    go_simp
    exact hK.out _ _ (Ext.refl _) rfl
   ·clear hl
    refine stp rfl ?_
    intro ac wi eI hold hpre K hK
    obtain⟨x75,s75,j75⟩:=hpre 1 (by kernel_rfl) 75 rfl
    obtain rfl:x75=(.int .i64 (nx:Int)):=j75
    obtain⟨x77,s77,j77⟩:=hpre 3 (by kernel_rfl) 77 rfl
    obtain rfl:x77=(.int .i64 (n:Int)):=j77
    clear hold hpre
    go_simp
    exact hK.out _ _ (Ext.refl _) rfl
   ·clear hl
    refine stp rfl ?_
    intro ac wi eI hold hpre K hK
    obtain⟨x78,s78,j78⟩:=hpre 4 (by kernel_rfl) 78 rfl
    obtain rfl:x78=(.bool false):=j78
    clear hold hpre
    go_simp
    exact hK.out _ _ (Ext.refl _) rfl
   ·clear hl
    refine stp rfl ?_
    intro ac wi eI hold hpre K hK
    obtain⟨x79,s79,j79⟩:=hpre 5 (by kernel_rfl) 79 rfl
    obtain rfl:x79=(.bool false):=j79
    have o1:=hold 1 (by kernel_rfl)
    simp only [List.getElem?_toArray,List.getElem?_cons_succ,List.getElem?_cons_zero] at o1
    clear hold hpre
    rw [if_pos (by simp [Region.wanted,yielded,s79])]
    go_simp
    exact hK.out _ _ (Ext.refl _) rfl
   ·clear hl
    refine stp rfl ?_
    intro ac wi eI hold hpre K hK
    obtain⟨x79,s79,j79⟩:=hpre 5 (by kernel_rfl) 79 rfl
    obtain rfl:x79=(.bool false):=j79
    obtain⟨x80,s80,j80⟩:=hpre 6 (by kernel_rfl) 80 rfl
    obtain rfl:x80=(.slice A4 nx c4):=j80
    clear hold hpre
    rw [if_pos (by simp [Region.wanted,yielded,s79])]
    go_simp
    refine (r2_validList (hXE.ext eI) (fun i hi=>(brief_raw (HBR.out i hi)).1)).mono ?_
    rintro e wj ⟨rfl,ej⟩
    rw [←hsv.out]
    go_wp2_with fail
    exact hK.out _ _ ej rfl
   ·clear hl
    refine stp rfl ?_
    intro ac wi eI hold hpre K hK
    obtain⟨x79,s79,j79⟩:=hpre 5 (by kernel_rfl) 79 rfl
    obtain rfl:x79=(.bool false):=j79
    obtain⟨x81,s81,j81⟩:=hpre 7 (by kernel_rfl) 81 rfl
    obtain rfl:x81=(.bool false):=j81
    clear hold hpre
    rw [if_pos (by simp [Region.wanted,yielded,s79])]
    go_simp
    exact hK.out _ _ (Ext.refl _) rfl
   ·clear hl
    refine stp rfl ?_
    intro ac wi eI hold hpre K hK
    obtain⟨x79,s79,j79⟩:=hpre 5 (by kernel_rfl) 79 rfl
    obtain rfl:x79=(.bool false):=j79
    obtain⟨x82,s82,j82⟩:=hpre 8 (by kernel_rfl) 82 rfl
    obtain rfl:x82=(.bool true):=j82
    clear hold hpre
    go_simp
    exact hK.out _ _ (Ext.refl _) rfl
   ·clear hl
    refine stp rfl ?_
    intro ac wi eI hold hpre K hK
    obtain⟨x83,s83,j83⟩:=hpre 9 (by kernel_rfl) 83 rfl
    obtain rfl:x83=(.bool true):=j83
    clear hold hpre
    go_simp
    exact hK.out _ _ (Ext.refl _) rfl
   ·clear hl
    refine stp rfl ?_
    intro ac wi eI hold hpre K hK
    obtain⟨x84,s84,j84⟩:=hpre 10 (by kernel_rfl) 84 rfl
    obtain rfl:x84=(.bool true):=j84
    have o2:=hold 2 (by kernel_rfl)
    simp only [List.getElem?_toArray,List.getElem?_cons_succ,List.getElem?_cons_zero] at o2
    clear hold hpre
    rw [if_neg (by simp [Region.wanted,yielded,s84])]
    exact hK.out _ _ (Ext.refl _) trivial
   ·clear hl
    refine stp rfl ?_
    intro ac wi eI hold hpre K hK
    obtain⟨x84,s84,j84⟩:=hpre 10 (by kernel_rfl) 84 rfl
    obtain rfl:x84=(.bool true):=j84
    have o5:=hold 5 (by kernel_rfl)
    simp only [List.getElem?_toArray,List.getElem?_cons_succ,List.getElem?_cons_zero] at o5
    clear hold hpre
    rw [if_neg (by simp [Region.wanted,yielded,s84])]
    exact hK.out _ _ (Ext.refl _) trivial
   ·clear hl
    refine stp rfl ?_
    intro ac wi eI hold hpre K hK
    obtain⟨x84,s84,j84⟩:=hpre 10 (by kernel_rfl) 84 rfl
    obtain rfl:x84=(.bool true):=j84
    obtain⟨x85,s85,j85⟩:=hpre 11 (by kernel_rfl) 85 rfl
    replace j85:Mn.p (Mn.any) x85 wi:=j85
    obtain⟨x86,s86,j86⟩:=hpre 12 (by kernel_rfl) 86 rfl
    replace j86:Mn.p (Mn.any) x86 wi:=j86
    clear hold hpre
    rw [if_neg (by simp [Region.wanted,yielded,s84])]
    exact hK.out _ _ (Ext.refl _) trivial
   ·clear hl
    refine stp rfl ?_
    intro ac wi eI hold hpre K hK
    obtain⟨x84,s84,j84⟩:=hpre 10 (by kernel_rfl) 84 rfl
    obtain rfl:x84=(.bool true):=j84
    have o2:=hold 2 (by kernel_rfl)
    simp only [List.getElem?_toArray,List.getElem?_cons_succ,List.getElem?_cons_zero] at o2
    clear hold hpre
    rw [if_neg (by simp [Region.wanted,yielded,s84])]
    exact hK.out _ _ (Ext.refl _) trivial
   ·clear hl
    refine stp rfl ?_
    intro ac wi eI hold hpre K hK
    obtain⟨x84,s84,j84⟩:=hpre 10 (by kernel_rfl) 84 rfl
    obtain rfl:x84=(.bool true):=j84
    have o1:=hold 1 (by kernel_rfl)
    simp only [List.getElem?_toArray,List.getElem?_cons_succ,List.getElem?_cons_zero] at o1
    clear hold hpre
    rw [if_neg (by simp [Region.wanted,yielded,s84])]
    exact hK.out _ _ (Ext.refl _) trivial
   ·clear hl
    refine stp rfl ?_
    intro ac wi eI hold hpre K hK
    obtain⟨x84,s84,j84⟩:=hpre 10 (by kernel_rfl) 84 rfl
    obtain rfl:x84=(.bool true):=j84
    obtain⟨x88,s88,j88⟩:=hpre 14 (by kernel_rfl) 88 rfl
    replace j88:Mn.p (Mn.any) x88 wi:=j88
    obtain⟨x89,s89,j89⟩:=hpre 15 (by kernel_rfl) 89 rfl
    replace j89:Mn.p (Mn.any) x89 wi:=j89
    clear hold hpre
    rw [if_neg (by simp [Region.wanted,yielded,s84])]
    exact hK.out _ _ (Ext.refl _) trivial
   ·clear hl
    refine stp rfl ?_
    intro ac wi eI hold hpre K hK
    obtain⟨x84,s84,j84⟩:=hpre 10 (by kernel_rfl) 84 rfl
    obtain rfl:x84=(.bool true):=j84
    obtain⟨x87,s87,j87⟩:=hpre 13 (by kernel_rfl) 87 rfl
    replace j87:Mn.p (Mn.any) x87 wi:=j87
    obtain⟨x90,s90,j90⟩:=hpre 16 (by kernel_rfl) 90 rfl
    replace j90:Mn.p (Mn.any) x90 wi:=j90
    clear hold hpre
    rw [if_neg (by simp [Region.wanted,yielded,s84])]
    exact hK.out _ _ (Ext.refl _) trivial
   ·clear hl
    refine stp rfl ?_
    intro ac wi eI hold hpre K hK
    obtain⟨x84,s84,j84⟩:=hpre 10 (by kernel_rfl) 84 rfl
    obtain rfl:x84=(.bool true):=j84
    obtain⟨x91,s91,j91⟩:=hpre 17 (by kernel_rfl) 91 rfl
    replace j91:Mn.p (Mn.any) x91 wi:=j91
    clear hold hpre
    rw [if_neg (by simp [Region.wanted,yielded,s84])]
    exact hK.out _ _ (Ext.refl _) trivial
   ·clear hl
    refine stp rfl ?_
    intro ac wi eI hold hpre K hK
    obtain⟨x84,s84,j84⟩:=hpre 10 (by kernel_rfl) 84 rfl
    obtain rfl:x84=(.bool true):=j84
    obtain⟨x92,s92,j92⟩:=hpre 18 (by kernel_rfl) 92 rfl
    replace j92:Mn.p (Mn.any) x92 wi:=j92
    clear hold hpre
    go_simp
    exact hK.out _ _ (Ext.refl _) rfl
   ·clear hl
    refine stp rfl ?_
    intro ac wi eI hold hpre K hK
    obtain⟨x93,s93,j93⟩:=hpre 19 (by kernel_rfl) 93 rfl
    obtain rfl:x93=(.bool true):=j93
    clear hold hpre
    go_simp
    exact hK.out _ _ (Ext.refl _) rfl
  intro vals wz eZ hJ
  have J74:Mn.p (Mn.eq (.slice A4 nx c4)) (vals 0) wz:=hJ 0 (by decide) (by decide)
  have J75:Mn.p (Mn.eq (.int .i64 (nx:Int))) (vals 1) wz:=hJ 1 (by decide) (by decide)
  have J76:Mn.p (Mn.eq (.slice A5 n c5)) (vals 2) wz:=hJ 2 (by decide) (by decide)
  have J77:Mn.p (Mn.eq (.int .i64 (n:Int))) (vals 3) wz:=hJ 3 (by decide) (by decide)
  have J78:Mn.p (Mn.eq (.bool false)) (vals 4) wz:=hJ 4 (by decide) (by decide)
  have J79:Mn.p (Mn.eq (.bool false)) (vals 5) wz:=hJ 5 (by decide) (by decide)
  have J80:Mn.p (Mn.eq (.slice A4 nx c4)) (vals 6) wz:=hJ 6 (by decide) (by decide)
  have J81:Mn.p (Mn.eq (.bool false)) (vals 7) wz:=hJ 7 (by decide) (by decide)
  have J82:Mn.p (Mn.eq (.bool true)) (vals 8) wz:=hJ 8 (by decide) (by decide)
  have J83:Mn.p (Mn.eq (.bool true)) (vals 9) wz:=hJ 9 (by decide) (by decide)
  have J84:Mn.p (Mn.eq (.bool true)) (vals 10) wz:=hJ 10 (by decide) (by decide)
  have J85:Mn.p (Mn.any) (vals 11) wz:=hJ 11 (by decide) (by decide)
  have J86:Mn.p (Mn.any) (vals 12) wz:=hJ 12 (by decide) (by decide)
  have J87:Mn.p (Mn.any) (vals 13) wz:=hJ 13 (by decide) (by decide)
  have J88:Mn.p (Mn.any) (vals 14) wz:=hJ 14 (by decide) (by decide)
  have J89:Mn.p (Mn.any) (vals 15) wz:=hJ 15 (by decide) (by decide)
  have J90:Mn.p (Mn.any) (vals 16) wz:=hJ 16 (by decide) (by decide)
  have J91:Mn.p (Mn.any) (vals 17) wz:=hJ 17 (by decide) (by decide)
  have J92:Mn.p (Mn.any) (vals 18) wz:=hJ 18 (by decide) (by decide)
  have J93:Mn.p (Mn.eq (.bool true)) (vals 19) wz:=hJ 19 (by decide) (by decide)
  have J4:Mn.p (Mn.eq (.bool true)) (vals 20) wz:=hJ 20 (by decide) (by decide)
  clear hJ
  simp only [putAll,if_true,Bool.false_eq_true,if_false,Act.put,Nat.zero_add,Nat.reduceAdd,List.setIfInBounds_toArray,List.set_cons_zero,List.set_cons_succ]
  generalize vals 0=z74 at J74 ⊢
  obtain rfl:z74=(.slice A4 nx c4):=J74
  generalize vals 1=z75 at J75 ⊢
  obtain rfl:z75=(.int .i64 (nx:Int)):=J75
  generalize vals 2=z76 at J76 ⊢
  obtain rfl:z76=(.slice A5 n c5):=J76
  generalize vals 3=z77 at J77 ⊢
  obtain rfl:z77=(.int .i64 (n:Int)):=J77
  generalize vals 4=z78 at J78 ⊢
  obtain rfl:z78=(.bool false):=J78
  generalize vals 5=z79 at J79 ⊢
  obtain rfl:z79=(.bool false):=J79
  generalize vals 6=z80 at J80 ⊢
  obtain rfl:z80=(.slice A4 nx c4):=J80
  generalize vals 7=z81 at J81 ⊢
  obtain rfl:z81=(.bool false):=J81
  generalize vals 8=z82 at J82 ⊢
  obtain rfl:z82=(.bool true):=J82
  generalize vals 9=z83 at J83 ⊢
  obtain rfl:z83=(.bool true):=J83
  generalize vals 10=z84 at J84 ⊢
  obtain rfl:z84=(.bool true):=J84
  generalize vals 11=z85 at J85 ⊢
  generalize vals 12=z86 at J86 ⊢
  generalize vals 13=z87 at J87 ⊢
  generalize vals 14=z88 at J88 ⊢
  generalize vals 15=z89 at J89 ⊢
  generalize vals 16=z90 at J90 ⊢
  generalize vals 17=z91 at J91 ⊢
  generalize vals 18=z92 at J92 ⊢
  generalize vals 19=z93 at J93 ⊢
  obtain rfl:z93=(.bool true):=J93
  generalize vals 20=z4 at J4 ⊢
  obtain rfl:z4=(.bool true):=J4
  refine stepL_done (by kernel_rfl) ?_ _
  go_wp2
  go_ret
  exact⟨rfl,hE.trans eZ⟩
 | true =>
  obtain⟨xr,hxr⟩:=hid_eq (fun i=>ratOf (R i))
  obtain⟨g1,g2⟩:=shB_lsv HS'.out hsv.out.symm hXE
  rw [←hxr.out] at g1 g2
  have g3:LsV N lo' hi' w10 (.slice A4 nx c4) n xr:=hnx ▸ g1
  have HXR:Hid (HtL n 17 xr):=hnx ▸ g2
  clear g1 g2
  have HXV:=Lib.hid g3
  clear g3 hnx
  have HRH:Hid (HtL m 200 (fun i=>av n X xr i - y i)):=fun i hi=>by
   refine Ht.mono (Ht.sub (sum_ht (n:=n) (k:=17+17) (K:=n*(17+17+1)+1) (fun c hc=>(HX.out i hi c hc).mul (HXR.out c hc)) (Nat.le_refl _) (Nat.le_refl _)) (HY.out i hi)) (by omega)
  obtain⟨T2,hT2⟩:=hid_eq (obj m p (fun i=>av n X xr i - y i))
  have HT2:Hid (Ht 5000 T2):=by
   rw [Hid,hT2.out]
   refine Ht.mono (sum_ht (n:=m) (k:=17+(200+200)) (K:=m*(17+(200+200)+1)+1) (fun i hi=>(HP.out i hi).mul ((HRH.out i hi).mul (HRH.out i hi))) (Nat.le_refl _) (Nat.le_refl _)) (by omega)
  have HSD:Hid (Sz (T - T2)):=(HTH.out.sub HT2.out).sz (by omega)
  obtain⟨sg,hsg⟩:=hid_eq (T - T2).num.sign
  have hsg0:sg≤0:=by
   rw [hsg.out]
   refine sign_le34 ?_
   have h9:T≤T2:=by
    rw [hT2.out]
    exact HEQ.out xr
   grind
  have HKW:Hid (m*(17+((n*(17+17+1)+1+17+1)+(n*(17+17+1)+1+17+1))+1)+1≤29000000000):=by
   have h9:m*(17+((n*(17+17+1)+1+17+1)+(n*(17+17+1)+1+17+1))+1)≤8*1000:=mul_le8 hm (by omega)
   rw [Hid]; omega
  refine region_inv [Mn.eq (.slice A4 nx c4),Mn.eq (.int .i64 (nx:Int)),Mn.eq (.slice A5 n c5),Mn.eq (.int .i64 (n:Int)),Mn.eq (.bool false),Mn.eq (.bool false),Mn.eq (.slice A4 nx c4),Mn.eq (.bool true),Mn.eq (.bool false),Mn.eq (.bool false),Mn.eq (.bool false),Mn.eq (.agg #[.slice A1 m c1,.slice A2 m c2,.slice A3 m c3]),Mn.eq (.slice A5 n c5),Mn.rat N T,Mn.eq (.agg #[.slice A1 m c1,.slice A2 m c2,.slice A3 m c3]),Mn.eq (.slice A4 nx c4),Mn.rat N T2,Mn.eq (.int .i64 sg),Mn.eq (.bool true),Mn.eq (.bool true),Mn.eq (.bool true)] [some 74,some 75,some 76,some 77,some 78,some 79,some 80,some 81,some 82,some 83,some 84,some 85,some 86,some 87,some 88,some 89,some 90,some 91,some 92,some 93,some 4] [] [true,true,true,true,true,true,true,true,true,true,true,true,true,true,true,true,true,true,true,true,true] 0 (by kernel_rfl) (by kernel_rfl) (by kernel_rfl) (by kernel_rfl) (by kernel_rfl) (by kernel_rfl) (by kernel_rfl) (by kernel_rfl) ?_ ?_
  ·intro i hi hl
   have hi':i=0∨i=1∨i=2∨i=3∨i=4∨i=5∨i=6∨i=7∨i=8∨i=9∨i=10∨i=11∨i=12∨i=13∨i=14∨i=15∨i=16∨i=17∨i=18∨i=19∨i=20:=by have h9:i < 21:=hi; omega
   clear hi
   rcases hi' with rfl | rfl | rfl | rfl | rfl | rfl | rfl | rfl | rfl | rfl | rfl | rfl | rfl | rfl | rfl | rfl | rfl | rfl | rfl | rfl | rfl
   ·clear hl
    refine stp rfl ?_
    intro ac wi eI hold hpre K hK
    have o1:=hold 1 (by kernel_rfl)
    simp only [List.getElem?_toArray,List.getElem?_cons_succ,List.getElem?_cons_zero] at o1
    clear hold hpre
    go_simp
    exact hK.out _ _ (Ext.refl _) rfl
   ·clear hl
    refine stp rfl ?_
    intro ac wi eI hold hpre K hK
    obtain⟨x74,s74,j74⟩:=hpre 0 (by kernel_rfl) 74 rfl
    obtain rfl:x74=(.slice A4 nx c4):=j74
    clear hold hpre
    go_simp
    exact hK.out _ _ (Ext.refl _) rfl
   ·clear hl
    refine stp rfl ?_
    intro ac wi eI hold hpre K hK
    have o5:=hold 5 (by kernel_rfl)
    simp only [List.getElem?_toArray,List.getElem?_cons_succ,List.getElem?_cons_zero] at o5
    clear hold hpre
    go_simp
    exact hK.out _ _ (Ext.refl _) rfl
   ·clear hl
    refine stp rfl ?_
    intro ac wi eI hold hpre K hK
    obtain⟨x76,s76,j76⟩:=hpre 2 (by kernel_rfl) 76 rfl
    obtain rfl:x76=(.slice A5 n c5):=j76
    clear hold hpre
    go_simp
    exact hK.out _ _ (Ext.refl _) rfl
   ·clear hl
    refine stp rfl ?_
    intro ac wi eI hold hpre K hK
    obtain⟨x75,s75,j75⟩:=hpre 1 (by kernel_rfl) 75 rfl
    obtain rfl:x75=(.int .i64 (nx:Int)):=j75
    obtain⟨x77,s77,j77⟩:=hpre 3 (by kernel_rfl) 77 rfl
    obtain rfl:x77=(.int .i64 (n:Int)):=j77
    clear hold hpre
    go_simp
    exact hK.out _ _ (Ext.refl _) rfl
   ·clear hl
    refine stp rfl ?_
    intro ac wi eI hold hpre K hK
    obtain⟨x78,s78,j78⟩:=hpre 4 (by kernel_rfl) 78 rfl
    obtain rfl:x78=(.bool false):=j78
    clear hold hpre
    go_simp
    exact hK.out _ _ (Ext.refl _) rfl
   ·clear hl
    refine stp rfl ?_
    intro ac wi eI hold hpre K hK
    obtain⟨x79,s79,j79⟩:=hpre 5 (by kernel_rfl) 79 rfl
    obtain rfl:x79=(.bool false):=j79
    have o1:=hold 1 (by kernel_rfl)
    simp only [List.getElem?_toArray,List.getElem?_cons_succ,List.getElem?_cons_zero] at o1
    clear hold hpre
    rw [if_pos (by simp [Region.wanted,yielded,s79])]
    go_simp
    exact hK.out _ _ (Ext.refl _) rfl
   ·clear hl
    refine stp rfl ?_
    intro ac wi eI hold hpre K hK
    obtain⟨x79,s79,j79⟩:=hpre 5 (by kernel_rfl) 79 rfl
    obtain rfl:x79=(.bool false):=j79
    obtain⟨x80,s80,j80⟩:=hpre 6 (by kernel_rfl) 80 rfl
    obtain rfl:x80=(.slice A4 nx c4):=j80
    clear hold hpre
    rw [if_pos (by simp [Region.wanted,yielded,s79])]
    go_simp
    refine (r2_validList (hXE.ext eI) (fun i hi=>(brief_raw (HBR.out i hi)).1)).mono ?_
    rintro e wj ⟨rfl,ej⟩
    rw [←hsv.out]
    go_wp2_with fail
    exact hK.out _ _ ej rfl
   ·clear hl
    refine stp rfl ?_
    intro ac wi eI hold hpre K hK
    obtain⟨x79,s79,j79⟩:=hpre 5 (by kernel_rfl) 79 rfl
    obtain rfl:x79=(.bool false):=j79
    obtain⟨x81,s81,j81⟩:=hpre 7 (by kernel_rfl) 81 rfl
    obtain rfl:x81=(.bool true):=j81
    clear hold hpre
    rw [if_pos (by simp [Region.wanted,yielded,s79])]
    go_simp
    exact hK.out _ _ (Ext.refl _) rfl
   ·clear hl
    refine stp rfl ?_
    intro ac wi eI hold hpre K hK
    obtain⟨x79,s79,j79⟩:=hpre 5 (by kernel_rfl) 79 rfl
    obtain rfl:x79=(.bool false):=j79
    obtain⟨x82,s82,j82⟩:=hpre 8 (by kernel_rfl) 82 rfl
    obtain rfl:x82=(.bool false):=j82
    clear hold hpre
    go_simp
    exact hK.out _ _ (Ext.refl _) rfl
   ·clear hl
    refine stp rfl ?_
    intro ac wi eI hold hpre K hK
    obtain⟨x83,s83,j83⟩:=hpre 9 (by kernel_rfl) 83 rfl
    obtain rfl:x83=(.bool false):=j83
    clear hold hpre
    go_simp
    exact hK.out _ _ (Ext.refl _) rfl
   ·clear hl
    refine stp rfl ?_
    intro ac wi eI hold hpre K hK
    obtain⟨x84,s84,j84⟩:=hpre 10 (by kernel_rfl) 84 rfl
    obtain rfl:x84=(.bool false):=j84
    have o2:=hold 2 (by kernel_rfl)
    simp only [List.getElem?_toArray,List.getElem?_cons_succ,List.getElem?_cons_zero] at o2
    clear hold hpre
    rw [if_pos (by simp [Region.wanted,yielded,s84])]
    have cc0:=eI.cell a0
    have cc1:=eI.cell a1
    have cc2:=eI.cell a2
    go_simp
    exact hK.out _ _ (Ext.refl _) rfl
   ·clear hl
    refine stp rfl ?_
    intro ac wi eI hold hpre K hK
    obtain⟨x84,s84,j84⟩:=hpre 10 (by kernel_rfl) 84 rfl
    obtain rfl:x84=(.bool false):=j84
    have o5:=hold 5 (by kernel_rfl)
    simp only [List.getElem?_toArray,List.getElem?_cons_succ,List.getElem?_cons_zero] at o5
    clear hold hpre
    rw [if_pos (by simp [Region.wanted,yielded,s84])]
    go_simp
    exact hK.out _ _ (Ext.refl _) rfl
   ·clear hl
    refine stp rfl ?_
    intro ac wi eI hold hpre K hK
    obtain⟨x84,s84,j84⟩:=hpre 10 (by kernel_rfl) 84 rfl
    obtain rfl:x84=(.bool false):=j84
    obtain⟨x85,s85,j85⟩:=hpre 11 (by kernel_rfl) 85 rfl
    obtain rfl:x85=(.agg #[.slice A1 m c1,.slice A2 m c2,.slice A3 m c3]):=j85
    obtain⟨x86,s86,j86⟩:=hpre 12 (by kernel_rfl) 86 rfl
    obtain rfl:x86=(.slice A5 n c5):=j86
    clear hold hpre
    rw [if_pos (by simp [Region.wanted,yielded,s84])]
    go_simp
    refine (l34_objective (h1.ext (hE.trans eI)) (h2.ext (hE.trans eI)) (h3.ext (hE.trans eI)) (h5'.ext eI) hm0 (by omega) hn0 (by omega) HX.out HY.out HP.out HSH.out HKV.out HK8.out).mono ?_
    rw [←hT.out]
    rintro e wj ⟨vj,rfl,hj,ej⟩
    go_wp2_with fail
    exact hK.out _ _ ej hj
   ·clear hl
    refine stp rfl ?_
    intro ac wi eI hold hpre K hK
    obtain⟨x84,s84,j84⟩:=hpre 10 (by kernel_rfl) 84 rfl
    obtain rfl:x84=(.bool false):=j84
    have o2:=hold 2 (by kernel_rfl)
    simp only [List.getElem?_toArray,List.getElem?_cons_succ,List.getElem?_cons_zero] at o2
    clear hold hpre
    rw [if_pos (by simp [Region.wanted,yielded,s84])]
    have cc0:=eI.cell a0
    have cc1:=eI.cell a1
    have cc2:=eI.cell a2
    go_simp
    exact hK.out _ _ (Ext.refl _) rfl
   ·clear hl
    refine stp rfl ?_
    intro ac wi eI hold hpre K hK
    obtain⟨x84,s84,j84⟩:=hpre 10 (by kernel_rfl) 84 rfl
    obtain rfl:x84=(.bool false):=j84
    have o1:=hold 1 (by kernel_rfl)
    simp only [List.getElem?_toArray,List.getElem?_cons_succ,List.getElem?_cons_zero] at o1
    clear hold hpre
    rw [if_pos (by simp [Region.wanted,yielded,s84])]
    go_simp
    exact hK.out _ _ (Ext.refl _) rfl
   ·clear hl
    refine stp rfl ?_
    intro ac wi eI hold hpre K hK
    obtain⟨x84,s84,j84⟩:=hpre 10 (by kernel_rfl) 84 rfl
    obtain rfl:x84=(.bool false):=j84
    obtain⟨x88,s88,j88⟩:=hpre 14 (by kernel_rfl) 88 rfl
    obtain rfl:x88=(.agg #[.slice A1 m c1,.slice A2 m c2,.slice A3 m c3]):=j88
    obtain⟨x89,s89,j89⟩:=hpre 15 (by kernel_rfl) 89 rfl
    obtain rfl:x89=(.slice A4 nx c4):=j89
    clear hold hpre
    rw [if_pos (by simp [Region.wanted,yielded,s84])]
    go_simp
    refine (l34_objective (h1.ext (hE.trans eI)) (h2.ext (hE.trans eI)) (h3.ext (hE.trans eI)) (HXV.out.ext eI) hm0 (by omega) hn0 (by omega) HX.out HY.out HP.out HXR.out rfl HKW.out).mono ?_
    rw [←hT2.out]
    rintro e wj ⟨vj,rfl,hj,ej⟩
    go_wp2_with fail
    exact hK.out _ _ ej hj
   ·clear hl
    refine stp rfl ?_
    intro ac wi eI hold hpre K hK
    obtain⟨x84,s84,j84⟩:=hpre 10 (by kernel_rfl) 84 rfl
    obtain rfl:x84=(.bool false):=j84
    obtain⟨x87,s87,j87⟩:=hpre 13 (by kernel_rfl) 87 rfl
    replace j87:Mn.p (Mn.rat N T) x87 wi:=j87
    obtain⟨x90,s90,j90⟩:=hpre 16 (by kernel_rfl) 90 rfl
    replace j90:Mn.p (Mn.rat N T2) x90 wi:=j90
    clear hold hpre
    rw [if_pos (by simp [Region.wanted,yielded,s84])]
    go_simp
    refine (r2_compare j87 j90 (HTH.out.sz (by omega)) (HT2.out.sz (by omega)) HSD.out).mono ?_
    rintro e wj ⟨rfl,ej⟩
    rw [←hsg.out]
    go_wp2_with fail
    exact hK.out _ _ ej rfl
   ·clear hl
    refine stp rfl ?_
    intro ac wi eI hold hpre K hK
    obtain⟨x84,s84,j84⟩:=hpre 10 (by kernel_rfl) 84 rfl
    obtain rfl:x84=(.bool false):=j84
    obtain⟨x91,s91,j91⟩:=hpre 17 (by kernel_rfl) 91 rfl
    obtain rfl:x91=(.int .i64 sg):=j91
    clear hold hpre
    rw [if_pos (by simp [Region.wanted,yielded,s84])]
    go_simp
    exact hK.out _ _ (Ext.refl _) rfl
   ·clear hl
    refine stp rfl ?_
    intro ac wi eI hold hpre K hK
    obtain⟨x84,s84,j84⟩:=hpre 10 (by kernel_rfl) 84 rfl
    obtain rfl:x84=(.bool false):=j84
    obtain⟨x92,s92,j92⟩:=hpre 18 (by kernel_rfl) 92 rfl
    obtain rfl:x92=(.bool true):=j92
    clear hold hpre
    go_simp
    exact hK.out _ _ (Ext.refl _) rfl
   ·clear hl
    refine stp rfl ?_
    intro ac wi eI hold hpre K hK
    obtain⟨x93,s93,j93⟩:=hpre 19 (by kernel_rfl) 93 rfl
    obtain rfl:x93=(.bool true):=j93
    clear hold hpre
    go_simp
    exact hK.out _ _ (Ext.refl _) rfl
  intro vals wz eZ hJ
  have J74:Mn.p (Mn.eq (.slice A4 nx c4)) (vals 0) wz:=hJ 0 (by decide) (by decide)
  have J75:Mn.p (Mn.eq (.int .i64 (nx:Int))) (vals 1) wz:=hJ 1 (by decide) (by decide)
  have J76:Mn.p (Mn.eq (.slice A5 n c5)) (vals 2) wz:=hJ 2 (by decide) (by decide)
  have J77:Mn.p (Mn.eq (.int .i64 (n:Int))) (vals 3) wz:=hJ 3 (by decide) (by decide)
  have J78:Mn.p (Mn.eq (.bool false)) (vals 4) wz:=hJ 4 (by decide) (by decide)
  have J79:Mn.p (Mn.eq (.bool false)) (vals 5) wz:=hJ 5 (by decide) (by decide)
  have J80:Mn.p (Mn.eq (.slice A4 nx c4)) (vals 6) wz:=hJ 6 (by decide) (by decide)
  have J81:Mn.p (Mn.eq (.bool true)) (vals 7) wz:=hJ 7 (by decide) (by decide)
  have J82:Mn.p (Mn.eq (.bool false)) (vals 8) wz:=hJ 8 (by decide) (by decide)
  have J83:Mn.p (Mn.eq (.bool false)) (vals 9) wz:=hJ 9 (by decide) (by decide)
  have J84:Mn.p (Mn.eq (.bool false)) (vals 10) wz:=hJ 10 (by decide) (by decide)
  have J85:Mn.p (Mn.eq (.agg #[.slice A1 m c1,.slice A2 m c2,.slice A3 m c3])) (vals 11) wz:=hJ 11 (by decide) (by decide)
  have J86:Mn.p (Mn.eq (.slice A5 n c5)) (vals 12) wz:=hJ 12 (by decide) (by decide)
  have J87:Mn.p (Mn.rat N T) (vals 13) wz:=hJ 13 (by decide) (by decide)
  have J88:Mn.p (Mn.eq (.agg #[.slice A1 m c1,.slice A2 m c2,.slice A3 m c3])) (vals 14) wz:=hJ 14 (by decide) (by decide)
  have J89:Mn.p (Mn.eq (.slice A4 nx c4)) (vals 15) wz:=hJ 15 (by decide) (by decide)
  have J90:Mn.p (Mn.rat N T2) (vals 16) wz:=hJ 16 (by decide) (by decide)
  have J91:Mn.p (Mn.eq (.int .i64 sg)) (vals 17) wz:=hJ 17 (by decide) (by decide)
  have J92:Mn.p (Mn.eq (.bool true)) (vals 18) wz:=hJ 18 (by decide) (by decide)
  have J93:Mn.p (Mn.eq (.bool true)) (vals 19) wz:=hJ 19 (by decide) (by decide)
  have J4:Mn.p (Mn.eq (.bool true)) (vals 20) wz:=hJ 20 (by decide) (by decide)
  clear hJ
  simp only [putAll,if_true,Bool.false_eq_true,if_false,Act.put,Nat.zero_add,Nat.reduceAdd,List.setIfInBounds_toArray,List.set_cons_zero,List.set_cons_succ]
  generalize vals 0=z74 at J74 ⊢
  obtain rfl:z74=(.slice A4 nx c4):=J74
  generalize vals 1=z75 at J75 ⊢
  obtain rfl:z75=(.int .i64 (nx:Int)):=J75
  generalize vals 2=z76 at J76 ⊢
  obtain rfl:z76=(.slice A5 n c5):=J76
  generalize vals 3=z77 at J77 ⊢
  obtain rfl:z77=(.int .i64 (n:Int)):=J77
  generalize vals 4=z78 at J78 ⊢
  obtain rfl:z78=(.bool false):=J78
  generalize vals 5=z79 at J79 ⊢
  obtain rfl:z79=(.bool false):=J79
  generalize vals 6=z80 at J80 ⊢
  obtain rfl:z80=(.slice A4 nx c4):=J80
  generalize vals 7=z81 at J81 ⊢
  obtain rfl:z81=(.bool true):=J81
  generalize vals 8=z82 at J82 ⊢
  obtain rfl:z82=(.bool false):=J82
  generalize vals 9=z83 at J83 ⊢
  obtain rfl:z83=(.bool false):=J83
  generalize vals 10=z84 at J84 ⊢
  obtain rfl:z84=(.bool false):=J84
  generalize vals 11=z85 at J85 ⊢
  obtain rfl:z85=(.agg #[.slice A1 m c1,.slice A2 m c2,.slice A3 m c3]):=J85
  generalize vals 12=z86 at J86 ⊢
  obtain rfl:z86=(.slice A5 n c5):=J86
  generalize vals 13=z87 at J87 ⊢
  generalize vals 14=z88 at J88 ⊢
  obtain rfl:z88=(.agg #[.slice A1 m c1,.slice A2 m c2,.slice A3 m c3]):=J88
  generalize vals 15=z89 at J89 ⊢
  obtain rfl:z89=(.slice A4 nx c4):=J89
  generalize vals 16=z90 at J90 ⊢
  generalize vals 17=z91 at J91 ⊢
  obtain rfl:z91=(.int .i64 sg):=J91
  generalize vals 18=z92 at J92 ⊢
  obtain rfl:z92=(.bool true):=J92
  generalize vals 19=z93 at J93 ⊢
  obtain rfl:z93=(.bool true):=J93
  generalize vals 20=z4 at J4 ⊢
  obtain rfl:z4=(.bool true):=J4
  refine stepL_done (by kernel_rfl) ?_ _
  go_wp2
  go_ret
  exact⟨rfl,hE.trans eZ⟩
end Go.Proofs.YtccepmpebioeiaaGreat
namespace Go.Proofs.YtccepmpebioeiaaGreat
open Go.RowKit Go.ChangeShapes Go.ChangeAt
theorem cells_lin:Tryz.prog.cellsOf 26=3:=by kernel_rfl
section
variable {H:Type} {enc:TypeId×Value→H} {w:World} {spare:Nat→Bool} {held:Bool}
instance:Inhabited Raw:=⟨⟨false,[],false,[]⟩⟩
end
end Go.Proofs.YtccepmpebioeiaaGreat
