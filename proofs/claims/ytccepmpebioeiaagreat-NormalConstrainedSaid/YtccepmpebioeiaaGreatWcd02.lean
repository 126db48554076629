import Derived.Test.YtccepmpebioeiaaGreatWb01
import Derived.Test.YtccepmpebioeiaaGreatWb02
import Derived.Test.YtccepmpebioeiaaGreatWb03
import Derived.Test.YtccepmpebioeiaaGreatWb04
import Derived.Test.YtccepmpebioeiaaGreatWb05
import Derived.Test.YtccepmpebioeiaaGreatWb06
import Derived.Test.YtccepmpebioeiaaGreatWb07
import Derived.Test.YtccepmpebioeiaaGreatWb08
import Derived.Test.YtccepmpebioeiaaGreatWb09
import Derived.Test.YtccepmpebioeiaaGreatWb10
import Derived.Test.YtccepmpebioeiaaGreatWb11
import Derived.Test.YtccepmpebioeiaaGreatWb12
import Derived.Test.YtccepmpebioeiaaGreatWb13
import Derived.Test.YtccepmpebioeiaaGreatWb14
import Derived.Test.YtccepmpebioeiaaGreatWb15
import Derived.Test.YtccepmpebioeiaaGreatWb16
import Derived.Test.YtccepmpebioeiaaGreatWb17
import Derived.Test.YtccepmpebioeiaaGreatWb18
import Derived.Test.YtccepmpebioeiaaGreatWb19
import Derived.Test.YtccepmpebioeiaaGreatWb20
import Derived.Test.YtccepmpebioeiaaGreatWb21
import Derived.Test.YtccepmpebioeiaaGreatWb22
import Derived.Test.YtccepmpebioeiaaGreatWb23
import Derived.Test.YtccepmpebioeiaaGreatWb24
import Derived.Test.YtccepmpebioeiaaGreatWb25
import Derived.Test.YtccepmpebioeiaaGreatWb26
import Derived.Test.YtccepmpebioeiaaGreatWb27
import Derived.Test.YtccepmpebioeiaaGreatWb28
import Derived.Test.YtccepmpebioeiaaGreatWb29
import Derived.Test.YtccepmpebioeiaaGreatWb30
import Derived.Test.YtccepmpebioeiaaGreatWb31
import Derived.Test.YtccepmpebioeiaaGreatWb32
import Derived.Test.YtccepmpebioeiaaGreatWb33
import Derived.Test.YtccepmpebioeiaaGreatWb34
import Derived.Test.YtccepmpebioeiaaGreatWb35
import Derived.Test.YtccepmpebioeiaaGreatWb36
import Derived.Test.YtccepmpebioeiaaGreatWb37
import Derived.Test.YtccepmpebioeiaaGreatWb38
import Derived.Test.YtccepmpebioeiaaGreatWb39
import Derived.Test.YtccepmpebioeiaaGreatWb40
import Derived.Test.YtccepmpebioeiaaGreatWb41
import Derived.Test.YtccepmpebioeiaaGreatWb42
import Derived.Test.YtccepmpebioeiaaGreatWb43
import Derived.Test.YtccepmpebioeiaaGreatWb44
import Derived.Test.YtccepmpebioeiaaGreatWcd01
import Derived.Deep.AppendLies
import Derived.WalkKit
import Derived.WalkSpells
import Derived.WalkLawsBesides
import Derived.Lib.Hide
import Derived.Deep.RegionHeld3
import Derived.Deep.QuietTactic
import Derived.BigQuiet
import Derived.Maps.AppendAt
import Derived.Deep.DeepCutAuto
import Derived.Deep.RegionWith
import Derived.Deep.DeepMust
import Derived.Deep.CutBlock
import Derived.OrdersIn
import Derived.RegionTactic
import Derived.RangeFuncNested
import Derived.RangeFuncBound
import Derived.RangeFuncCalls
import Derived.RangeFuncLeaves
import Derived.RangeFuncBox
import Derived.Shelf.Abstract
import Derived.OwnWalkIn
import Derived.TacticsInMore
import Derived.LoopNIn
import Derived.LoopIn
import Derived.Deep.Slices
import Derived.Deep.Strs
import Derived.Lib.SmallJoins
import Derived.ProofKit
import Derived.OpenShut
import Derived.Below
set_option linter.all false
set_option maxHeartbeats 8000000
namespace Go.Proofs.YtccepmpebioeiaaGreat
open Go.RowKit
set_option maxRecDepth 100000 in
theorem con_good {N lo hi loc hic lod hid lor hir:Nat} {w:World} {A1 A2 A3 A4 A5 A6:Option Addr} {c1 c2 c3 c4 c5 c6 m n:Nat} {X C0:Nat→Nat→Rat} {y p d:Nat→Rat} {Z:Lin} {k nx:Nat} {L:Nat→Nat} {C:Nat→Nat→Raw} {D R:Nat→Raw}
  (hI:LinV N lo hi w (.agg #[.slice A1 m c1,.slice A2 m c2,.slice A3 m c3]) Z) (hIC:MtR N loc hic w (.slice A4 k c4) k L C) (hID:LsR N lod hid w (.slice A5 k c5) k D) (hIR:LsR N lor hir w (.slice A6 nx c6) nx R)
  (hs:few34 6 4 Z=true) (hm':shM 14 k L C=true) (hk:k≤3) (hd:shB 14 k D=true) (hr:shB 8 nx R=true) (hc:codeOf Z=0) (hb:conCode n k L C k D=0)
  (h1:MtV N lo hi w (.slice A1 m c1) m n X) (h2:LsV N lo hi w (.slice A2 m c2) m y) (h3:LsV N lo hi w (.slice A3 m c3) m p) (h4:MtV N loc hic w (.slice A4 k c4) k n C0) (h5:LsV N lod hid w (.slice A5 k c5) k d) (hm0:0 < m) (hm:m≤6) (hn0:0 < n) (hn:n≤4) (hk0:0 < k) (hpos:∀ i,i < m→0 < p i)
  (hkx:HtM m n 17 X) (hky:HtL m 17 y) (hkp:HtL m 17 p) (hkc:HtM k n 17 C0) (hkd:HtL k 17 d) :
  Calls Tryz.prog 5 #[.agg #[.slice A1 m c1,.slice A2 m c2,.slice A3 m c3],.agg #[.slice A4 k c4,.slice A5 k c5],.slice A6 nx c6] w (RetV w (.bool true)):=by
 obtain⟨-,f2,f3⟩:=few34_sz hs
 have HCS:Hid (∀ i,i < k→∀ j,j < L i→RawSz (C i j)):=fun i hi j hj=>(brief_raw (((shM_all hm').2 i hi).2 j hj)).1
 have HDS:Hid (∀ i,i < k→RawSz (D i)):=shB_sz hd
 have HX:=Lib.hid hkx
 have HY:=Lib.hid hky
 have HP:=Lib.hid hkp
 have HKC:=Lib.hid hkc
 have HKD:=Lib.hid hkd
 have HPOS:=Lib.hid hpos
 have HS:=Lib.hid hs
 have HM:=Lib.hid hm'
 have HD:=Lib.hid hd
 have HR:=Lib.hid hr
 have HC:=Lib.hid hc
 have HB:=Lib.hid hb
 have HF2:=Lib.hid f2
 have HF3:=Lib.hid f3
 have hN:=h1.le
 have h57:(5:Nat) ^ 7=78125:=by decide
 have hkM:HtM n n 365 (nmat X p m):=(nmat_ht hkx hkp (Nat.le_refl _) (Nat.le_refl _)).mono (by omega)
 have hkR:HtL n 365 (nrhs X y p m):=(nrhs_ht hkx hky hkp (Nat.le_refl _) (Nat.le_refl _)).mono (by omega)
 have hBH:HtM (n+k) (n+k) 365 (bord n (nmat X p m) C0):=fun i hi j hj=>by
  unfold bord
  by_cases e1:i < n
  ·rw [if_pos e1]
   by_cases e2:j < n
   ·rw [if_pos e2]; exact hkM i e1 j e2
   ·rw [if_neg e2]; exact (hkc (j - n) (by omega) i e1).mono (by omega)
  ·rw [if_neg e1]
   by_cases e2:j < n
   ·rw [if_pos e2]; exact (hkc (i - n) (by omega) j e2).mono (by omega)
   ·rw [if_neg e2]; exact Ht.zero.mono (by omega)
 have hRH:HtL (n+k) 365 (cat n (nrhs X y p m) d):=fun i hi=>by
  unfold cat
  by_cases e1:i < n
  ·rw [if_pos e1]; exact hkR i e1
  ·rw [if_neg e1]; exact (hkd (i - n) (by omega)).mono (by omega)
 have HSH:Hid (HtL (n+k) 200000000 (nsv (n+k) (bord n (nmat X p m) C0) (cat n (nrhs X y p m) d))):=(nsv_ht hBH hRH (show n+k≤7 by omega)).mono (by rw [h57]; omega)
 obtain⟨PP,hPP⟩:∃ PP,PP=5 ^ (n+k)*(365+1):=⟨_,rfl⟩
 have hPPb:PP≤28593750:=by
  have g1:5 ^ (n+k)≤5 ^ 7:=Nat.pow_le_pow_right (by omega) (by omega)
  omega
 have HPP:=Lib.hid hPP
 clear hPP
 obtain⟨SOL,hSOL⟩:=hid_eq (nsv (n+k) (bord n (nmat X p m) C0) (cat n (nrhs X y p m) d))
 rw [←hSOL.out] at HSH
 obtain⟨rk,hrk⟩:=hid_eq (rref (n+k) (bord n (nmat X p m) C0) (n+k)).2.length
 have hrkn:rk≤n+k:=by rw [hrk.out]; exact (rref_len (n+k) (bord n (nmat X p m) C0) (n+k)).1
 obtain⟨ok,hok⟩:=hid_eq (ivB (n+k) (bord n (nmat X p m) C0))
 have hreg:rk=n+k→Reg (n+k) (bord n (nmat X p m) C0):=fun h=>(rank_iff _ _).1 (by rw [←hrk.out]; exact h)
 have hok1:ok=true→rk=n+k:=fun h=>by
  rw [hok.out] at h
  rw [hrk.out]
  exact (rank_iff _ _).2 (ivB_reg.1 h)
 have hok0:ok=false→rk < n+k:=fun h=>by
  rcases Nat.lt_or_ge rk (n+k) with h9 | h9
  ·exact h9
  ·have h8:=ivB_reg.2 (hreg (by omega))
   rw [←hok.out,h] at h8
   cases h8
 have HOK1:=Lib.hid hok1
 have HOK0:=Lib.hid hok0
 have HREG:=Lib.hid hreg
 obtain⟨IV,hIV⟩:=hid_eq (fun i=>sum (n+k) (fun c=>invM (n+k) (bord n (nmat X p m) C0) i c*cat n (nrhs X y p m) d c))
 have HIV:Hid (rk=n+k→∀ i,i < n+k→SOL i=IV i):=fun h i hi=>by
  rw [hSOL.out,hIV.out]
  exact (inv_apply (hreg h) _ i hi).symm
 have HCX:Hid (rk=n+k→∀ t,t < k→sum n (fun c=>C0 t c*SOL c)=d t):=fun h t ht=>by
  rw [hSOL.out]
  exact (con_sol (hreg h)).2 t ht
 have HMIN:Hid (rk=n+k→∀ z,(∀ t,t < k→sum n (fun c=>C0 t c*z c)=d t)→obj m p (fun i=>av n X SOL i - y i)≤obj m p (fun i=>av n X z i - y i)):=fun h z hz=>by
  rw [hSOL.out]
  exact con_min hpos (hreg h) hz
 have hkv:n*(17+200000000+1)+1+17+1≤800000091:=by omega
 obtain⟨kv,hkv0⟩:∃ kv,kv=n*(17+200000000+1)+1+17+1:=⟨_,rfl⟩
 have HKV:=Lib.hid hkv0
 have hkv2:kv≤800000091:=by omega
 have HVV:Hid (HtL m kv (fun i=>av n X SOL i - y i)):=fun i hi=>by
  refine Ht.mono (Ht.sub (sum_ht (n:=n) (k:=17+200000000) (K:=n*(17+200000000+1)+1) (fun c hc=>(hkx i hi c hc).mul (HSH.out c (by omega))) (Nat.le_refl _) (Nat.le_refl _)) (hky i hi)) (by omega)
 obtain⟨T,hT⟩:=hid_eq (obj m p (fun i=>av n X SOL i - y i))
 have h8:m*(17+(kv+kv)+1)≤6*(17+(800000091+800000091)+1):=Nat.mul_le_mul hm (by omega)
 have HK8:Hid (m*(17+(kv+kv)+1)+1≤29000000000):=by rw [Hid]; omega
 have HTH:Hid (Ht 9700000000 T):=by
  rw [Hid,hT.out]
  refine Ht.mono (sum_ht (n:=m) (k:=17+(kv+kv)) (K:=m*(17+(kv+kv)+1)+1) (fun i hi=>(hkp i hi).mul ((HVV.out i hi).mul (HVV.out i hi))) (Nat.le_refl _) (Nat.le_refl _)) ?_
  omega
 have HK5:Hid (5*(5 ^ 7*365)≤29000000000):=by rw [Hid,h57]; omega
 have t0:¬ 3 < k:=by omega
 have t1:decide (3 < k)=false:=by simpa using t0
 clear hs hm' hd hr hc hb f2 f3 hkx hky hkp hpos hkc hkd hkM hkR hBH hRH hreg hok1 hok0 hkv hkv0 h8 h57
 go_enter Tryz.func5,Tryz.ntmps5
 go_wp2_with (go_at_call 10; refine Hid.out ?_)
 refine boxesC2 ?_
 intro W hE hsz B0 B1
 refine (l34_known W).mono ?_
 rintro e w1 ⟨rfl,e1⟩
 replace hE:=hE.trans e1
 replace B0:=e1.block B0
 replace B1:=e1.block B1
 have hsz1:=blk_lt B1
 clear e1 hsz
 obtain⟨a0,a1,a2,-⟩:=cells3 B0
 obtain⟨d0,d1,-⟩:=cells2 B1
 go_wp2_with (go_at_call 11; refine Hid.out ?_)
 refine (l34_few (hI.ext hE) 6 4 rfl rfl (by omega) (by omega)).mono ?_
 rintro e w2 ⟨rfl,e2⟩
 rw [HS.out]
 replace hE:=hE.trans e2
 replace B0:=e2.block B0
 replace B1:=e2.block B1
 replace hsz1:=blk_lt B1
 clear a0 a1 a2 d0 d1
 obtain⟨a0,a1,a2,-⟩:=cells3 B0
 obtain⟨d0,d1,-⟩:=cells2 B1
 clear e2
 go_wp2_with (go_at_call 27; refine Hid.out ?_)
 refine (r2_shortMatrix (hIC.ext hE) 14 rfl (by omega)).mono ?_
 rintro e w3 ⟨rfl,e3⟩
 rw [HM.out]
 replace hE:=hE.trans e3
 replace B0:=e3.block B0
 replace B1:=e3.block B1
 replace hsz1:=blk_lt B1
 clear a0 a1 a2 d0 d1
 obtain⟨a0,a1,a2,-⟩:=cells3 B0
 obtain⟨d0,d1,-⟩:=cells2 B1
 clear e3
 go_wp2_with (go_at_call 12; refine Hid.out ?_)
 refine (r2_short (hID.ext hE) 14 rfl (by omega)).mono ?_
 rintro e w3 ⟨rfl,e3⟩
 rw [HD.out]
 replace hE:=hE.trans e3
 replace B0:=e3.block B0
 replace B1:=e3.block B1
 replace hsz1:=blk_lt B1
 clear a0 a1 a2 d0 d1
 obtain⟨a0,a1,a2,-⟩:=cells3 B0
 obtain⟨d0,d1,-⟩:=cells2 B1
 clear e3
 go_wp2_with (go_at_call 12; refine Hid.out ?_)
 refine (r2_short (hIR.ext hE) 8 rfl (by omega)).mono ?_
 rintro e w3 ⟨rfl,e3⟩
 rw [HR.out]
 replace hE:=hE.trans e3
 replace B0:=e3.block B0
 replace B1:=e3.block B1
 replace hsz1:=blk_lt B1
 clear a0 a1 a2 d0 d1
 obtain⟨a0,a1,a2,-⟩:=cells3 B0
 obtain⟨d0,d1,-⟩:=cells2 B1
 clear e3
 go_wp2_with (go_at_call 28; refine Hid.out ?_)
 refine (n_Constrained (q:=17) (Q:=365) (P:=7) (h1.ext hE) (h2.ext hE) (h3.ext hE) (h4.ext hE) (h5.ext hE) hm0 (by omega) hn0 (by omega) hk0 (by omega) HPOS.out HX.out HY.out HP.out (fun i hi j hj=>(HKC.out i hi j hj).mono (by omega)) (fun i hi=>(HKD.out i hi).mono (by omega)) (by omega) (by omega) HK5.out).mono ?_
 rw [←hrk.out,←hSOL.out]
 rintro e w4 ⟨e4,hh⟩
 cases hok':ok with
 | false =>
  rcases hh with ⟨-,rfl⟩ | ⟨h0,-⟩
  case inr=>exact absurd (HOK0.out hok') h0
  replace hE:=hE.trans e4
  replace B0:=e4.block B0
  replace B1:=e4.block B1
  replace hsz1:=blk_lt B1
  clear a0 a1 a2 d0 d1
  obtain⟨a0,a1,a2,-⟩:=cells3 B0
  obtain⟨d0,d1,-⟩:=cells2 B1
  go_wp2_with (go_at_call 14; refine Hid.out ?_)
  refine (l34_checked (hI.ext hE) HF2.out HF3.out).mono ?_
  rw [HC.out]
  rintro e w5 ⟨rfl,e5⟩
  replace hE:=hE.trans e5
  replace B0:=e5.block B0
  replace B1:=e5.block B1
  replace hsz1:=blk_lt B1
  clear a0 a1 a2 d0 d1
  obtain⟨a0,a1,a2,-⟩:=cells3 B0
  obtain⟨d0,d1,-⟩:=cells2 B1
  go_wp2_with (go_at_call 29; refine Hid.out ?_)
  refine (l34_constrainedCode (h1.ext hE) (h2.ext hE) (h3.ext hE) (hIC.ext hE) (hID.ext hE) hm0 HCS.out HDS.out).mono ?_
  rw [HB.out]
  rintro e w6 ⟨rfl,e6⟩
  replace hE:=hE.trans e6
  replace B0:=e6.block B0
  replace B1:=e6.block B1
  replace hsz1:=blk_lt B1
  clear a0 a1 a2 d0 d1
  obtain⟨a0,a1,a2,-⟩:=cells3 B0
  obtain⟨d0,d1,-⟩:=cells2 B1
  go_wp2_with (go_at_call 30; refine Hid.out ?_)
  refine (l34_constrained (q:=17) (Q:=365) (P:=PP) (h1.ext hE) (h2.ext hE) (h3.ext hE) (h4.ext hE) (h5.ext hE) hm0 (by omega) hn0 (by omega) hk0 (by omega) HX.out HY.out HP.out (fun i hi j hj=>(HKC.out i hi j hj).mono (by omega)) (fun i hi=>(HKD.out i hi).mono (by omega)) (by omega) HPP.out (by omega)).mono ?_
  rw [←hok.out,←hIV.out,hok']
  rintro e w7 ⟨e7,hh⟩
  rcases hh with ⟨-,rfl⟩ | ⟨h0,-⟩
  case inr=>cases h0
  go_wp2
  go_ret
  exact⟨rfl,hE.trans e7⟩
 | true =>
 have hrk':=HOK1.out hok'
 have HE1:=Lib.hid (HIV.out hrk')
 have HE2:=Lib.hid (HCX.out hrk')
 have HE3:=Lib.hid (HMIN.out hrk')
 rcases hh with ⟨h0,-⟩ | ⟨-,A7,c7,A8,c8,rfl,h7,h8⟩
 ·exact absurd h0 (by omega)
 clear HIV HCX HMIN HOK0 HOK1 HREG
 replace h7:=LsV.all h7
 replace h8:=LsV.all h8
 replace hE:=hE.trans e4
 replace B0:=e4.block B0
 replace B1:=e4.block B1
 replace hsz1:=blk_lt B1
 clear a0 a1 a2 d0 d1
 obtain⟨a0,a1,a2,-⟩:=cells3 B0
 obtain⟨d0,d1,-⟩:=cells2 B1
 go_wp2_with (go_at_call 14; refine Hid.out ?_)
 refine (l34_checked (hI.ext hE) HF2.out HF3.out).mono ?_
 rw [HC.out]
 rintro e w5 ⟨rfl,e5⟩
 replace h7:=LsV.all (h7.ext e5)
 replace h8:=LsV.all (h8.ext e5)
 replace hE:=hE.trans e5
 replace B0:=e5.block B0
 replace B1:=e5.block B1
 replace hsz1:=blk_lt B1
 clear a0 a1 a2 d0 d1
 obtain⟨a0,a1,a2,-⟩:=cells3 B0
 obtain⟨d0,d1,-⟩:=cells2 B1
 go_wp2_with (go_at_call 29; refine Hid.out ?_)
 refine (l34_constrainedCode (h1.ext hE) (h2.ext hE) (h3.ext hE) (hIC.ext hE) (hID.ext hE) hm0 HCS.out HDS.out).mono ?_
 rw [HB.out]
 rintro e w6 ⟨rfl,e6⟩
 replace h7:=LsV.all (h7.ext e6)
 replace h8:=LsV.all (h8.ext e6)
 replace hE:=hE.trans e6
 replace B0:=e6.block B0
 replace B1:=e6.block B1
 replace hsz1:=blk_lt B1
 clear a0 a1 a2 d0 d1
 obtain⟨a0,a1,a2,-⟩:=cells3 B0
 obtain⟨d0,d1,-⟩:=cells2 B1
 go_wp2_with (go_at_call 30; refine Hid.out ?_)
 refine (l34_constrained (q:=17) (Q:=365) (P:=PP) (h1.ext hE) (h2.ext hE) (h3.ext hE) (h4.ext hE) (h5.ext hE) hm0 (by omega) hn0 (by omega) hk0 (by omega) HX.out HY.out HP.out (fun i hi j hj=>(HKC.out i hi j hj).mono (by omega)) (fun i hi=>(HKD.out i hi).mono (by omega)) (by omega) HPP.out (by omega)).mono ?_
 rw [←hok.out,←hIV.out,hok']
 rintro e w7 ⟨e7,hh⟩
 rcases hh with ⟨h0,-⟩ | ⟨-,A9,c9,A10,c10,rfl,h9,h10⟩
 ·cases h0
 replace h7:=LsV.all (h7.ext e7)
 replace h8:=LsV.all (h8.ext e7)
 replace hE:=hE.trans e7
 replace B0:=e7.block B0
 replace B1:=e7.block B1
 replace hsz1:=blk_lt B1
 clear a0 a1 a2 d0 d1
 obtain⟨a0,a1,a2,-⟩:=cells3 B0
 obtain⟨d0,d1,-⟩:=cells2 B1
 clear e4 e5 e6 e7
 go_upto_region 14 with (fail)
 refine region_inv [Mn.eq (.int .i64 0),Mn.eq (.bool false),Mn.eq (.bool false),Mn.eq (.slice A7 n c7),Mn.eq (.slice A9 n c9),Mn.eq (.bool true),Mn.eq (.bool false),Mn.eq (.bool false),Mn.eq (.bool false),Mn.eq (.slice A8 k c8),Mn.eq (.slice A10 k c10),Mn.eq (.bool true),Mn.eq (.bool false),Mn.eq (.bool false),Mn.eq (.bool false),Mn.eq (.pointer (some ⟨w.heap.size+1,0,none⟩)),Mn.eq (.slice A4 k c4),Mn.eq (.slice A7 n c7),Mn.ls N k (fun t=>sum n (fun c=>C0 t c*SOL c)),Mn.eq (.pointer (some ⟨w.heap.size+1,1,none⟩)),Mn.eq (.slice A5 k c5),Mn.eq (.bool true),Mn.eq (.bool false),Mn.eq (.bool false)] [some 107,some 108,some 109,some 110,some 111,some 112,some 113,some 114,some 115,some 116,some 117,some 118,some 119,some 120,some 121,some 122,some 123,some 124,some 125,some 126,some 127,some 128,some 129,some 130] [] [true,true,true,true,true,true,true,true,true,true,true,true,true,true,true,true,true,true,true,true,true,true,true,true] 0 (by kernel_rfl) (by kernel_rfl) (by kernel_rfl) (by kernel_rfl) (by kernel_rfl) (by kernel_rfl) (by kernel_rfl) (by kernel_rfl) ?_ ?_
 ·intro i hi hl
  have hi':i=0∨i=1∨i=2∨i=3∨i=4∨i=5∨i=6∨i=7∨i=8∨i=9∨i=10∨i=11∨i=12∨i=13∨i=14∨i=15∨i=16∨i=17∨i=18∨i=19∨i=20∨i=21∨i=22∨i=23:=by have h9:i < 24:=hi; omega
  clear hi
  rcases hi' with rfl | rfl | rfl | rfl | rfl | rfl | rfl | rfl | rfl | rfl | rfl | rfl | rfl | rfl | rfl | rfl | rfl | rfl | rfl | rfl | rfl | rfl | rfl | rfl
  ·clear hl
   refine stp rfl ?_
   intro ac wi eI hB hA K hK
   have o9:=hB 9 (by kernel_rfl)
   simp only [List.getElem?_toArray,List.getElem?_cons_succ,List.getElem?_cons_zero] at o9
   clear hB hA
   go_simp
   exact hK.out _ _ (Ext.refl _) rfl
  ·clear hl
   refine stp rfl ?_
   intro ac wi eI hB hA K hK
   obtain⟨x107,s107,j107⟩:=hA 0 (by kernel_rfl) 107 rfl
   obtain rfl:x107=(.int .i64 0):=j107
   clear hB hA
   go_simp
   exact hK.out _ _ (Ext.refl _) rfl
  ·clear hl
   refine stp rfl ?_
   intro ac wi eI hB hA K hK
   obtain⟨x108,s108,j108⟩:=hA 1 (by kernel_rfl) 108 rfl
   obtain rfl:x108=(.bool false):=j108
   clear hB hA
   go_simp
   exact hK.out _ _ (Ext.refl _) rfl
  ·clear hl
   refine stp rfl ?_
   intro ac wi eI hB hA K hK
   obtain⟨x109,s109,j109⟩:=hA 2 (by kernel_rfl) 109 rfl
   obtain rfl:x109=(.bool false):=j109
   have o7:=hB 7 (by kernel_rfl)
   simp only [List.getElem?_toArray,List.getElem?_cons_succ,List.getElem?_cons_zero] at o7
   clear hB hA
   rw [if_pos (by simp [Region.wanted,yielded,s109])]
   go_simp
   exact hK.out _ _ (Ext.refl _) rfl
  ·clear hl
   refine stp rfl ?_
   intro ac wi eI hB hA K hK
   obtain⟨x109,s109,j109⟩:=hA 2 (by kernel_rfl) 109 rfl
   obtain rfl:x109=(.bool false):=j109
   have o11:=hB 11 (by kernel_rfl)
   simp only [List.getElem?_toArray,List.getElem?_cons_succ,List.getElem?_cons_zero] at o11
   clear hB hA
   rw [if_pos (by simp [Region.wanted,yielded,s109])]
   go_simp
   exact hK.out _ _ (Ext.refl _) rfl
  ·clear hl
   refine stp rfl ?_
   intro ac wi eI hB hA K hK
   obtain⟨x109,s109,j109⟩:=hA 2 (by kernel_rfl) 109 rfl
   obtain rfl:x109=(.bool false):=j109
   obtain⟨x110,s110,j110⟩:=hA 3 (by kernel_rfl) 110 rfl
   obtain rfl:x110=(.slice A7 n c7):=j110
   obtain⟨x111,s111,j111⟩:=hA 4 (by kernel_rfl) 111 rfl
   obtain rfl:x111=(.slice A9 n c9):=j111
   clear hB hA
   rw [if_pos (by simp [Region.wanted,yielded,s109])]
   go_simp
   refine (r2_sameList (h7.ext eI) (h9.ext eI) (fun i hi=>(HSH.out i (by omega)).sz (by omega)) (fun i hi=>HE1.out i (by omega))).mono ?_
   rintro e wj ⟨rfl,ej⟩
   go_wp2_with fail
   exact hK.out _ _ ej rfl
  ·clear hl
   refine stp rfl ?_
   intro ac wi eI hB hA K hK
   obtain⟨x109,s109,j109⟩:=hA 2 (by kernel_rfl) 109 rfl
   obtain rfl:x109=(.bool false):=j109
   obtain⟨x112,s112,j112⟩:=hA 5 (by kernel_rfl) 112 rfl
   obtain rfl:x112=(.bool true):=j112
   clear hB hA
   rw [if_pos (by simp [Region.wanted,yielded,s109])]
   go_simp
   exact hK.out _ _ (Ext.refl _) rfl
  ·clear hl
   refine stp rfl ?_
   intro ac wi eI hB hA K hK
   obtain⟨x109,s109,j109⟩:=hA 2 (by kernel_rfl) 109 rfl
   obtain rfl:x109=(.bool false):=j109
   obtain⟨x113,s113,j113⟩:=hA 6 (by kernel_rfl) 113 rfl
   obtain rfl:x113=(.bool false):=j113
   clear hB hA
   go_simp
   exact hK.out _ _ (Ext.refl _) rfl
  ·clear hl
   refine stp rfl ?_
   intro ac wi eI hB hA K hK
   obtain⟨x114,s114,j114⟩:=hA 7 (by kernel_rfl) 114 rfl
   obtain rfl:x114=(.bool false):=j114
   clear hB hA
   go_simp
   exact hK.out _ _ (Ext.refl _) rfl
  ·clear hl
   refine stp rfl ?_
   intro ac wi eI hB hA K hK
   obtain⟨x115,s115,j115⟩:=hA 8 (by kernel_rfl) 115 rfl
   obtain rfl:x115=(.bool false):=j115
   have o8:=hB 8 (by kernel_rfl)
   simp only [List.getElem?_toArray,List.getElem?_cons_succ,List.getElem?_cons_zero] at o8
   clear hB hA
   rw [if_pos (by simp [Region.wanted,yielded,s115])]
   go_simp
   exact hK.out _ _ (Ext.refl _) rfl
  ·clear hl
   refine stp rfl ?_
   intro ac wi eI hB hA K hK
   obtain⟨x115,s115,j115⟩:=hA 8 (by kernel_rfl) 115 rfl
   obtain rfl:x115=(.bool false):=j115
   have o12:=hB 12 (by kernel_rfl)
   simp only [List.getElem?_toArray,List.getElem?_cons_succ,List.getElem?_cons_zero] at o12
   clear hB hA
   rw [if_pos (by simp [Region.wanted,yielded,s115])]
   go_simp
   exact hK.out _ _ (Ext.refl _) rfl
  ·clear hl
   refine stp rfl ?_
   intro ac wi eI hB hA K hK
   obtain⟨x115,s115,j115⟩:=hA 8 (by kernel_rfl) 115 rfl
   obtain rfl:x115=(.bool false):=j115
   obtain⟨x116,s116,j116⟩:=hA 9 (by kernel_rfl) 116 rfl
   obtain rfl:x116=(.slice A8 k c8):=j116
   obtain⟨x117,s117,j117⟩:=hA 10 (by kernel_rfl) 117 rfl
   obtain rfl:x117=(.slice A10 k c10):=j117
   clear hB hA
   rw [if_pos (by simp [Region.wanted,yielded,s115])]
   go_simp
   refine (r2_sameList (h8.ext eI) (h10.ext eI) (fun i hi=>(HSH.out (n+i) (by omega)).sz (by omega)) (fun i hi=>HE1.out (n+i) (by omega))).mono ?_
   rintro e wj ⟨rfl,ej⟩
   go_wp2_with fail
   exact hK.out _ _ ej rfl
  ·clear hl
   refine stp rfl ?_
   intro ac wi eI hB hA K hK
   obtain⟨x115,s115,j115⟩:=hA 8 (by kernel_rfl) 115 rfl
   obtain rfl:x115=(.bool false):=j115
   obtain⟨x118,s118,j118⟩:=hA 11 (by kernel_rfl) 118 rfl
   obtain rfl:x118=(.bool true):=j118
   clear hB hA
   rw [if_pos (by simp [Region.wanted,yielded,s115])]
   go_simp
   exact hK.out _ _ (Ext.refl _) rfl
  ·clear hl
   refine stp rfl ?_
   intro ac wi eI hB hA K hK
   obtain⟨x115,s115,j115⟩:=hA 8 (by kernel_rfl) 115 rfl
   obtain rfl:x115=(.bool false):=j115
   obtain⟨x119,s119,j119⟩:=hA 12 (by kernel_rfl) 119 rfl
   obtain rfl:x119=(.bool false):=j119
   clear hB hA
   go_simp
   exact hK.out _ _ (Ext.refl _) rfl
  ·clear hl
   refine stp rfl ?_
   intro ac wi eI hB hA K hK
   obtain⟨x120,s120,j120⟩:=hA 13 (by kernel_rfl) 120 rfl
   obtain rfl:x120=(.bool false):=j120
   clear hB hA
   go_simp
   exact hK.out _ _ (Ext.refl _) rfl
  ·clear hl
   refine stp rfl ?_
   intro ac wi eI hB hA K hK
   obtain⟨x121,s121,j121⟩:=hA 14 (by kernel_rfl) 121 rfl
   obtain rfl:x121=(.bool false):=j121
   have o4:=hB 4 (by kernel_rfl)
   simp only [List.getElem?_toArray,List.getElem?_cons_succ,List.getElem?_cons_zero] at o4
   clear hB hA
   rw [if_pos (by simp [Region.wanted,yielded,s121])]
   go_simp
   exact hK.out _ _ (Ext.refl _) rfl
  ·clear hl
   refine stp rfl ?_
   intro ac wi eI hB hA K hK
   obtain⟨x121,s121,j121⟩:=hA 14 (by kernel_rfl) 121 rfl
   obtain rfl:x121=(.bool false):=j121
   obtain⟨x122,s122,j122⟩:=hA 15 (by kernel_rfl) 122 rfl
   obtain rfl:x122=(.pointer (some ⟨w.heap.size+1,0,none⟩)):=j122
   clear hB hA
   rw [if_pos (by simp [Region.wanted,yielded,s121])]
   have cc0:=eI.cell a0
   have cc1:=eI.cell a1
   have cc2:=eI.cell a2
   have cc3:=eI.cell d0
   have cc4:=eI.cell d1
   go_simp
   exact hK.out _ _ (Ext.refl _) rfl
  ·clear hl
   refine stp rfl ?_
   intro ac wi eI hB hA K hK
   obtain⟨x121,s121,j121⟩:=hA 14 (by kernel_rfl) 121 rfl
   obtain rfl:x121=(.bool false):=j121
   have o7:=hB 7 (by kernel_rfl)
   simp only [List.getElem?_toArray,List.getElem?_cons_succ,List.getElem?_cons_zero] at o7
   clear hB hA
   rw [if_pos (by simp [Region.wanted,yielded,s121])]
   go_simp
   exact hK.out _ _ (Ext.refl _) rfl
  ·clear hl
   refine stp rfl ?_
   intro ac wi eI hB hA K hK
   obtain⟨x121,s121,j121⟩:=hA 14 (by kernel_rfl) 121 rfl
   obtain rfl:x121=(.bool false):=j121
   obtain⟨x123,s123,j123⟩:=hA 16 (by kernel_rfl) 123 rfl
   obtain rfl:x123=(.slice A4 k c4):=j123
   obtain⟨x124,s124,j124⟩:=hA 17 (by kernel_rfl) 124 rfl
   obtain rfl:x124=(.slice A7 n c7):=j124
   clear hB hA
   rw [if_pos (by simp [Region.wanted,yielded,s121])]
   go_simp
   refine (r5_apply (h4.ext (hE.trans eI)) (h7.ext eI) (by omega) hn0 (by omega) HKC.out (fun t ht=>HSH.out t (by omega)) (by omega)).mono ?_
   rintro e wj ⟨Aj,cj,rfl,hj,ej⟩
   go_wp2_with fail
   exact hK.out _ _ ej (LsV.all hj)
  ·clear hl
   refine stp rfl ?_
   intro ac wi eI hB hA K hK
   obtain⟨x121,s121,j121⟩:=hA 14 (by kernel_rfl) 121 rfl
   obtain rfl:x121=(.bool false):=j121
   have o4:=hB 4 (by kernel_rfl)
   simp only [List.getElem?_toArray,List.getElem?_cons_succ,List.getElem?_cons_zero] at o4
   clear hB hA
   rw [if_pos (by simp [Region.wanted,yielded,s121])]
   go_simp
   exact hK.out _ _ (Ext.refl _) rfl
  ·clear hl
   refine stp rfl ?_
   intro ac wi eI hB hA K hK
   obtain⟨x121,s121,j121⟩:=hA 14 (by kernel_rfl) 121 rfl
   obtain rfl:x121=(.bool false):=j121
   obtain⟨x126,s126,j126⟩:=hA 19 (by kernel_rfl) 126 rfl
   obtain rfl:x126=(.pointer (some ⟨w.heap.size+1,1,none⟩)):=j126
   clear hB hA
   rw [if_pos (by simp [Region.wanted,yielded,s121])]
   have cc0:=eI.cell a0
   have cc1:=eI.cell a1
   have cc2:=eI.cell a2
   have cc3:=eI.cell d0
   have cc4:=eI.cell d1
   go_simp
   exact hK.out _ _ (Ext.refl _) rfl
  ·clear hl
   refine stp rfl ?_
   intro ac wi eI hB hA K hK
   obtain⟨x121,s121,j121⟩:=hA 14 (by kernel_rfl) 121 rfl
   obtain rfl:x121=(.bool false):=j121
   obtain⟨x125,s125,j125⟩:=hA 18 (by kernel_rfl) 125 rfl
   replace j125:Mn.p (Mn.ls N k (fun t=>sum n (fun c=>C0 t c*SOL c))) x125 wi:=j125
   obtain⟨x127,s127,j127⟩:=hA 20 (by kernel_rfl) 127 rfl
   obtain rfl:x127=(.slice A5 k c5):=j127
   clear hB hA
   rw [if_pos (by simp [Region.wanted,yielded,s121])]
   obtain⟨Q9,l9,rfl,-⟩:=LsV.form j125
   go_simp
   refine (r2_sameList j125 (h5.ext (hE.trans eI)) (fun i hi=>by rw [HE2.out i hi]; exact (HKD.out i hi).sz (by omega)) HE2.out).mono ?_
   rintro e wj ⟨rfl,ej⟩
   go_wp2_with fail
   exact hK.out _ _ ej rfl
  ·clear hl
   refine stp rfl ?_
   intro ac wi eI hB hA K hK
   obtain⟨x121,s121,j121⟩:=hA 14 (by kernel_rfl) 121 rfl
   obtain rfl:x121=(.bool false):=j121
   obtain⟨x128,s128,j128⟩:=hA 21 (by kernel_rfl) 128 rfl
   obtain rfl:x128=(.bool true):=j128
   clear hB hA
   rw [if_pos (by simp [Region.wanted,yielded,s121])]
   go_simp
   exact hK.out _ _ (Ext.refl _) rfl
  ·clear hl
   refine stp rfl ?_
   intro ac wi eI hB hA K hK
   obtain⟨x121,s121,j121⟩:=hA 14 (by kernel_rfl) 121 rfl
   obtain rfl:x121=(.bool false):=j121
   obtain⟨x129,s129,j129⟩:=hA 22 (by kernel_rfl) 129 rfl
   obtain rfl:x129=(.bool false):=j129
   clear hB hA
   go_simp
   exact hK.out _ _ (Ext.refl _) rfl
 intro vals wz eZ hJ
 have J107:vals 0=(.int .i64 0):=hJ 0 (by decide) (by decide)
 have J108:vals 1=(.bool false):=hJ 1 (by decide) (by decide)
 have J109:vals 2=(.bool false):=hJ 2 (by decide) (by decide)
 have J110:vals 3=(.slice A7 n c7):=hJ 3 (by decide) (by decide)
 have J111:vals 4=(.slice A9 n c9):=hJ 4 (by decide) (by decide)
 have J112:vals 5=(.bool true):=hJ 5 (by decide) (by decide)
 have J113:vals 6=(.bool false):=hJ 6 (by decide) (by decide)
 have J114:vals 7=(.bool false):=hJ 7 (by decide) (by decide)
 have J115:vals 8=(.bool false):=hJ 8 (by decide) (by decide)
 have J116:vals 9=(.slice A8 k c8):=hJ 9 (by decide) (by decide)
 have J117:vals 10=(.slice A10 k c10):=hJ 10 (by decide) (by decide)
 have J118:vals 11=(.bool true):=hJ 11 (by decide) (by decide)
 have J119:vals 12=(.bool false):=hJ 12 (by decide) (by decide)
 have J120:vals 13=(.bool false):=hJ 13 (by decide) (by decide)
 have J121:vals 14=(.bool false):=hJ 14 (by decide) (by decide)
 have J122:vals 15=(.pointer (some ⟨w.heap.size+1,0,none⟩)):=hJ 15 (by decide) (by decide)
 have J123:vals 16=(.slice A4 k c4):=hJ 16 (by decide) (by decide)
 have J124:vals 17=(.slice A7 n c7):=hJ 17 (by decide) (by decide)
 have J125:Mn.p (Mn.ls N k (fun t=>sum n (fun c=>C0 t c*SOL c))) (vals 18) wz:=hJ 18 (by decide) (by decide)
 have J126:vals 19=(.pointer (some ⟨w.heap.size+1,1,none⟩)):=hJ 19 (by decide) (by decide)
 have J127:vals 20=(.slice A5 k c5):=hJ 20 (by decide) (by decide)
 have J128:vals 21=(.bool true):=hJ 21 (by decide) (by decide)
 have J129:vals 22=(.bool false):=hJ 22 (by decide) (by decide)
 have J130:vals 23=(.bool false):=hJ 23 (by decide) (by decide)
 clear hJ
 simp only [putAll,if_true,Bool.false_eq_true,if_false,Act.put,Nat.zero_add,Nat.reduceAdd,List.setIfInBounds_toArray,List.set_cons_zero,List.set_cons_succ,J107,J108,J109,J110,J111,J112,J113,J114,J115,J116,J117,J118,J119,J120,J121,J122,J123,J124,J126,J127,J128,J129,J130]
 clear J107 J108 J109 J110 J111 J112 J113 J114 J115 J116 J117 J118 J119 J120 J121 J122 J123 J124 J126 J127 J128 J129 J130
 generalize vals 18=z125 at J125 ⊢
 refine stepL_done (by kernel_rfl) ?_ _
 clear J125
 replace h7:=LsV.all (h7.ext eZ)
 clear h8 h9 h10
 obtain⟨wq,hwq⟩:∃ wq,wq=wz:=⟨_,rfl⟩
 subst hwq
 replace hE:=hE.trans eZ
 replace B0:=eZ.block B0
 replace B1:=eZ.block B1
 replace hsz1:=blk_lt B1
 clear a0 a1 a2 d0 d1
 obtain⟨a0,a1,a2,-⟩:=cells3 B0
 obtain⟨d0,d1,-⟩:=cells2 B1
 clear eZ
 have hXE:=hIR.ext hE
 obtain⟨f8,fall⟩:=shB_all HR.out
 have HBR:=Lib.hid fall
 clear fall
 obtain⟨s,hsv⟩:=hid_eq (allB nx (fun i=>okR (R i)))
 go_upto_region 16 with (fail)
 by_cases hnx:nx=n
 case neg =>
  have t2:((nx:Int) != (n:Int))=true:=by rw [bne_iff_ne]; omega
  refine region_inv [Mn.eq (.slice A6 nx c6),Mn.eq (.int .i64 (nx:Int)),Mn.eq (.slice A7 n c7),Mn.eq (.int .i64 (n:Int)),Mn.eq (.bool true),Mn.eq (.bool true),Mn.any,Mn.any,Mn.any,Mn.eq (.bool true),Mn.eq (.bool true),Mn.any,Mn.any,Mn.any,Mn.any,Mn.any,Mn.any,Mn.any,Mn.any,Mn.eq (.bool true)] [some 131,some 132,some 133,some 134,some 135,some 136,some 137,some 138,some 139,some 140,some 141,some 142,some 143,some 144,some 145,some 146,some 147,some 148,some 149,some 150] [] [true,true,true,true,true,true,true,true,true,true,true,true,true,true,true,true,true,true,true,true] 0 (by kernel_rfl) (by kernel_rfl) (by kernel_rfl) (by kernel_rfl) (by kernel_rfl) (by kernel_rfl) (by kernel_rfl) (by kernel_rfl) ?_ ?_
  ·intro i hi hl
   have hi':i=0∨i=1∨i=2∨i=3∨i=4∨i=5∨i=6∨i=7∨i=8∨i=9∨i=10∨i=11∨i=12∨i=13∨i=14∨i=15∨i=16∨i=17∨i=18∨i=19:=by have h9:i < 20:=hi; omega
   clear hi
   rcases hi' with rfl | rfl | rfl | rfl | rfl | rfl | rfl | rfl | rfl | rfl | rfl | rfl | rfl | rfl | rfl | rfl | rfl | rfl | rfl | rfl
   ·clear hl
    refine stp rfl ?_
    intro ac wi eI hB hA K hK
    have o2:=hB 2 (by kernel_rfl)
    simp only [List.getElem?_toArray,List.getElem?_cons_succ,List.getElem?_cons_zero] at o2
    clear hB hA
    go_simp
    exact hK.out _ _ (Ext.refl _) rfl
   ·clear hl
    refine stp rfl ?_
    intro ac wi eI hB hA K hK
    obtain⟨x131,s131,j131⟩:=hA 0 (by kernel_rfl) 131 rfl
    obtain rfl:x131=(.slice A6 nx c6):=j131
    clear hB hA
    go_simp
    exact hK.out _ _ (Ext.refl _) rfl
   ·clear hl
    refine stp rfl ?_
    intro ac wi eI hB hA K hK
    have o7:=hB 7 (by kernel_rfl)
    simp only [List.getElem?_toArray,List.getElem?_cons_succ,List.getElem?_cons_zero] at o7
    clear hB hA
    go_simp
    exact hK.out _ _ (Ext.refl _) rfl
   ·clear hl
    refine stp rfl ?_
    intro ac wi eI hB hA K hK
    obtain⟨x133,s133,j133⟩:=hA 2 (by kernel_rfl) 133 rfl
    obtain rfl:x133=(.slice A7 n c7):=j133
    clear hB hA
    go_simp
    exact hK.out _ _ (Ext.refl _) rfl
   ·clear hl
    refine stp rfl ?_
    intro ac wi eI hB hA K hK
    obtain⟨x132,s132,j132⟩:=hA 1 (by kernel_rfl) 132 rfl
    obtain rfl:x132=(.int .i64 (nx:Int)):=j132
    obtain⟨x134,s134,j134⟩:=hA 3 (by kernel_rfl) 134 rfl
    obtain rfl:x134=(.int .i64 (n:Int)):=j134
    clear hB hA
    go_simp
    exact hK.out _ _ (Ext.refl _) rfl
   ·clear hl
    refine stp rfl ?_
    intro ac wi eI hB hA K hK
    obtain⟨x135,s135,j135⟩:=hA 4 (by kernel_rfl) 135 rfl
    obtain rfl:x135=(.bool true):=j135
    clear hB hA
    go_simp
    exact hK.out _ _ (Ext.refl _) rfl
   ·clear hl
    refine stp rfl ?_
    intro ac wi eI hB hA K hK
    obtain⟨x136,s136,j136⟩:=hA 5 (by kernel_rfl) 136 rfl
    obtain rfl:x136=(.bool true):=j136
    clear hB hA
    rw [if_neg (by simp [Region.wanted,yielded,s136])]
    exact hK.out _ _ (Ext.refl _) trivial
   ·clear hl
    refine stp rfl ?_
    intro ac wi eI hB hA K hK
    obtain⟨x136,s136,j136⟩:=hA 5 (by kernel_rfl) 136 rfl
    obtain rfl:x136=(.bool true):=j136
    clear hB hA
    rw [if_neg (by simp [Region.wanted,yielded,s136])]
    exact hK.out _ _ (Ext.refl _) trivial
   ·clear hl
    refine stp rfl ?_
    intro ac wi eI hB hA K hK
    obtain⟨x136,s136,j136⟩:=hA 5 (by kernel_rfl) 136 rfl
    obtain rfl:x136=(.bool true):=j136
    clear hB hA
    rw [if_neg (by simp [Region.wanted,yielded,s136])]
    exact hK.out _ _ (Ext.refl _) trivial
   ·clear hl
    refine stp rfl ?_
    intro ac wi eI hB hA K hK
    obtain⟨x136,s136,j136⟩:=hA 5 (by kernel_rfl) 136 rfl
    obtain rfl:x136=(.bool true):=j136
    obtain⟨x139,s139,j139⟩:=hA 8 (by kernel_rfl) 139 rfl
    replace j139:Mn.p (Mn.any) x139 wi:=j139
    clear hB hA
    go_simp
    exact hK.out _ _ (Ext.refl _) rfl
   ·clear hl
    refine stp rfl ?_
    intro ac wi eI hB hA K hK
    obtain⟨x140,s140,j140⟩:=hA 9 (by kernel_rfl) 140 rfl
    obtain rfl:x140=(.bool true):=j140
    clear hB hA
    go_simp
    exact hK.out _ _ (Ext.refl _) rfl
   ·clear hl
    refine stp rfl ?_
    intro ac wi eI hB hA K hK
    obtain⟨x141,s141,j141⟩:=hA 10 (by kernel_rfl) 141 rfl
    obtain rfl:x141=(.bool true):=j141
    clear hB hA
    rw [if_neg (by simp [Region.wanted,yielded,s141])]
    exact hK.out _ _ (Ext.refl _) trivial
   ·clear hl
    refine stp rfl ?_
    intro ac wi eI hB hA K hK
    obtain⟨x141,s141,j141⟩:=hA 10 (by kernel_rfl) 141 rfl
    obtain rfl:x141=(.bool true):=j141
    clear hB hA
    rw [if_neg (by simp [Region.wanted,yielded,s141])]
    exact hK.out _ _ (Ext.refl _) trivial
   ·clear hl
    refine stp rfl ?_
    intro ac wi eI hB hA K hK
    obtain⟨x141,s141,j141⟩:=hA 10 (by kernel_rfl) 141 rfl
    obtain rfl:x141=(.bool true):=j141
    clear hB hA
    rw [if_neg (by simp [Region.wanted,yielded,s141])]
    exact hK.out _ _ (Ext.refl _) trivial
   ·clear hl
    refine stp rfl ?_
    intro ac wi eI hB hA K hK
    obtain⟨x141,s141,j141⟩:=hA 10 (by kernel_rfl) 141 rfl
    obtain rfl:x141=(.bool true):=j141
    clear hB hA
    rw [if_neg (by simp [Region.wanted,yielded,s141])]
    exact hK.out _ _ (Ext.refl _) trivial
   ·clear hl
    refine stp rfl ?_
    intro ac wi eI hB hA K hK
    obtain⟨x141,s141,j141⟩:=hA 10 (by kernel_rfl) 141 rfl
    obtain rfl:x141=(.bool true):=j141
    clear hB hA
    rw [if_neg (by simp [Region.wanted,yielded,s141])]
    exact hK.out _ _ (Ext.refl _) trivial
   ·clear hl
    refine stp rfl ?_
    intro ac wi eI hB hA K hK
    obtain⟨x141,s141,j141⟩:=hA 10 (by kernel_rfl) 141 rfl
    obtain rfl:x141=(.bool true):=j141
    clear hB hA
    rw [if_neg (by simp [Region.wanted,yielded,s141])]
    exact hK.out _ _ (Ext.refl _) trivial
   ·clear hl
    refine stp rfl ?_
    intro ac wi eI hB hA K hK
    obtain⟨x141,s141,j141⟩:=hA 10 (by kernel_rfl) 141 rfl
    obtain rfl:x141=(.bool true):=j141
    clear hB hA
    rw [if_neg (by simp [Region.wanted,yielded,s141])]
    exact hK.out _ _ (Ext.refl _) trivial
   ·clear hl
    refine stp rfl ?_
    intro ac wi eI hB hA K hK
    obtain⟨x141,s141,j141⟩:=hA 10 (by kernel_rfl) 141 rfl
    obtain rfl:x141=(.bool true):=j141
    clear hB hA
    rw [if_neg (by simp [Region.wanted,yielded,s141])]
    exact hK.out _ _ (Ext.refl _) trivial
   ·clear hl
    refine stp rfl ?_
    intro ac wi eI hB hA K hK
    obtain⟨x141,s141,j141⟩:=hA 10 (by kernel_rfl) 141 rfl
    obtain rfl:x141=(.bool true):=j141
    obtain⟨x149,s149,j149⟩:=hA 18 (by kernel_rfl) 149 rfl
    replace j149:Mn.p (Mn.any) x149 wi:=j149
    clear hB hA
    go_simp
    exact hK.out _ _ (Ext.refl _) rfl
  intro vals wz eZ hJ
  have J131:vals 0=(.slice A6 nx c6):=hJ 0 (by decide) (by decide)
  have J132:vals 1=(.int .i64 (nx:Int)):=hJ 1 (by decide) (by decide)
  have J133:vals 2=(.slice A7 n c7):=hJ 2 (by decide) (by decide)
  have J134:vals 3=(.int .i64 (n:Int)):=hJ 3 (by decide) (by decide)
  have J135:vals 4=(.bool true):=hJ 4 (by decide) (by decide)
  have J136:vals 5=(.bool true):=hJ 5 (by decide) (by decide)
  have J140:vals 9=(.bool true):=hJ 9 (by decide) (by decide)
  have J141:vals 10=(.bool true):=hJ 10 (by decide) (by decide)
  have J150:vals 19=(.bool true):=hJ 19 (by decide) (by decide)
  clear hJ
  simp only [putAll,if_true,Bool.false_eq_true,if_false,Act.put,Nat.zero_add,Nat.reduceAdd,List.setIfInBounds_toArray,List.set_cons_zero,List.set_cons_succ,J131,J132,J133,J134,J135,J136,J140,J141,J150]
  clear J131 J132 J133 J134 J135 J136 J140 J141 J150
  generalize vals 6=z137
  generalize vals 7=z138
  generalize vals 8=z139
  generalize vals 11=z142
  generalize vals 12=z143
  generalize vals 13=z144
  generalize vals 14=z145
  generalize vals 15=z146
  generalize vals 16=z147
  generalize vals 17=z148
  generalize vals 18=z149
  refine stepL_done (by kernel_rfl) ?_ _
  go_wp2
  go_ret
  exact⟨rfl,hE.trans eZ⟩
 case pos =>
 have t2:((nx:Int) != (n:Int))=false:=by rw [hnx]; simp
 cases s with
 | false =>
  clear hnx
  refine region_inv [Mn.eq (.slice A6 nx c6),Mn.eq (.int .i64 (nx:Int)),Mn.eq (.slice A7 n c7),Mn.eq (.int .i64 (n:Int)),Mn.eq (.bool false),Mn.eq (.bool false),Mn.eq (.slice A6 nx c6),Mn.eq (.bool false),Mn.eq (.bool true),Mn.eq (.bool true),Mn.eq (.bool true),Mn.any,Mn.any,Mn.any,Mn.any,Mn.any,Mn.any,Mn.any,Mn.any,Mn.eq (.bool true)] [some 131,some 132,some 133,some 134,some 135,some 136,some 137,some 138,some 139,some 140,some 141,some 142,some 143,some 144,some 145,some 146,some 147,some 148,some 149,some 150] [] [true,true,true,true,true,true,true,true,true,true,true,true,true,true,true,true,true,true,true,true] 0 (by kernel_rfl) (by kernel_rfl) (by kernel_rfl) (by kernel_rfl) (by kernel_rfl) (by kernel_rfl) (by kernel_rfl) (by kernel_rfl) ?_ ?_
  ·intro i hi hl
   have hi':i=0∨i=1∨i=2∨i=3∨i=4∨i=5∨i=6∨i=7∨i=8∨i=9∨i=10∨i=11∨i=12∨i=13∨i=14∨i=15∨i=16∨i=17∨i=18∨i=19:=by have h9:i < 20:=hi; omega
   clear hi
   rcases hi' with rfl | rfl | rfl | rfl | rfl | rfl | rfl | rfl | rfl | rfl | rfl | rfl | rfl | rfl | rfl | rfl | rfl | rfl | rfl | rfl
   ·clear hl
    refine stp rfl ?_
    intro ac wi eI hB hA K hK
    have o2:=hB 2 (by kernel_rfl)
    simp only [List.getElem?_toArray,List.getElem?_cons_succ,List.getElem?_cons_zero] at o2
    clear hB hA
    go_simp
    exact hK.out _ _ (Ext.refl _) rfl
   ·clear hl
    refine stp rfl ?_
    intro ac wi eI hB hA K hK
    obtain⟨x131,s131,j131⟩:=hA 0 (by kernel_rfl) 131 rfl
    obtain rfl:x131=(.slice A6 nx c6):=j131
    clear hB hA
    go_simp
    exact hK.out _ _ (Ext.refl _) rfl
   ·clear hl
    refine stp rfl ?_
    intro ac wi eI hB hA K hK
    have o7:=hB 7 (by kernel_rfl)
    simp only [List.getElem?_toArray,List.getElem?_cons_succ,List.getElem?_cons_zero] at o7
    clear hB hA
    go_simp
    exact hK.out _ _ (Ext.refl _) rfl
   ·clear hl
    refine stp rfl ?_
    intro ac wi eI hB hA K hK
    obtain⟨x133,s133,j133⟩:=hA 2 (by kernel_rfl) 133 rfl
    obtain rfl:x133=(.slice A7 n c7):=j133
    clear hB hA
    go_simp
    exact hK.out _ _ (Ext.refl _) rfl
   ·clear hl
    refine stp rfl ?_
    intro ac wi eI hB hA K hK
    obtain⟨x132,s132,j132⟩:=hA 1 (by kernel_rfl) 132 rfl
    obtain rfl:x132=(.int .i64 (nx:Int)):=j132
    obtain⟨x134,s134,j134⟩:=hA 3 (by kernel_rfl) 134 rfl
    obtain rfl:x134=(.int .i64 (n:Int)):=j134
    clear hB hA
    go_simp
    exact hK.out _ _ (Ext.refl _) rfl
   ·clear hl
    refine stp rfl ?_
    intro ac wi eI hB hA K hK
    obtain⟨x135,s135,j135⟩:=hA 4 (by kernel_rfl) 135 rfl
    obtain rfl:x135=(.bool false):=j135
    clear hB hA
    go_simp
    exact hK.out _ _ (Ext.refl _) rfl
   ·clear hl
    refine stp rfl ?_
    intro ac wi eI hB hA K hK
    obtain⟨x136,s136,j136⟩:=hA 5 (by kernel_rfl) 136 rfl
    obtain rfl:x136=(.bool false):=j136
    have o2:=hB 2 (by kernel_rfl)
    simp only [List.getElem?_toArray,List.getElem?_cons_succ,List.getElem?_cons_zero] at o2
    clear hB hA
    rw [if_pos (by simp [Region.wanted,yielded,s136])]
    go_simp
    exact hK.out _ _ (Ext.refl _) rfl
   ·clear hl
    refine stp rfl ?_
    intro ac wi eI hB hA K hK
    obtain⟨x136,s136,j136⟩:=hA 5 (by kernel_rfl) 136 rfl
    obtain rfl:x136=(.bool false):=j136
    obtain⟨x137,s137,j137⟩:=hA 6 (by kernel_rfl) 137 rfl
    obtain rfl:x137=(.slice A6 nx c6):=j137
    clear hB hA
    rw [if_pos (by simp [Region.wanted,yielded,s136])]
    go_simp
    refine (r2_validList (hXE.ext eI) (fun i hi=>(brief_raw (HBR.out i hi)).1)).mono ?_
    rintro e wj ⟨rfl,ej⟩
    rw [←hsv.out]
    go_wp2_with fail
    exact hK.out _ _ ej rfl
   ·clear hl
    refine stp rfl ?_
    intro ac wi eI hB hA K hK
    obtain⟨x136,s136,j136⟩:=hA 5 (by kernel_rfl) 136 rfl
    obtain rfl:x136=(.bool false):=j136
    obtain⟨x138,s138,j138⟩:=hA 7 (by kernel_rfl) 138 rfl
    obtain rfl:x138=(.bool false):=j138
    clear hB hA
    rw [if_pos (by simp [Region.wanted,yielded,s136])]
    go_simp
    exact hK.out _ _ (Ext.refl _) rfl
   ·clear hl
    refine stp rfl ?_
    intro ac wi eI hB hA K hK
    obtain⟨x136,s136,j136⟩:=hA 5 (by kernel_rfl) 136 rfl
    obtain rfl:x136=(.bool false):=j136
    obtain⟨x139,s139,j139⟩:=hA 8 (by kernel_rfl) 139 rfl
    obtain rfl:x139=(.bool true):=j139
    clear hB hA
    go_simp
    exact hK.out _ _ (Ext.refl _) rfl
   ·clear hl
    refine stp rfl ?_
    intro ac wi eI hB hA K hK
    obtain⟨x140,s140,j140⟩:=hA 9 (by kernel_rfl) 140 rfl
    obtain rfl:x140=(.bool true):=j140
    clear hB hA
    go_simp
    exact hK.out _ _ (Ext.refl _) rfl
   ·clear hl
    refine stp rfl ?_
    intro ac wi eI hB hA K hK
    obtain⟨x141,s141,j141⟩:=hA 10 (by kernel_rfl) 141 rfl
    obtain rfl:x141=(.bool true):=j141
    clear hB hA
    rw [if_neg (by simp [Region.wanted,yielded,s141])]
    exact hK.out _ _ (Ext.refl _) trivial
   ·clear hl
    refine stp rfl ?_
    intro ac wi eI hB hA K hK
    obtain⟨x141,s141,j141⟩:=hA 10 (by kernel_rfl) 141 rfl
    obtain rfl:x141=(.bool true):=j141
    clear hB hA
    rw [if_neg (by simp [Region.wanted,yielded,s141])]
    exact hK.out _ _ (Ext.refl _) trivial
   ·clear hl
    refine stp rfl ?_
    intro ac wi eI hB hA K hK
    obtain⟨x141,s141,j141⟩:=hA 10 (by kernel_rfl) 141 rfl
    obtain rfl:x141=(.bool true):=j141
    clear hB hA
    rw [if_neg (by simp [Region.wanted,yielded,s141])]
    exact hK.out _ _ (Ext.refl _) trivial
   ·clear hl
    refine stp rfl ?_
    intro ac wi eI hB hA K hK
    obtain⟨x141,s141,j141⟩:=hA 10 (by kernel_rfl) 141 rfl
    obtain rfl:x141=(.bool true):=j141
    clear hB hA
    rw [if_neg (by simp [Region.wanted,yielded,s141])]
    exact hK.out _ _ (Ext.refl _) trivial
   ·clear hl
    refine stp rfl ?_
    intro ac wi eI hB hA K hK
    obtain⟨x141,s141,j141⟩:=hA 10 (by kernel_rfl) 141 rfl
    obtain rfl:x141=(.bool true):=j141
    clear hB hA
    rw [if_neg (by simp [Region.wanted,yielded,s141])]
    exact hK.out _ _ (Ext.refl _) trivial
   ·clear hl
    refine stp rfl ?_
    intro ac wi eI hB hA K hK
    obtain⟨x141,s141,j141⟩:=hA 10 (by kernel_rfl) 141 rfl
    obtain rfl:x141=(.bool true):=j141
    clear hB hA
    rw [if_neg (by simp [Region.wanted,yielded,s141])]
    exact hK.out _ _ (Ext.refl _) trivial
   ·clear hl
    refine stp rfl ?_
    intro ac wi eI hB hA K hK
    obtain⟨x141,s141,j141⟩:=hA 10 (by kernel_rfl) 141 rfl
    obtain rfl:x141=(.bool true):=j141
    clear hB hA
    rw [if_neg (by simp [Region.wanted,yielded,s141])]
    exact hK.out _ _ (Ext.refl _) trivial
   ·clear hl
    refine stp rfl ?_
    intro ac wi eI hB hA K hK
    obtain⟨x141,s141,j141⟩:=hA 10 (by kernel_rfl) 141 rfl
    obtain rfl:x141=(.bool true):=j141
    clear hB hA
    rw [if_neg (by simp [Region.wanted,yielded,s141])]
    exact hK.out _ _ (Ext.refl _) trivial
   ·clear hl
    refine stp rfl ?_
    intro ac wi eI hB hA K hK
    obtain⟨x141,s141,j141⟩:=hA 10 (by kernel_rfl) 141 rfl
    obtain rfl:x141=(.bool true):=j141
    obtain⟨x149,s149,j149⟩:=hA 18 (by kernel_rfl) 149 rfl
    replace j149:Mn.p (Mn.any) x149 wi:=j149
    clear hB hA
    go_simp
    exact hK.out _ _ (Ext.refl _) rfl
  intro vals wz eZ hJ
  have J131:vals 0=(.slice A6 nx c6):=hJ 0 (by decide) (by decide)
  have J132:vals 1=(.int .i64 (nx:Int)):=hJ 1 (by decide) (by decide)
  have J133:vals 2=(.slice A7 n c7):=hJ 2 (by decide) (by decide)
  have J134:vals 3=(.int .i64 (n:Int)):=hJ 3 (by decide) (by decide)
  have J135:vals 4=(.bool false):=hJ 4 (by decide) (by decide)
  have J136:vals 5=(.bool false):=hJ 5 (by decide) (by decide)
  have J137:vals 6=(.slice A6 nx c6):=hJ 6 (by decide) (by decide)
  have J138:vals 7=(.bool false):=hJ 7 (by decide) (by decide)
  have J139:vals 8=(.bool true):=hJ 8 (by decide) (by decide)
  have J140:vals 9=(.bool true):=hJ 9 (by decide) (by decide)
  have J141:vals 10=(.bool true):=hJ 10 (by decide) (by decide)
  have J150:vals 19=(.bool true):=hJ 19 (by decide) (by decide)
  clear hJ
  simp only [putAll,if_true,Bool.false_eq_true,if_false,Act.put,Nat.zero_add,Nat.reduceAdd,List.setIfInBounds_toArray,List.set_cons_zero,List.set_cons_succ,J131,J132,J133,J134,J135,J136,J137,J138,J139,J140,J141,J150]
  clear J131 J132 J133 J134 J135 J136 J137 J138 J139 J140 J141 J150
  generalize vals 11=z142
  generalize vals 12=z143
  generalize vals 13=z144
  generalize vals 14=z145
  generalize vals 15=z146
  generalize vals 16=z147
  generalize vals 17=z148
  generalize vals 18=z149
  refine stepL_done (by kernel_rfl) ?_ _
  go_wp2
  go_ret
  exact⟨rfl,hE.trans eZ⟩
 | true =>
  obtain⟨xr,hxr⟩:=hid_eq (fun i=>ratOf (R i))
  obtain⟨g1,g2⟩:=shB_lsv HR.out hsv.out.symm hXE
  rw [←hxr.out] at g1 g2
  have g3:LsV N lor hir wq (.slice A6 nx c6) n xr:=hnx ▸ g1
  have HXR:Hid (HtL n 17 xr):=hnx ▸ g2
  clear g1 g2
  have HXV:=Lib.hid g3
  clear g3 hnx
  have HCH:Hid (HtL k 200 (fun t=>sum n (fun c=>C0 t c*xr c))):=fun i hi=>by
   refine Ht.mono (sum_ht (n:=n) (k:=17+17) (K:=n*(17+17+1)+1) (fun c hc=>(HKC.out i hi c hc).mul (HXR.out c hc)) (Nat.le_refl _) (Nat.le_refl _)) (by omega)
  obtain⟨CX,hCX⟩:=hid_eq (fun t=>sum n (fun c=>C0 t c*xr c))
  rw [←hCX.out] at HCH
  obtain⟨b,hbv⟩:=hid_eq (allB k (fun i=>decide (CX i=d i)))
  refine region_inv [Mn.eq (.slice A6 nx c6),Mn.eq (.int .i64 (nx:Int)),Mn.eq (.slice A7 n c7),Mn.eq (.int .i64 (n:Int)),Mn.eq (.bool false),Mn.eq (.bool false),Mn.eq (.slice A6 nx c6),Mn.eq (.bool true),Mn.eq (.bool false),Mn.eq (.bool false),Mn.eq (.bool false),Mn.eq (.pointer (some ⟨w.heap.size+1,0,none⟩)),Mn.eq (.slice A4 k c4),Mn.eq (.slice A6 nx c6),Mn.ls N k CX,Mn.eq (.pointer (some ⟨w.heap.size+1,1,none⟩)),Mn.eq (.slice A5 k c5),Mn.eq (.bool b),Mn.eq (.bool (!b)),Mn.eq (.bool (!b))] [some 131,some 132,some 133,some 134,some 135,some 136,some 137,some 138,some 139,some 140,some 141,some 142,some 143,some 144,some 145,some 146,some 147,some 148,some 149,some 150] [] [true,true,true,true,true,true,true,true,true,true,true,true,true,true,true,true,true,true,true,true] 0 (by kernel_rfl) (by kernel_rfl) (by kernel_rfl) (by kernel_rfl) (by kernel_rfl) (by kernel_rfl) (by kernel_rfl) (by kernel_rfl) ?_ ?_
  ·intro i hi hl
   have hi':i=0∨i=1∨i=2∨i=3∨i=4∨i=5∨i=6∨i=7∨i=8∨i=9∨i=10∨i=11∨i=12∨i=13∨i=14∨i=15∨i=16∨i=17∨i=18∨i=19:=by have h9:i < 20:=hi; omega
   clear hi
   rcases hi' with rfl | rfl | rfl | rfl | rfl | rfl | rfl | rfl | rfl | rfl | rfl | rfl | rfl | rfl | rfl | rfl | rfl | rfl | rfl | rfl
   ·clear hl
    refine stp rfl ?_
    intro ac wi eI hB hA K hK
    have o2:=hB 2 (by kernel_rfl)
    simp only [List.getElem?_toArray,List.getElem?_cons_succ,List.getElem?_cons_zero] at o2
    clear hB hA
    go_simp
    exact hK.out _ _ (Ext.refl _) rfl
   ·clear hl
    refine stp rfl ?_
    intro ac wi eI hB hA K hK
    obtain⟨x131,s131,j131⟩:=hA 0 (by kernel_rfl) 131 rfl
    obtain rfl:x131=(.slice A6 nx c6):=j131
    clear hB hA
    go_simp
    exact hK.out _ _ (Ext.refl _) rfl
   ·clear hl
    refine stp rfl ?_
    intro ac wi eI hB hA K hK
    have o7:=hB 7 (by kernel_rfl)
    simp only [List.getElem?_toArray,List.getElem?_cons_succ,List.getElem?_cons_zero] at o7
    clear hB hA
    go_simp
    exact hK.out _ _ (Ext.refl _) rfl
   ·clear hl
    refine stp rfl ?_
    intro ac wi eI hB hA K hK
    obtain⟨x133,s133,j133⟩:=hA 2 (by kernel_rfl) 133 rfl
    obtain rfl:x133=(.slice A7 n c7):=j133
    clear hB hA
    go_simp
    exact hK.out _ _ (Ext.refl _) rfl
   ·clear hl
    refine stp rfl ?_
    intro ac wi eI hB hA K hK
    obtain⟨x132,s132,j132⟩:=hA 1 (by kernel_rfl) 132 rfl
    obtain rfl:x132=(.int .i64 (nx:Int)):=j132
    obtain⟨x134,s134,j134⟩:=hA 3 (by kernel_rfl) 134 rfl
    obtain rfl:x134=(.int .i64 (n:Int)):=j134
    clear hB hA
    go_simp
    exact hK.out _ _ (Ext.refl _) rfl
   ·clear hl
    refine stp rfl ?_
    intro ac wi eI hB hA K hK
    obtain⟨x135,s135,j135⟩:=hA 4 (by kernel_rfl) 135 rfl
    obtain rfl:x135=(.bool false):=j135
    clear hB hA
    go_simp
    exact hK.out _ _ (Ext.refl _) rfl
   ·clear hl
    refine stp rfl ?_
    intro ac wi eI hB hA K hK
    obtain⟨x136,s136,j136⟩:=hA 5 (by kernel_rfl) 136 rfl
    obtain rfl:x136=(.bool false):=j136
    have o2:=hB 2 (by kernel_rfl)
    simp only [List.getElem?_toArray,List.getElem?_cons_succ,List.getElem?_cons_zero] at o2
    clear hB hA
    rw [if_pos (by simp [Region.wanted,yielded,s136])]
    go_simp
    exact hK.out _ _ (Ext.refl _) rfl
   ·clear hl
    refine stp rfl ?_
    intro ac wi eI hB hA K hK
    obtain⟨x136,s136,j136⟩:=hA 5 (by kernel_rfl) 136 rfl
    obtain rfl:x136=(.bool false):=j136
    obtain⟨x137,s137,j137⟩:=hA 6 (by kernel_rfl) 137 rfl
    obtain rfl:x137=(.slice A6 nx c6):=j137
    clear hB hA
    rw [if_pos (by simp [Region.wanted,yielded,s136])]
    go_simp
    refine (r2_validList (hXE.ext eI) (fun i hi=>(brief_raw (HBR.out i hi)).1)).mono ?_
    rintro e wj ⟨rfl,ej⟩
    rw [←hsv.out]
    go_wp2_with fail
    exact hK.out _ _ ej rfl
   ·clear hl
    refine stp rfl ?_
    intro ac wi eI hB hA K hK
    obtain⟨x136,s136,j136⟩:=hA 5 (by kernel_rfl) 136 rfl
    obtain rfl:x136=(.bool false):=j136
    obtain⟨x138,s138,j138⟩:=hA 7 (by kernel_rfl) 138 rfl
    obtain rfl:x138=(.bool true):=j138
    clear hB hA
    rw [if_pos (by simp [Region.wanted,yielded,s136])]
    go_simp
    exact hK.out _ _ (Ext.refl _) rfl
   ·clear hl
    refine stp rfl ?_
    intro ac wi eI hB hA K hK
    obtain⟨x136,s136,j136⟩:=hA 5 (by kernel_rfl) 136 rfl
    obtain rfl:x136=(.bool false):=j136
    obtain⟨x139,s139,j139⟩:=hA 8 (by kernel_rfl) 139 rfl
    obtain rfl:x139=(.bool false):=j139
    clear hB hA
    go_simp
    exact hK.out _ _ (Ext.refl _) rfl
   ·clear hl
    refine stp rfl ?_
    intro ac wi eI hB hA K hK
    obtain⟨x140,s140,j140⟩:=hA 9 (by kernel_rfl) 140 rfl
    obtain rfl:x140=(.bool false):=j140
    clear hB hA
    go_simp
    exact hK.out _ _ (Ext.refl _) rfl
   ·clear hl
    refine stp rfl ?_
    intro ac wi eI hB hA K hK
    obtain⟨x141,s141,j141⟩:=hA 10 (by kernel_rfl) 141 rfl
    obtain rfl:x141=(.bool false):=j141
    have o4:=hB 4 (by kernel_rfl)
    simp only [List.getElem?_toArray,List.getElem?_cons_succ,List.getElem?_cons_zero] at o4
    clear hB hA
    rw [if_pos (by simp [Region.wanted,yielded,s141])]
    go_simp
    exact hK.out _ _ (Ext.refl _) rfl
   ·clear hl
    refine stp rfl ?_
    intro ac wi eI hB hA K hK
    obtain⟨x141,s141,j141⟩:=hA 10 (by kernel_rfl) 141 rfl
    obtain rfl:x141=(.bool false):=j141
    obtain⟨x142,s142,j142⟩:=hA 11 (by kernel_rfl) 142 rfl
    obtain rfl:x142=(.pointer (some ⟨w.heap.size+1,0,none⟩)):=j142
    clear hB hA
    rw [if_pos (by simp [Region.wanted,yielded,s141])]
    have cc0:=eI.cell d0
    have cc1:=eI.cell d1
    go_simp
    exact hK.out _ _ (Ext.refl _) rfl
   ·clear hl
    refine stp rfl ?_
    intro ac wi eI hB hA K hK
    obtain⟨x141,s141,j141⟩:=hA 10 (by kernel_rfl) 141 rfl
    obtain rfl:x141=(.bool false):=j141
    have o2:=hB 2 (by kernel_rfl)
    simp only [List.getElem?_toArray,List.getElem?_cons_succ,List.getElem?_cons_zero] at o2
    clear hB hA
    rw [if_pos (by simp [Region.wanted,yielded,s141])]
    go_simp
    exact hK.out _ _ (Ext.refl _) rfl
   ·clear hl
    refine stp rfl ?_
    intro ac wi eI hB hA K hK
    obtain⟨x141,s141,j141⟩:=hA 10 (by kernel_rfl) 141 rfl
    obtain rfl:x141=(.bool false):=j141
    obtain⟨x143,s143,j143⟩:=hA 12 (by kernel_rfl) 143 rfl
    obtain rfl:x143=(.slice A4 k c4):=j143
    obtain⟨x144,s144,j144⟩:=hA 13 (by kernel_rfl) 144 rfl
    obtain rfl:x144=(.slice A6 nx c6):=j144
    clear hB hA
    rw [if_pos (by simp [Region.wanted,yielded,s141])]
    go_simp
    refine (r5_apply (h4.ext (hE.trans eI)) (HXV.out.ext eI) (by omega) hn0 (by omega) HKC.out HXR.out (by omega)).mono ?_
    rw [←hCX.out]
    rintro e wj ⟨Aj,cj,rfl,hj,ej⟩
    go_wp2_with fail
    exact hK.out _ _ ej (LsV.all hj)
   ·clear hl
    refine stp rfl ?_
    intro ac wi eI hB hA K hK
    obtain⟨x141,s141,j141⟩:=hA 10 (by kernel_rfl) 141 rfl
    obtain rfl:x141=(.bool false):=j141
    have o4:=hB 4 (by kernel_rfl)
    simp only [List.getElem?_toArray,List.getElem?_cons_succ,List.getElem?_cons_zero] at o4
    clear hB hA
    rw [if_pos (by simp [Region.wanted,yielded,s141])]
    go_simp
    exact hK.out _ _ (Ext.refl _) rfl
   ·clear hl
    refine stp rfl ?_
    intro ac wi eI hB hA K hK
    obtain⟨x141,s141,j141⟩:=hA 10 (by kernel_rfl) 141 rfl
    obtain rfl:x141=(.bool false):=j141
    obtain⟨x146,s146,j146⟩:=hA 15 (by kernel_rfl) 146 rfl
    obtain rfl:x146=(.pointer (some ⟨w.heap.size+1,1,none⟩)):=j146
    clear hB hA
    rw [if_pos (by simp [Region.wanted,yielded,s141])]
    have cc0:=eI.cell d0
    have cc1:=eI.cell d1
    go_simp
    exact hK.out _ _ (Ext.refl _) rfl
   ·clear hl
    refine stp rfl ?_
    intro ac wi eI hB hA K hK
    obtain⟨x141,s141,j141⟩:=hA 10 (by kernel_rfl) 141 rfl
    obtain rfl:x141=(.bool false):=j141
    obtain⟨x145,s145,j145⟩:=hA 14 (by kernel_rfl) 145 rfl
    replace j145:Mn.p (Mn.ls N k CX) x145 wi:=j145
    obtain⟨x147,s147,j147⟩:=hA 16 (by kernel_rfl) 147 rfl
    obtain rfl:x147=(.slice A5 k c5):=j147
    clear hB hA
    rw [if_pos (by simp [Region.wanted,yielded,s141])]
    obtain⟨Q9,l9,rfl,-⟩:=LsV.form j145
    go_simp
    refine (r2_sameListD j145 (h5.ext (hE.trans eI)) (fun i hi=>⟨(HCH.out i hi).sz (by omega),(HKD.out i hi).sz (by omega),((HCH.out i hi).sub (HKD.out i hi)).sz (by omega)⟩)).mono ?_
    rw [←hbv.out]
    rintro e wj ⟨rfl,ej⟩
    go_wp2_with fail
    exact hK.out _ _ ej rfl
   ·clear hl
    refine stp rfl ?_
    intro ac wi eI hB hA K hK
    obtain⟨x141,s141,j141⟩:=hA 10 (by kernel_rfl) 141 rfl
    obtain rfl:x141=(.bool false):=j141
    obtain⟨x148,s148,j148⟩:=hA 17 (by kernel_rfl) 148 rfl
    obtain rfl:x148=(.bool b):=j148
    clear hB hA
    rw [if_pos (by simp [Region.wanted,yielded,s141])]
    go_simp
    exact hK.out _ _ (Ext.refl _) rfl
   ·clear hl
    refine stp rfl ?_
    intro ac wi eI hB hA K hK
    obtain⟨x141,s141,j141⟩:=hA 10 (by kernel_rfl) 141 rfl
    obtain rfl:x141=(.bool false):=j141
    obtain⟨x149,s149,j149⟩:=hA 18 (by kernel_rfl) 149 rfl
    obtain rfl:x149=(.bool (!b)):=j149
    clear hB hA
    go_simp
    exact hK.out _ _ (Ext.refl _) rfl
  intro vals wz eZ hJ
  have J131:vals 0=(.slice A6 nx c6):=hJ 0 (by decide) (by decide)
  have J132:vals 1=(.int .i64 (nx:Int)):=hJ 1 (by decide) (by decide)
  have J133:vals 2=(.slice A7 n c7):=hJ 2 (by decide) (by decide)
  have J134:vals 3=(.int .i64 (n:Int)):=hJ 3 (by decide) (by decide)
  have J135:vals 4=(.bool false):=hJ 4 (by decide) (by decide)
  have J136:vals 5=(.bool false):=hJ 5 (by decide) (by decide)
  have J137:vals 6=(.slice A6 nx c6):=hJ 6 (by decide) (by decide)
  have J138:vals 7=(.bool true):=hJ 7 (by decide) (by decide)
  have J139:vals 8=(.bool false):=hJ 8 (by decide) (by decide)
  have J140:vals 9=(.bool false):=hJ 9 (by decide) (by decide)
  have J141:vals 10=(.bool false):=hJ 10 (by decide) (by decide)
  have J142:vals 11=(.pointer (some ⟨w.heap.size+1,0,none⟩)):=hJ 11 (by decide) (by decide)
  have J143:vals 12=(.slice A4 k c4):=hJ 12 (by decide) (by decide)
  have J144:vals 13=(.slice A6 nx c6):=hJ 13 (by decide) (by decide)
  have J145:Mn.p (Mn.ls N k CX) (vals 14) wz:=hJ 14 (by decide) (by decide)
  have J146:vals 15=(.pointer (some ⟨w.heap.size+1,1,none⟩)):=hJ 15 (by decide) (by decide)
  have J147:vals 16=(.slice A5 k c5):=hJ 16 (by decide) (by decide)
  have J148:vals 17=(.bool b):=hJ 17 (by decide) (by decide)
  have J149:vals 18=(.bool (!b)):=hJ 18 (by decide) (by decide)
  have J150:vals 19=(.bool (!b)):=hJ 19 (by decide) (by decide)
  clear hJ
  simp only [putAll,if_true,Bool.false_eq_true,if_false,Act.put,Nat.zero_add,Nat.reduceAdd,List.setIfInBounds_toArray,List.set_cons_zero,List.set_cons_succ,J131,J132,J133,J134,J135,J136,J137,J138,J139,J140,J141,J142,J143,J144,J146,J147,J148,J149,J150]
  clear J131 J132 J133 J134 J135 J136 J137 J138 J139 J140 J141 J142 J143 J144 J146 J147 J148 J149 J150
  generalize vals 14=z145 at J145 ⊢
  refine stepL_done (by kernel_rfl) ?_ _
  clear J145
  replace h7:=LsV.all (h7.ext eZ)
  have hXV2:=HXV.out.ext eZ
  obtain⟨wp,hwp⟩:∃ wp,wp=wz:=⟨_,rfl⟩
  subst hwp
  replace hE:=hE.trans eZ
  replace B0:=eZ.block B0
  replace B1:=eZ.block B1
  replace hsz1:=blk_lt B1
  clear a0 a1 a2 d0 d1
  obtain⟨a0,a1,a2,-⟩:=cells3 B0
  obtain⟨d0,d1,-⟩:=cells2 B1
  clear eZ
  cases hb':b with
  | false =>
   subst hb'
   go_wp2
   go_ret
   exact⟨rfl,hE⟩
  | true =>
   subst hb'
   have HEQ:Hid (∀ t,t < k→sum n (fun c=>C0 t c*xr c)=d t):=fun t ht=>by
    have g9:=of_decide_eq_true (allB_true.1 hbv.out.symm t ht)
    rw [hCX.out] at g9
    exact g9
   have HRH:Hid (HtL m 200 (fun i=>av n X xr i - y i)):=fun i hi=>by
    refine Ht.mono (Ht.sub (sum_ht (n:=n) (k:=17+17) (K:=n*(17+17+1)+1) (fun c hc=>(HX.out i hi c hc).mul (HXR.out c hc)) (Nat.le_refl _) (Nat.le_refl _)) (HY.out i hi)) (by omega)
   obtain⟨T2,hT2⟩:=hid_eq (obj m p (fun i=>av n X xr i - y i))
   have HT2:Hid (Ht 5000 T2):=by
    rw [Hid,hT2.out]
    refine Ht.mono (sum_ht (n:=m) (k:=17+(200+200)) (K:=m*(17+(200+200)+1)+1) (fun i hi=>(HP.out i hi).mul ((HRH.out i hi).mul (HRH.out i hi))) (Nat.le_refl _) (Nat.le_refl _)) (by omega)
   have HSD:Hid (Sz (T - T2)):=(HTH.out.sub HT2.out).sz (by omega)
   obtain⟨sg,hsg⟩:=hid_eq (T - T2).num.sign
   have hsg0:sg≤0:=by
    rw [hsg.out]
    refine sign_le34 ?_
    have h9:T≤T2:=by
     rw [hT.out,hT2.out]
     exact HE3.out xr HEQ.out
    grind
   have HKW:Hid (m*(17+((n*(17+17+1)+1+17+1)+(n*(17+17+1)+1+17+1))+1)+1≤29000000000):=by
    have h9:m*(17+((n*(17+17+1)+1+17+1)+(n*(17+17+1)+1+17+1))+1)≤6*1000:=Nat.mul_le_mul hm (by omega)
    rw [Hid]; omega
   go_upto_region 18 with (fail)
   refine region_inv [Mn.eq (.agg #[.slice A1 m c1,.slice A2 m c2,.slice A3 m c3]),Mn.eq (.slice A7 n c7),Mn.rat N T,Mn.eq (.agg #[.slice A1 m c1,.slice A2 m c2,.slice A3 m c3]),Mn.eq (.slice A6 nx c6),Mn.rat N T2,Mn.eq (.int .i64 sg),Mn.eq (.bool true),Mn.eq (.bool true)] [some 151,some 152,some 153,some 154,some 155,some 156,some 157,some 158,some 6] [] [true,true,true,true,true,true,true,true,true] 0 (by kernel_rfl) (by kernel_rfl) (by kernel_rfl) (by kernel_rfl) (by kernel_rfl) (by kernel_rfl) (by kernel_rfl) (by kernel_rfl) ?_ ?_
   ·intro i hi hl
    have hi':i=0∨i=1∨i=2∨i=3∨i=4∨i=5∨i=6∨i=7∨i=8:=by have h9:i < 9:=hi; omega
    clear hi
    rcases hi' with rfl | rfl | rfl | rfl | rfl | rfl | rfl | rfl | rfl
    ·clear hl
     refine stp rfl ?_
     intro ac wi eI hB hA K hK
     have o3:=hB 3 (by kernel_rfl)
     simp only [List.getElem?_toArray,List.getElem?_cons_succ,List.getElem?_cons_zero] at o3
     clear hB hA
     have cc0:=eI.cell a0
     have cc1:=eI.cell a1
     have cc2:=eI.cell a2
     go_simp
     exact hK.out _ _ (Ext.refl _) rfl
    ·clear hl
     refine stp rfl ?_
     intro ac wi eI hB hA K hK
     have o7:=hB 7 (by kernel_rfl)
     simp only [List.getElem?_toArray,List.getElem?_cons_succ,List.getElem?_cons_zero] at o7
     clear hB hA
     go_simp
     exact hK.out _ _ (Ext.refl _) rfl
    ·clear hl
     refine stp rfl ?_
     intro ac wi eI hB hA K hK
     obtain⟨x151,s151,j151⟩:=hA 0 (by kernel_rfl) 151 rfl
     obtain rfl:x151=(.agg #[.slice A1 m c1,.slice A2 m c2,.slice A3 m c3]):=j151
     obtain⟨x152,s152,j152⟩:=hA 1 (by kernel_rfl) 152 rfl
     obtain rfl:x152=(.slice A7 n c7):=j152
     clear hB hA
     go_simp
     refine (l34_objective (h1.ext (hE.trans eI)) (h2.ext (hE.trans eI)) (h3.ext (hE.trans eI)) (h7.ext eI) hm0 (by omega) hn0 (by omega) HX.out HY.out HP.out (fun t ht=>HSH.out t (by omega)) HKV.out HK8.out).mono ?_
     rw [←hT.out]
     rintro e wj ⟨vj,rfl,hj,ej⟩
     go_wp2_with fail
     exact hK.out _ _ ej hj
    ·clear hl
     refine stp rfl ?_
     intro ac wi eI hB hA K hK
     have o3:=hB 3 (by kernel_rfl)
     simp only [List.getElem?_toArray,List.getElem?_cons_succ,List.getElem?_cons_zero] at o3
     clear hB hA
     have cc0:=eI.cell a0
     have cc1:=eI.cell a1
     have cc2:=eI.cell a2
     go_simp
     exact hK.out _ _ (Ext.refl _) rfl
    ·clear hl
     refine stp rfl ?_
     intro ac wi eI hB hA K hK
     have o2:=hB 2 (by kernel_rfl)
     simp only [List.getElem?_toArray,List.getElem?_cons_succ,List.getElem?_cons_zero] at o2
     clear hB hA
     go_simp
     exact hK.out _ _ (Ext.refl _) rfl
    ·clear hl
     refine stp rfl ?_
     intro ac wi eI hB hA K hK
     obtain⟨x154,s154,j154⟩:=hA 3 (by kernel_rfl) 154 rfl
     obtain rfl:x154=(.agg #[.slice A1 m c1,.slice A2 m c2,.slice A3 m c3]):=j154
     obtain⟨x155,s155,j155⟩:=hA 4 (by kernel_rfl) 155 rfl
     obtain rfl:x155=(.slice A6 nx c6):=j155
     clear hB hA
     go_simp
     refine (l34_objective (h1.ext (hE.trans eI)) (h2.ext (hE.trans eI)) (h3.ext (hE.trans eI)) (hXV2.ext eI) hm0 (by omega) hn0 (by omega) HX.out HY.out HP.out HXR.out rfl HKW.out).mono ?_
     rw [←hT2.out]
     rintro e wj ⟨vj,rfl,hj,ej⟩
     go_wp2_with fail
     exact hK.out _ _ ej hj
    ·clear hl
     refine stp rfl ?_
     intro ac wi eI hB hA K hK
     obtain⟨x153,s153,j153⟩:=hA 2 (by kernel_rfl) 153 rfl
     replace j153:Mn.p (Mn.rat N T) x153 wi:=j153
     obtain⟨x156,s156,j156⟩:=hA 5 (by kernel_rfl) 156 rfl
     replace j156:Mn.p (Mn.rat N T2) x156 wi:=j156
     clear hB hA
     go_simp
     refine (r2_compare j153 j156 (HTH.out.sz (by omega)) (HT2.out.sz (by omega)) HSD.out).mono ?_
     rintro e wj ⟨rfl,ej⟩
     rw [←hsg.out]
     go_wp2_with fail
     exact hK.out _ _ ej rfl
    ·clear hl
     refine stp rfl ?_
     intro ac wi eI hB hA K hK
     obtain⟨x157,s157,j157⟩:=hA 6 (by kernel_rfl) 157 rfl
     obtain rfl:x157=(.int .i64 sg):=j157
     clear hB hA
     go_simp
     exact hK.out _ _ (Ext.refl _) rfl
    ·clear hl
     refine stp rfl ?_
     intro ac wi eI hB hA K hK
     obtain⟨x158,s158,j158⟩:=hA 7 (by kernel_rfl) 158 rfl
     obtain rfl:x158=(.bool true):=j158
     clear hB hA
     go_simp
     exact hK.out _ _ (Ext.refl _) rfl
   intro vals wz eZ hJ
   have J151:vals 0=(.agg #[.slice A1 m c1,.slice A2 m c2,.slice A3 m c3]):=hJ 0 (by decide) (by decide)
   have J152:vals 1=(.slice A7 n c7):=hJ 1 (by decide) (by decide)
   have J153:Mn.p (Mn.rat N T) (vals 2) wz:=hJ 2 (by decide) (by decide)
   have J154:vals 3=(.agg #[.slice A1 m c1,.slice A2 m c2,.slice A3 m c3]):=hJ 3 (by decide) (by decide)
   have J155:vals 4=(.slice A6 nx c6):=hJ 4 (by decide) (by decide)
   have J156:Mn.p (Mn.rat N T2) (vals 5) wz:=hJ 5 (by decide) (by decide)
   have J157:vals 6=(.int .i64 sg):=hJ 6 (by decide) (by decide)
   have J158:vals 7=(.bool true):=hJ 7 (by decide) (by decide)
   have J6:vals 8=(.bool true):=hJ 8 (by decide) (by decide)
   clear hJ
   simp only [putAll,if_true,Bool.false_eq_true,if_false,Act.put,Nat.zero_add,Nat.reduceAdd,List.setIfInBounds_toArray,List.set_cons_zero,List.set_cons_succ,J151,J152,J154,J155,J157,J158,J6]
   clear J151 J152 J154 J155 J157 J158 J6
   generalize vals 2=z153 at J153 ⊢
   generalize vals 5=z156 at J156 ⊢
   refine stepL_done (by kernel_rfl) ?_ _
   go_wp2
   go_ret
   exact⟨rfl,hE.trans eZ⟩
end Go.Proofs.YtccepmpebioeiaaGreat
namespace Go.Proofs.YtccepmpebioeiaaGreat
open Go.RowKit Go.ChangeShapes Go.ChangeAt
theorem cells_lin:Tryz.prog.cellsOf 26=3:=by kernel_rfl
section
variable {H:Type} {enc:TypeId×Value→H} {w:World} {spare:Nat→Bool} {held:Bool}
instance:Inhabited Raw:=⟨⟨false,[],false,[]⟩⟩
end
end Go.Proofs.YtccepmpebioeiaaGreat
