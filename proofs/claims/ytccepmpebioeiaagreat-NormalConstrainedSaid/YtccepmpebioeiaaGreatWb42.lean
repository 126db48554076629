import Derived.Test.YtccepmpebioeiaaGreatWb41
import Derived.Test.YtccepmpebioeiaaGreatWb29
import Derived.Test.YtccepmpebioeiaaGreatWb26
import Derived.Test.YtccepmpebioeiaaGreatWb33
import Derived.Test.YtccepmpebioeiaaGreatWb35
set_option linter.all false
set_option maxHeartbeats 8000000
namespace Go.Proofs.YtccepmpebioeiaaGreat
open Go.RowKit
def shM (most m:Nat) (L:Nat→Nat) (R:Nat→Nat→Raw):Bool:=decide (m≤most) && allB m (fun i=>shB most (L i) (R i))
theorem r2_shortMatrix {N lo hi:Nat} {w:World} {v:Value} {m:Nat} {L:Nat→Nat} {R:Nat→Nat→Raw} (h:MtR N lo hi w v m L R) (most:Nat) {mz:Int} (hmz:mz=(most:Int)) (hmo:most < 1000) :
  Calls Tryz.prog 27 #[v,.int .i64 mz,.int .i64 6] w (RetV w (.bool (shM most m L R))):=by
 subst hmz
 obtain⟨r,hr⟩:=hid_eq (shM most m L R)
 rw [←hr.out]
 obtain⟨A,c,rfl,hnc,hcm⟩:=h.form
 unfold maxLen at hcm
 have hI:=h
 clear h
 go_enter Tryz.func27,Tryz.ntmps27
 by_cases hn:m≤most
 ·have HR:Hid (r=allB m (fun i=>shB most (L i) (R i))):=by rw [Hid,hr.out]; unfold shM; rw [decide_eq_true hn,Bool.true_and]
  have hd1:decide (most < m)=false:=by simp; omega
  have hd2:¬ most < m:=by omega
  clear hr
  go_wp2
  go_loopw [7] (fun i wr=>∃ k:Nat,k≤m∧i=.int .i64 k∧Hid (∀ j,j < k→shB most (L j) (R j)=true)∧Ext w wr) (fun i _=>m - (intOf i).toNat)
  case atStart=>exact⟨0,Nat.zero_le _,rfl,fun j hj=>absurd hj (by omega),Ext.refl w⟩
  case round =>
   obtain⟨k,hk,rfl,HA,hE⟩:=hrel
   by_cases hlt:k < m
   ·obtain⟨b,off,rfl,-,-,hx⟩:=(hI.ext hE).addr (by omega)
    obtain⟨Ak,ck,p0,-,-,hv⟩:=hx k hlt
    obtain⟨Lk,hLk⟩:=hid_eq (L k)
    rw [←hLk.out] at p0 hv
    clear hx
    go_wp2_with (go_at_call 12; refine Hid.out ?_)
    refine (r2_short hv most rfl hmo).mono ?_
    rintro e w3 ⟨rfl,e3⟩
    replace hE:=hE.trans e3
    obtain⟨o,ho⟩:=hid_eq (shB most Lk (R k))
    have HO:Hid (shB most (L k) (R k)=o):=by rw [Hid,ho.out,hLk.out]
    rw [←ho.out]
    clear p0 e3
    cases ho':o with
    | true =>
     subst ho'
     go_wp2
     go_roundw
     case rel=>exact⟨k+1,by omega,by go_num,all_succ (p:=fun j=>shB most (L j) (R j)=true) HA.out HO.out,hE⟩
     case measure=>simp [intOf]; omega
    | false =>
     subst ho'
     have HF:Hid (r=false):=by rw [Hid,HR.out]; exact allB_false hlt HO.out
     go_wp2
     go_ret
     exact⟨ret_bool HF.out.symm,hE⟩
   ·have HF:Hid (r=true):=by rw [Hid,HR.out]; exact allB_true.2 (fun j hj=>HA.out j (by omega))
    go_wp2
    go_ret
    exact⟨ret_bool HF.out.symm,hE⟩
 ·have HF:Hid (r=false):=by rw [Hid,hr.out]; unfold shM; rw [decide_eq_false hn]; rfl
  go_wp2
  go_ret
  exact⟨ret_bool HF.out.symm,Ext.refl w⟩
def conCode (n k:Nat) (L:Nat→Nat) (C:Nat→Nat→Raw) (nd:Nat) (D:Nat→Raw):Int :=
 if allB k (fun i=>allB (L i) (fun j=>okR (C i j)))=false then 1 else if allB nd (fun i=>okR (D i))=false then 1
 else if k < 1∨12 < k then 3 else if allB k (fun i=>decide (L i=n))=false then 4 else if nd≠k then 4 else 0
theorem l34_constrainedCode {N lo hi loc hic lod hid:Nat} {w:World} {v1 v2 v3 vc vd:Value} {m n k nd:Nat} {X:Nat→Nat→Rat} {y p:Nat→Rat} {L:Nat→Nat} {C:Nat→Nat→Raw} {D:Nat→Raw} (h1:MtV N lo hi w v1 m n X) (h2:LsV N lo hi w v2 m y) (h3:LsV N lo hi w v3 m p) (hc:MtR N loc hic w vc k L C) (hd:LsR N lod hid w vd nd D) (hm0:0 < m)
  (hcs:∀ i,i < k→∀ j,j < L i→RawSz (C i j)) (hds:∀ i,i < nd→RawSz (D i)) :
  Calls Tryz.prog 29 #[.agg #[v1,v2,v3],vc,vd] w (RetV w (.int .i64 (conCode n k L C nd D))):=by
 have HCS:=Lib.hid hcs
 have HDS:=Lib.hid hds
 obtain⟨r,hr⟩:=hid_eq (conCode n k L C nd D)
 rw [←hr.out]
 obtain⟨A1,c1,rfl,hmc,hcm⟩:=h1.form
 obtain⟨A2,c2,rfl,hmc2,hcm2⟩:=h2.form
 obtain⟨A3,c3,rfl,hmc3,hcm3⟩:=h3.form
 obtain⟨A4,c4,rfl,hmc4,hcm4⟩:=hc.form
 obtain⟨A5,c5,rfl,hmc5,hcm5⟩:=hd.form
 unfold maxLen at hcm4 hcm5
 have hIc:=hc
 have hId:=hd
 obtain⟨bb,off,rfl,-,-,hx1⟩:=h1.addr hm0
 obtain⟨A0,c0,o0,hc0,hm0',-⟩:=hx1 0 (by omega)
 rw [Nat.add_zero] at o0
 unfold maxLen at hm0'
 clear h1 h2 h3 hc hd hx1 hcs hds
 go_enter Tryz.func29,Tryz.ntmps29
 go_upto_region 1 with (fail)
 refine boxes1 ?_
 intro W hE hsz B0
 replace o0:=hE.cell o0
 go_wp2
 go_loopw [13] (fun i wr=>∃ a:Nat,a≤k∧i=.int .i64 a∧Hid (∀ j,j < a→allB (L j) (fun t=>okR (C j t))=true)∧Ext W wr) (fun i _=>k - (intOf i).toNat)
 case atStart=>exact⟨0,Nat.zero_le _,rfl,fun j hj=>absurd hj (by omega),Ext.refl W⟩
 case round =>
  obtain⟨a,ha,rfl,HA,eW⟩:=hrel
  have hEr:=hE.trans eW
  by_cases hlt:a < k
  ·obtain⟨b,off,rfl,-,-,hx⟩:=(hIc.ext hEr).addr (by omega)
   obtain⟨Ak,ck,p0,-,-,hv⟩:=hx a hlt
   obtain⟨Lk,hLk⟩:=hid_eq (L a)
   rw [←hLk.out] at p0 hv
   clear hx
   go_wp2_with (go_at_call 17; refine Hid.out ?_)
   refine (r2_validList hv (fun i hi=>HCS.out a hlt i (by rw [←hLk.out]; exact hi))).mono ?_
   rintro e w1 ⟨rfl,e1⟩
   replace eW:=eW.trans e1
   obtain⟨o,ho⟩:=hid_eq (allB Lk (fun i=>okR (C a i)))
   have HO:Hid (allB (L a) (fun t=>okR (C a t))=o):=by rw [Hid,ho.out,hLk.out]
   rw [←ho.out]
   clear p0 e1
   cases ho':o with
   | true =>
    subst ho'
    go_wp2
    go_roundw
    case rel=>exact⟨a+1,by omega,by go_num,all_succ (p:=fun j=>allB (L j) (fun t=>okR (C j t))=true) HA.out HO.out,eW⟩
    case measure=>simp [intOf]; omega
   | false =>
    subst ho'
    have HF:Hid (r=1):=by rw [Hid,hr.out]; unfold conCode; rw [if_pos (allB_false hlt HO.out)]
    go_wp2
    go_ret
    exact⟨ret_int HF.out.symm,hE.trans eW⟩
  ·have HR:Hid (r=if allB nd (fun i=>okR (D i))=false then 1 else if k < 1∨12 < k then 3 else if allB k (fun i=>decide (L i=n))=false then 4 else if nd≠k then 4 else 0):=by
    rw [Hid,hr.out]; unfold conCode; rw [if_neg (by rw [allB_true.2 (fun j hj=>HA.out j (by omega))]; simp)]
   clear hr HA
   replace o0:=eW.cell o0
   replace B0:=eW.block B0
   obtain⟨a0,-⟩:=cells3 B0
   go_wp2_with (go_at_call 17; refine Hid.out ?_)
   refine (r2_validList (hId.ext hEr) HDS.out).mono ?_
   obtain⟨s,hs⟩:=hid_eq (allB nd (fun i=>okR (D i)))
   rw [←hs.out]
   rintro e w2 ⟨rfl,e2⟩
   have hE2:=hEr.trans e2
   replace o0:=e2.cell o0
   replace B0:=e2.block B0
   clear a0 e2 hEr eW hE
   cases hs':s with
   | false =>
    subst hs'
    have HF:Hid (r=1):=by rw [Hid,HR.out,←hs.out]; rfl
    go_wp2
    go_ret
    exact⟨ret_int HF.out.symm,hE2⟩
   | true =>
   subst hs'
   have HR2:Hid (r=if k < 1∨12 < k then 3 else if allB k (fun i=>decide (L i=n))=false then 4 else if nd≠k then 4 else 0):=by rw [Hid,HR.out,←hs.out]; rfl
   clear HR hs
   by_cases hk1:1≤k
   case neg =>
    have HF:Hid (r=3):=by rw [Hid,HR2.out,if_pos (by omega)]
    go_wp2
    go_ret
    exact⟨ret_int HF.out.symm,hE2⟩
   case pos =>
   by_cases hk2:k≤12
   case neg =>
    have HF:Hid (r=3):=by rw [Hid,HR2.out,if_pos (by omega)]
    go_wp2
    go_ret
    exact⟨ret_int HF.out.symm,hE2⟩
   case pos =>
   have HR3:Hid (r=if allB k (fun i=>decide (L i=n))=false then 4 else if nd≠k then 4 else 0):=by rw [Hid,HR2.out,if_neg (by omega)]
   clear HR2
   go_wp2
   go_loopw [34] (fun i wr=>∃ b:Nat,b≤k∧i=.int .i64 b∧Hid (∀ j,j < b→decide (L j=n)=true)∧Ext w2 wr) (fun i _=>k - (intOf i).toNat)
   case atStart=>exact⟨0,Nat.zero_le _,rfl,fun j hj=>absurd hj (by omega),Ext.refl w2⟩
   case round =>
    obtain⟨b,hb,rfl,HA,eW⟩:=hrel
    by_cases hltb:b < k
    ·obtain⟨bc,offc,rfl,-,-,hx⟩:=(hIc.ext (hE2.trans eW)).addr (by omega)
     obtain⟨Ak,ck,p0,hkc,hck,-⟩:=hx b hltb
     obtain⟨Lk,hLk⟩:=hid_eq (L b)
     rw [←hLk.out] at p0 hkc
     unfold maxLen at hck
     obtain⟨a0,-⟩:=cells3 (eW.block B0)
     have o1:=eW.cell o0
     clear hx
     by_cases heq:Lk=n
     ·have t1:((Lk:Int) != (n:Int))=false:=by rw [heq]; simp
      have HD1:Hid (decide (L b=n)=true):=by rw [Hid,←hLk.out]; simpa using heq
      clear heq
      go_wp2
      go_roundw
      case rel=>exact⟨b+1,by omega,by go_num,all_succ (p:=fun j=>decide (L j=n)=true) HA.out HD1.out,eW⟩
      case measure=>simp [intOf]; omega
     ·have t1:((Lk:Int) != (n:Int))=true:=by rw [bne_iff_ne]; omega
      have HF:Hid (r=4):=by rw [Hid,HR3.out,if_pos (allB_false hltb (by rw [←hLk.out]; simpa using heq))]
      clear heq
      go_wp2
      go_ret
      exact⟨ret_int HF.out.symm,hE2.trans eW⟩
    ·have HR4:Hid (r=if nd≠k then 4 else 0):=by rw [Hid,HR3.out,if_neg (by rw [allB_true.2 (fun j hj=>HA.out j (by omega))]; simp)]
     clear HA HR3
     by_cases hnk:nd=k
     ·have t1:((nd:Int) != (k:Int))=false:=by rw [hnk]; simp
      have HF:Hid (r=0):=by rw [Hid,HR4.out,if_neg (by simpa using hnk)]
      clear hnk
      go_wp2
      go_ret
      exact⟨ret_int HF.out.symm,hE2.trans eW⟩
     ·have t1:((nd:Int) != (k:Int))=true:=by rw [bne_iff_ne]; omega
      have HF:Hid (r=4):=by rw [Hid,HR4.out,if_pos hnk]
      clear hnk
      go_wp2
      go_ret
      exact⟨ret_int HF.out.symm,hE2.trans eW⟩
set_option maxRecDepth 100000 in
theorem n_Constrained_bad {N lo hi lo2 hi2 loc hic lod hid:Nat} {w:World} {v1 v2 v3 vc vd:Value} {m n k nd:Nat} {X:Nat→Nat→Rat} {y p:Nat→Rat} {L:Nat→Nat} {C:Nat→Nat→Raw} {D:Nat→Raw} (h1:MtV N lo hi w v1 m n X) (h2:LsV N lo2 hi2 w v2 m y) (h3:LsV N lo2 hi2 w v3 m p) (hc:MtR N loc hic w vc k L C) (hd:LsR N lod hid w vd nd D) (hm0:0 < m) (hm:m≤64) (hn0:0 < n) (hn:n≤24) (hp:∀ i,i < m→0 < p i)
  {q:Nat} (hkx:HtM m n q X) (hky:HtL m q y) (hkp:HtL m q p) (hq:q≤29000000000) (hcs:∀ i,i < k→∀ j,j < L i→RawSz (C i j)) (hds:∀ i,i < nd→RawSz (D i)) (hbad:conCode n k L C nd D≠0) :
  Calls Tryz.prog 28 #[.agg #[v1,v2,v3],vc,vd] w (RetV w (.tuple #[.slice none 0 0,.slice none 0 0,.int .i64 (conCode n k L C nd D)])):=by
 have HCS:=Lib.hid hcs
 have HDS:=Lib.hid hds
 have HCK:Hid (∀ w1,Ext w w1→Calls Tryz.prog 58 #[.agg #[v1,v2,v3]] w1 (RetV w1 (.int .i64 0))):=fun w1 e1=>by
  have h9:=n_check (linV_of (h1.ext e1) (h2.ext e1) (h3.ext e1)) (linSz_of hkx hky hkp hq) (fun i hi=>(hkp i hi).sz hq)
  rw [codeOf_lin hm0 hm hn0 hn hp] at h9
  exact h9
 obtain⟨r,hr⟩:=hid_eq (conCode n k L C nd D)
 have HR0:Hid (r≠0):=by rw [Hid,hr.out]; exact hbad
 rw [←hr.out]
 obtain⟨A1,c1,rfl,hmc,hcm⟩:=h1.form
 obtain⟨A2,c2,rfl,hmc2,hcm2⟩:=h2.form
 obtain⟨A3,c3,rfl,hmc3,hcm3⟩:=h3.form
 obtain⟨A4,c4,rfl,hmc4,hcm4⟩:=hc.form
 obtain⟨A5,c5,rfl,hmc5,hcm5⟩:=hd.form
 have hIc:=hc
 have hId:=hd
 obtain⟨bb,off,rfl,-,-,hx1⟩:=h1.addr hm0
 obtain⟨A0,c0,o0,hc0,hm0',-⟩:=hx1 0 (by omega)
 rw [Nat.add_zero] at o0
 unfold maxLen at hm0' hcm4 hcm5
 clear h1 h2 h3 hc hd hx1 hkx hky hkp hp hcs hds hbad
 go_enter Tryz.func28,Tryz.ntmps28
 go_upto_region 1 with (fail)
 refine boxes1 ?_
 intro W hE hsz B0
 obtain⟨a0,a1,a2,-⟩:=cells3 B0
 go_wp2_with (go_at_call 58; refine Hid.out ?_)
 refine (HCK.out _ hE).mono ?_
 rintro e9 w1 ⟨rfl,e1⟩
 replace hE:=hE.trans e1
 replace B0:=e1.block B0
 replace o0:=hE.cell o0
 clear a0 a1 a2 e1 HCK hsz
 obtain⟨a0,a1,a2,-⟩:=cells3 B0
 go_upto_region 5 with (fail)
 refine boxes1 ?_
 intro w2 e2 hsz2 B2
 replace hE:=hE.trans e2
 clear a0 a1 a2 o0 B0
 obtain⟨s1,hs1⟩:=hid_eq (allB k (fun i=>allB (L i) (fun j=>okR (C i j))))
 go_wp2_with (go_at_call 76; refine Hid.out ?_)
 refine (n_canonical (hIc.ext hE) HCS.out).mono ?_
 rw [←hs1.out]
 rintro e9 w3 ⟨rfl,e3⟩
 replace hE:=hE.trans e3
 replace B2:=e3.block B2
 clear e2 e3 hsz2
 cases hs1':s1 with
 | false =>
  subst hs1'
  have HF:Hid (r=1):=by rw [Hid,hr.out]; unfold conCode; rw [if_pos hs1.out.symm]
  go_wp2
  first | go_ret3 | skip
  rw [HF.out]
  exact⟨rfl,hE⟩
 | true =>
 subst hs1'
 have HR1:Hid (r=if allB nd (fun i=>okR (D i))=false then 1 else if k < 1∨12 < k then 3 else if allB k (fun i=>decide (L i=n))=false then 4 else if nd≠k then 4 else 0):=by
  rw [Hid,hr.out]; unfold conCode; rw [if_neg (by rw [←hs1.out]; simp)]
 clear hr hs1
 obtain⟨s2,hs2⟩:=hid_eq (allB nd (fun i=>okR (D i)))
 go_wp2_with (go_at_call 76; refine Hid.out ?_)
 refine boxesC1 ?_
 intro w4 e4 hsz4 B4
 replace hE:=hE.trans e4
 replace B2:=e4.block B2
 refine (n_canonical (one_row (hId.ext hE) B4) (fun i hi j hj=>HDS.out j hj)).mono ?_
 rw [allB_one,←hs2.out]
 rintro e9 w5 ⟨rfl,e5⟩
 replace hE:=hE.trans e5
 replace B2:=e5.block B2
 clear e4 e5 hsz4 B4
 cases hs2':s2 with
 | false =>
  subst hs2'
  have HF:Hid (r=1):=by rw [Hid,HR1.out,if_pos hs2.out.symm]
  go_wp2
  first | go_ret3 | skip
  rw [HF.out]
  exact⟨rfl,hE⟩
 | true =>
 subst hs2'
 have HR2:Hid (r=if k < 1∨12 < k then 3 else if allB k (fun i=>decide (L i=n))=false then 4 else if nd≠k then 4 else 0):=by rw [Hid,HR1.out,if_neg (by rw [←hs2.out]; simp)]
 clear HR1 hs2
 by_cases hk1:1≤k
 case neg =>
  have HF:Hid (r=3):=by rw [Hid,HR2.out,if_pos (by omega)]
  go_wp2
  first | go_ret3 | skip
  rw [HF.out]
  exact⟨rfl,hE⟩
 case pos =>
 by_cases hk2:k≤12
 case neg =>
  have HF:Hid (r=3):=by rw [Hid,HR2.out,if_pos (by omega)]
  go_wp2
  first | go_ret3 | skip
  rw [HF.out]
  exact⟨rfl,hE⟩
 case pos =>
 have HR3:Hid (r=if allB k (fun i=>decide (L i=n))=false then 4 else if nd≠k then 4 else 0):=by rw [Hid,HR2.out,if_neg (by omega)]
 have HF:Hid (r=4):=by
  have h9:=HR0.out
  rw [Hid,HR3.out]
  rw [HR3.out] at h9
  split at h9
  ·rw [if_pos (by assumption)]
  ·rw [if_neg (by assumption)]
   split at h9
   ·rw [if_pos (by assumption)]
   ·exact absurd rfl h9
 have HAN:Hid (anyB k (fun i=>decide (L i≠n))=true∨nd≠k):=by
  by_cases h7:nd=k
  ·left
   cases h6:anyB k (fun i=>decide (L i≠n)) with
   | true=>rfl
   | false =>
    exfalso
    have h5:=anyB_false.1 h6
    apply HR0.out
    rw [HR3.out,if_neg (by rw [allB_true.2 (fun i hi=>by have:=h5 i hi; simpa using this)]; simp),if_neg (by simpa using h7)]
  ·exact .inr h7
 clear HR2 HR3 HR0
 obtain⟨gn,hgn⟩:∃ gn,gn=w1.heap.size:=⟨_,rfl⟩
 rw [←hgn] at B2 ⊢
 clear hgn
 obtain⟨n0,-⟩:=cells1 B2
 obtain⟨o,ho⟩:=hid_eq (anyB k (fun i=>decide (L i≠n)))
 rw [←ho.out] at HAN
 go_wp2_with (go_at_call 77; refine Hid.out ?_)
 refine (sl_ncon (hIc.ext hE) gn (fun i=>decide (L i≠n)) (fun i hi w' u e hu=>n_con1 (e.cell n0) hu)).mono ?_
 rw [←ho.out]
 rintro e9 w6 ⟨rfl,e6⟩
 replace hE:=hE.trans e6
 clear n0 e6 ho
 cases o with
 | true =>
  go_wp2
  first | go_ret3 | skip
  rw [HF.out]
  exact⟨rfl,hE⟩
 | false =>
  have hne:nd≠k:=by
   rcases HAN.out with h | h
   ·cases h
   ·exact h
  have t1:((nd:Int) != (k:Int))=true:=by rw [bne_iff_ne]; omega
  clear hne
  go_wp2
  first | go_ret3 | skip
  rw [HF.out]
  exact⟨rfl,hE⟩
theorem n_Residuals_bad {N lo hi lo' hi':Nat} {w:World} {v u:Value} {Z:Lin} {n:Nat} {R:Nat→Raw} (h:LinV N lo hi w v Z) (hx:LsR N lo' hi' w u n R) (hs:LinSz Z) (hp:∀ i,i < Z.np→RawS (Z.p i)) (hsx:∀ i,i < n→RawSz (R i)) (hc:givCode Z n R≠0) :
  Calls Tryz.prog 31 #[v,u] w (RetV w (.tuple #[.slice none 0 0,.int .i64 (givCode Z n R)])):=by
 have HS:=Lib.hid hs
 have HP:=Lib.hid hp
 have HSX:=Lib.hid hsx
 obtain⟨r,hr⟩:=hid_eq (givCode Z n R)
 have hr0:(r == 0)=false:=by rw [hr.out]; simpa using hc
 have hr1:(r != 0)=true:=by simpa using hr0
 rw [←hr.out]
 have hI:=h
 have hIx:=hx
 obtain⟨A1,c1,A2,c2,A3,c3,rfl,h1,h2,h3,hm,hnl,hnp⟩:=h.parts
 obtain⟨A4,c4,rfl,hnc,hcm4⟩:=hx.form
 clear h hx h1 h2 h3 hc hs hp hsx
 go_enter Tryz.func31,Tryz.ntmps31
 go_upto_region 1 with (fail)
 refine boxes1 ?_
 intro W hE hsz B0
 obtain⟨a0,a1,a2,-⟩:=cells3 B0
 go_wp2_with (go_at_call 80; refine Hid.out ?_)
 refine (n_given (hI.ext hE) (hIx.ext hE) HS.out HP.out HSX.out).mono ?_
 rintro e w1 ⟨rfl,e1⟩
 rw [←hr.out]
 clear a0 a1 a2
 go_wp2
 first | go_ret2 | skip
 exact⟨rfl,hE.trans e1⟩
theorem n_Gradient_bad {N lo hi lo' hi':Nat} {w:World} {v u:Value} {Z:Lin} {n:Nat} {R:Nat→Raw} (h:LinV N lo hi w v Z) (hx:LsR N lo' hi' w u n R) (hs:LinSz Z) (hp:∀ i,i < Z.np→RawS (Z.p i)) (hsx:∀ i,i < n→RawSz (R i)) (hc:givCode Z n R≠0) :
  Calls Tryz.prog 33 #[v,u] w (RetV w (.tuple #[.slice none 0 0,.int .i64 (givCode Z n R)])):=by
 have HS:=Lib.hid hs
 have HP:=Lib.hid hp
 have HSX:=Lib.hid hsx
 obtain⟨r,hr⟩:=hid_eq (givCode Z n R)
 have hr0:(r == 0)=false:=by rw [hr.out]; simpa using hc
 have hr1:(r != 0)=true:=by simpa using hr0
 rw [←hr.out]
 have hI:=h
 have hIx:=hx
 obtain⟨A1,c1,A2,c2,A3,c3,rfl,h1,h2,h3,hm,hnl,hnp⟩:=h.parts
 obtain⟨A4,c4,rfl,hnc,hcm4⟩:=hx.form
 clear h hx h1 h2 h3 hc hs hp hsx
 go_enter Tryz.func33,Tryz.ntmps33
 go_upto_region 1 with (fail)
 refine boxes1 ?_
 intro W hE hsz B0
 obtain⟨a0,a1,a2,-⟩:=cells3 B0
 go_wp2_with (go_at_call 80; refine Hid.out ?_)
 refine (n_given (hI.ext hE) (hIx.ext hE) HS.out HP.out HSX.out).mono ?_
 rintro e w1 ⟨rfl,e1⟩
 rw [←hr.out]
 clear a0 a1 a2
 go_wp2
 first | go_ret2 | skip
 exact⟨rfl,hE.trans e1⟩
theorem n_Residuals {N lo hi lo2 hi2 lo' hi':Nat} {w:World} {v1 v2 v3 v4:Value} {m n:Nat} {X:Nat→Nat→Rat} {y p x:Nat→Rat} (h1:MtV N lo hi w v1 m n X) (h2:LsV N lo2 hi2 w v2 m y) (h3:LsV N lo2 hi2 w v3 m p) (h4:LsV N lo' hi' w v4 n x) (hm0:0 < m) (hm:m≤64) (hn0:0 < n) (hn:n≤24) (hp:∀ i,i < m→0 < p i)
  {k kx:Nat} (hkX:HtM m n k X) (hky:HtL m k y) (hkp:HtL m k p) (hkx:HtL n kx x) (hkx1:kx≤29000000000) (hK:n*(k+kx+1)+1+k≤29000000000) :
  Calls Tryz.prog 31 #[.agg #[v1,v2,v3],v4] w (RetL2 N w m (fun i=>av n X x i - y i)):=by
 have HGV:Hid (∀ w1,Ext w w1→Calls Tryz.prog 80 #[.agg #[v1,v2,v3],v4] w1 (RetV w1 (.int .i64 0))):=fun w1 e1=>by
  have h9:=n_given (linV_of (h1.ext e1) (h2.ext e1) (h3.ext e1)) (h4.ext e1) (linSz_of hkX hky hkp (by omega)) (fun i hi=>(hkp i hi).sz (by omega)) (fun i hi=>((hkx i hi).sz hkx1).raw)
  rw [giv_good hm0 hm hn0 hn hp] at h9
  exact h9
 have HRS:Hid (∀ w1,Ext w w1→Calls Tryz.prog 81 #[.agg #[v1,v2,v3],v4] w1 (RetL N w1 m (fun i=>av n X x i - y i))) :=
  fun w1 e1=>n_residuals (h1.ext e1) (h2.ext e1) (h3.ext e1) (h4.ext e1) (by omega) hn0 (by omega) hkX hky hkx hK
 obtain⟨vv,hvv⟩:=hid_eq (fun i=>av n X x i - y i)
 rw [←hvv.out] at HRS ⊢
 obtain⟨A1,c1,rfl,-⟩:=h1.form
 obtain⟨A2,c2,rfl,-⟩:=h2.form
 obtain⟨A3,c3,rfl,-⟩:=h3.form
 obtain⟨A4,c4,rfl,-⟩:=h4.form
 clear h1 h2 h3 h4 hkX hky hkp hkx hK hp
 go_enter Tryz.func31,Tryz.ntmps31
 go_upto_region 1 with (fail)
 refine boxes1 ?_
 intro W hE hsz B0
 obtain⟨a0,a1,a2,-⟩:=cells3 B0
 go_wp2_with (go_at_call 80; refine Hid.out ?_)
 refine (HGV.out W hE).mono ?_
 rintro e w1 ⟨rfl,e1⟩
 replace hE:=hE.trans e1
 replace B0:=e1.block B0
 clear a0 a1 a2 e1 hsz HGV
 obtain⟨a0,a1,a2,-⟩:=cells3 B0
 go_wp2_with (go_at_call 81; refine Hid.out ?_)
 refine (HRS.out _ hE).mono ?_
 rintro e w2 ⟨A5,c5,rfl,h5,e2⟩
 have hs:=hE.size
 go_wp2
 first | go_ret2 | skip
 exact⟨A5,c5,rfl,LsR.wide h5 hs (Nat.le_refl _) (Nat.le_refl _),hE.trans e2⟩
def grN (n:Nat) (K:Nat→Nat→Rat) (b x:Nat→Rat) (i:Nat):Rat:=((2:Int):Rat)*(sum n (fun c=>K i c*x c) - b i)
theorem grN_grd {m n:Nat} {X:Nat→Nat→Rat} {y p x:Nat→Rat} (i:Nat):grN n (nmat X p m) (nrhs X y p m) x i=grd m X p (fun a=>av n X x a - y a) i:=by
 unfold grN grd nmat nrhs av
 rw [sum_congr (g:=fun c=>sum m (fun t=>p t*X t i*(X t c*x c))) (fun c _=>by rw [←sum_mul_right]; exact sum_congr (fun t _=>by grind)),sum_comm,←sum_sub,←sum_mul]
 refine sum_congr (fun t _=>?_)
 rw [sum_mul n (p t*X t i) (fun c=>X t c*x c)]
 show _=((2:Int):Rat)*(p t*(X t i*(sum n (fun c=>X t c*x c) - y t)))
 generalize sum n (fun c=>X t c*x c)=z
 grind
set_option maxRecDepth 100000 in
theorem n_Gradient {N lo hi lo2 hi2 lo' hi':Nat} {w:World} {v1 v2 v3 v4:Value} {m n:Nat} {X:Nat→Nat→Rat} {y p x:Nat→Rat} (h1:MtV N lo hi w v1 m n X) (h2:LsV N lo2 hi2 w v2 m y) (h3:LsV N lo2 hi2 w v3 m p) (h4:LsV N lo' hi' w v4 n x) (hm0:0 < m) (hm:m≤64) (hn0:0 < n) (hn:n≤24) (hp:∀ i,i < m→0 < p i)
  {k kx Q:Nat} (hkX:HtM m n k X) (hky:HtL m k y) (hkp:HtL m k p) (hkx:HtL n kx x) (hkx1:kx≤29000000000) (hQ:m*(3*k+1)+3*k+2=Q) (hK:n*(Q+kx+1)+Q+5≤29000000000) :
  Calls Tryz.prog 33 #[.agg #[v1,v2,v3],v4] w (RetL2 N w n (grN n (nmat X p m) (nrhs X y p m) x)):=by
 have HX:=Lib.hid hkX
 have HY:=Lib.hid hky
 have HP:=Lib.hid hkp
 have HXX:=Lib.hid hkx
 have HQ:Hid (m*(3*k+1)+3*k+2≤29000000000):=by rw [Hid]; omega
 have HGV:Hid (∀ w1,Ext w w1→Calls Tryz.prog 80 #[.agg #[v1,v2,v3],v4] w1 (RetV w1 (.int .i64 0))):=fun w1 e1=>by
  have h9:=n_given (linV_of (h1.ext e1) (h2.ext e1) (h3.ext e1)) (h4.ext e1) (linSz_of hkX hky hkp (by omega)) (fun i hi=>(hkp i hi).sz (by omega)) (fun i hi=>((hkx i hi).sz hkx1).raw)
  rw [giv_good hm0 hm hn0 hn hp] at h9
  exact h9
 have HKK:Hid (HtM n n Q (nmat X p m)):=(nmat_ht hkX hkp (Nat.le_refl _) (Nat.le_refl _)).mono (by omega)
 have HKR:Hid (HtL n Q (nrhs X y p m)):=(nrhs_ht hkX hky hkp (Nat.le_refl _) (Nat.le_refl _)).mono (by omega)
 obtain⟨K,hKd⟩:=hid_eq (nmat X p m)
 obtain⟨R,hRd⟩:=hid_eq (nrhs X y p m)
 rw [←hKd.out] at HKK ⊢
 rw [←hRd.out] at HKR ⊢
 have HKR2:Hid (∀ i,i < n→HtL n Q (K i)):=fun i hi=>HKK.out i hi
 have HNK:Hid (n*(Q+kx+1)+1≤29000000000):=by rw [Hid]; omega
 have h2h:Ht 2 ((2:Int):Rat):=ht_nat 2 2 (by omega) (by omega)
 have HSS:Hid (∀ i,i < n→Sz (sum n (fun c=>K i c*x c))∧Sz (R i)∧Sz (sum n (fun c=>K i c*x c) - R i)):=fun i hi=>by
  have h9:=sum_ht (n:=n) (k:=Q+kx) (K:=n*(Q+kx+1)+1) (fun c hc=>(HKK.out i hi c hc).mul (hkx c hc)) (Nat.le_refl n) (Nat.le_refl _)
  exact⟨h9.sz (by omega),(HKR.out i hi).sz (by omega),(h9.sub (HKR.out i hi)).sz (by omega)⟩
 have HS2:Hid (Sz ((2:Int):Rat)):=h2h.sz (by omega)
 obtain⟨G,hG⟩:=hid_eq (grN n K R x)
 have HGN:Hid (∀ i,((2:Int):Rat)*(sum n (fun c=>K i c*x c) - R i)=G i):=fun i=>by rw [hG.out]; rfl
 rw [←hG.out]
 obtain⟨Rf,hRf⟩:=hid_eq (RetL2 N w n G)
 rw [←hRf.out]
 have hN:=h1.le
 obtain⟨A1,c1,rfl,hmc,hcm⟩:=h1.form
 obtain⟨A2,c2,rfl,hmc2,hcm2⟩:=h2.form
 obtain⟨A3,c3,rfl,hmc3,hcm3⟩:=h3.form
 obtain⟨A4,c4,rfl,hmc4,hcm4⟩:=h4.form
 have hI1:=h1
 have hI2:=h2
 have hI3:=h3
 have hI4:=h4
 clear h1 h2 h3 h4 hkX hky hkp hkx hkx1 hK hQ hp h2h
 go_enter Tryz.func33,Tryz.ntmps33
 go_upto_region 1 with (fail)
 refine boxes1 ?_
 intro W hE hsz B0
 obtain⟨a0,a1,a2,-⟩:=cells3 B0
 go_wp2_with (go_at_call 80; refine Hid.out ?_)
 refine (HGV.out W hE).mono ?_
 rintro e w1 ⟨rfl,e1⟩
 replace hE:=hE.trans e1
 replace B0:=e1.block B0
 clear a0 a1 a2 e1 hsz HGV
 obtain⟨a0,a1,a2,-⟩:=cells3 B0
 go_wp2_with (go_at_call 59; refine Hid.out ?_)
 refine (n_built (lo:=0) (hi:=w1.heap.size) (MtR.wide (hI1.ext hE) (Nat.zero_le _) (hI1.ext hE).2.1 (Nat.le_refl _)) (LsR.wide (hI2.ext hE) (Nat.zero_le _) (hI2.ext hE).2.1 (Nat.le_refl _)) (LsR.wide (hI3.ext hE) (Nat.zero_le _) (hI3.ext hE).2.1 (Nat.le_refl _)) hm0 (by omega) hn0 (by omega) HX.out HY.out HP.out HQ.out).mono ?_
 rintro e w2 ⟨h,cap,g,rfl,hM,hr2,e2⟩
 rw [←hKd.out] at hM
 rw [←hRd.out] at hr2
 replace hE:=hE.trans e2
 clear a0 a1 a2 e2 B0
 go_upto_region 6 with (fail)
 refine boxes1 ?_
 intro w3 e3 hsz3 B3
 replace hE:=hE.trans e3
 replace hM:=hM.ext e3
 replace hr2:=hr2.ext e3
 obtain⟨gb,hgb⟩:∃ gb,gb=w2.heap.size:=⟨_,rfl⟩
 rw [←hgb] at B3 ⊢
 have hws:w.heap.size≤w3.heap.size:=hE.size
 clear e3 hgb hsz3
 obtain⟨d0,d1,-⟩:=cells2 B3
 have hN3:N≤w3.heap.size:=by omega
 go_wp2
 clear d0 d1
 go_loopw [8,24] (fun v i wr=>∃ a:Nat,a≤n∧i=.int .i64 a∧Ext w3 wr∧∃ A c,v=.slice A a c∧Grow N w3.heap.size wr (.slice A a c) a G) (fun _ i _=>n - (intOf i).toNat)
 case atStart=>exact⟨0,Nat.zero_le _,rfl,Ext.refl w3,_,_,rfl,Grow.nil hN3 (Nat.le_refl _) _⟩
 case round =>
  obtain⟨i,hi',rfl,hEr,A6,c6,rfl,hGr⟩:=hrel
  have hsr:=hEr.size
  by_cases hlt:i < n
  ·obtain⟨b,off,hA,-,-,hx⟩:=(hM.ext hEr).addr (by omega)
   obtain⟨rfl,rfl⟩:h=b∧0=off:=by injection hA with hA; injection hA with e1 e2; exact⟨e1,e2⟩
   obtain⟨A7,c7,o0,-,hc7,hrow⟩:=hx i hlt
   rw [Nat.zero_add] at o0
   unfold maxLen at hc7
   clear hx hA
   go_wp2_with (go_at_call 85; refine Hid.out ?_)
   refine (f_dot hrow (hI4.ext (hE.trans hEr)) (HKR2.out i hlt) HXX.out HNK.out).mono ?_
   rintro e w4 ⟨v5,rfl,h5,e4⟩
   obtain⟨n1,A11,k11,c11,A12,k12,c12,rfl,hb1,g1,g2⟩:=RatV.parts h5
   replace hEr:=hEr.trans e4
   replace hGr:=hGr.ext e4
   clear o0 hrow h5 e4
   obtain⟨b2,off2,hA,-,-,hx2⟩:=(hr2.ext hEr).addr (by omega)
   obtain⟨rfl,rfl⟩:g=b2∧0=off2:=by injection hA with hA; injection hA with e1 e2; exact⟨e1,e2⟩
   obtain⟨n2,A9,k9,c9,A10,k10,c10,q0,q1,q2,q3,hb2,g3,g4⟩:=(hx2 i hlt).open
   rw [Nat.zero_add] at q0 q1 q2 q3
   clear hx2 hA
   go_upto_region 10 with (fail)
   refine boxes1 ?_
   intro w5 e5 hsz5 B5
   obtain⟨t0,t1,t2,t3,-⟩:=cells4 B5
   obtain⟨d0,d1,-⟩:=cells2 (e5.block (hEr.block B3))
   replace q0:=e5.cell q0
   replace q1:=e5.cell q1
   replace q2:=e5.cell q2
   replace q3:=e5.cell q3
   replace g1:=g1.ext e5
   replace g2:=g2.ext e5
   replace g3:=g3.ext e5
   replace g4:=g4.ext e5
   replace hGr:=hGr.ext e5
   have hs4:=hEr.size
   have hEw:=hEr.trans e5
   have hs5:=hEw.size
   obtain⟨gz,hgz⟩:∃ gz,gz=w4.heap.size:=⟨_,rfl⟩
   rw [←hgz] at t0 t1 t2 t3 hsz5 hs4 ⊢
   clear B5 e5 d0 hgz
   obtain⟨z1,z2,z3⟩:=HSS.out i hlt
   have HY1:=Lib.hid z1
   have HY2:=Lib.hid z2
   have HY3:=Lib.hid z3
   have HYG:=Lib.hid (HGN.out i)
   clear z1 z2 z3
   have eC:=(Ext.refl w5).drew
   refine region_late (fun w'=>w'.cell? ⟨gz,0,none⟩=some (.bool n1)∧w'.cell? ⟨gz,1,none⟩=some (.slice A11 k11 c11)∧w'.cell? ⟨gz,2,none⟩=some (.bool false)∧w'.cell? ⟨gz,3,none⟩=some (.slice A12 k12 c12)∧w'.cell? ⟨gb,1,none⟩=some (.slice (some ⟨g,0,none⟩) n n)∧w'.cell? ⟨g,i*4,none⟩=some (.bool n2)∧w'.cell? ⟨g,i*4+1,none⟩=some (.slice A9 k9 c9)∧w'.cell? ⟨g,i*4+2,none⟩=some (.bool false)∧w'.cell? ⟨g,i*4+3,none⟩=some (.slice A10 k10 c10)) [11] (by kernel_rfl) (by exact⟨eC.cell t0,eC.cell t1,eC.cell t2,eC.cell t3,eC.cell d1,eC.cell q0,eC.cell q1,eC.cell q2,eC.cell q3⟩) (fun hHeld=>?_)
   refine sP 0 (h:=?_)
   try simp only [nr]
   refine sT 2 (h:=?_)
   try simp only [nr]
   refine sP 3 (h:=?_)
   try simp only [nr]
   refine sT 4 (h:=?_)
   try simp only [nr]
   refine sP 5 (h:=?_)
   try simp only [nr]
   refine sP 6 (h:=?_)
   try simp only [nr]
   refine sT 7 (h:=?_)
   try simp only [nr]
   refine stepL_only (i:=1) rfl (by kernel_rfl) (fun K hK=>?_)
   go_simp
   refine (f_whole (N:=N) (by have:=eC.size; omega) 2 (by omega) (by omega)).mono ?_
   rintro e w6 ⟨v6,rfl,h6,e6⟩
   replace eC:=eC.trans e6
   go_wp2_with fail
   clear hHeld
   refine hK.out _ _ (by exact⟨eC.cell t0,eC.cell t1,eC.cell t2,eC.cell t3,eC.cell d1,eC.cell q0,eC.cell q1,eC.cell q2,eC.cell q3⟩) fun hHeld=>?_
   clear hK K
   try simp only [nr]
   refine stepL_only (i:=8) rfl (by kernel_rfl) (fun K hK=>?_)
   go_simp
   refine (f_sub (by exact (RatV.mk hb1 g1 g2).ext eC) (by exact (RatV.mk hb2 g3 g4).ext eC) HY1.out HY2.out).mono ?_
   rintro e w7 ⟨v7,rfl,h7,e7⟩
   have h6x:=h6.ext e7
   replace eC:=eC.trans e7
   go_wp2_with fail
   clear hHeld
   refine hK.out _ _ (by exact⟨eC.cell t0,eC.cell t1,eC.cell t2,eC.cell t3,eC.cell d1,eC.cell q0,eC.cell q1,eC.cell q2,eC.cell q3⟩) fun hHeld=>?_
   clear hK K
   try simp only [nr]
   refine stepL_only (i:=9) rfl (by kernel_rfl) (fun K hK=>?_)
   go_simp
   refine (f_mul (by exact h6x) (by exact h7) HS2.out HY3.out).mono ?_
   rw [HYG.out]
   intro e w8 hh
   obtain⟨b3,A13,k13,c13,A14,k14,c14,rfl,hb3,g5,g6,e8⟩:=hh.form
   replace eC:=eC.trans e8
   go_wp2_with fail
   clear hHeld
   refine hK.out _ _ (by exact⟨eC.cell t0,eC.cell t1,eC.cell t2,eC.cell t3,eC.cell d1,eC.cell q0,eC.cell q1,eC.cell q2,eC.cell q3⟩) fun hHeld=>?_
   clear hK K
   try simp only [nr]
   refine stepL_only (i:=10) rfl (by kernel_rfl) (fun K hK=>?_)
   go_simp
   first | refine boxes1 ?_ | refine boxesD1 ?_
   intro w9 e9 hsz9 BX
   replace eC:=eC.trans e9
   replace g5:=g5.ext e9
   replace g6:=g6.ext e9
   have hG7:=hGr.ext eC
   have hE7:=hEw.trans eC
   clear hHeld
   refine hK.out _ _ (by exact⟨eC.cell t0,eC.cell t1,eC.cell t2,eC.cell t3,eC.cell d1,eC.cell q0,eC.cell q1,eC.cell q2,eC.cell q3⟩) fun hHeld=>?_
   clear hK K
   try simp only [nr]
   refine stepL_late (i:=11) rfl (by kernel_rfl) (by kernel_rfl) (fun K hK=>?_)
   refine step_append_rat rfl _ _ 24 Tryz.underlying24 rfl (by rfl) hG7 (by rfl) BX hb3 g5 g6 (by omega) ?_
   rintro gq cap' w10 hG8 ⟨g',hg',c15,-⟩ -
   replace hE7:=c15.ext hE7 hg'
   replace hG8:=hG8.congr (y:=G) (fun j _=>by unfold upd; split <;> simp_all)
   refine hK.out _ _ ?_
   clear hK K
   try simp only [nr]
   refine sP 12 (h:=?_)
   try simp only [nr]
   refine stepL_done (by kernel_rfl) ?_ _
   clear hHeld
   clear t0 t1 t2 t3 q0 q1 q2 q3 d1 g1 g2 g3 g4 g5 g6 hb1 hb2 hb3 BX hGr hG7 c15 hEr hEw eC
   go_wp2
   go_roundw
   case rel=>exact⟨i+1,by omega,by go_num,hE7,_,_,rfl,hG8⟩
   case measure=>simp [intOf]; omega
  ·obtain rfl:n=i:=by omega
   go_wp2
   first | go_ret2 | skip
   rw [hRf.out]
   exact⟨A6,c6,rfl,hGr.lsv hws rfl,hE.trans hEr⟩
theorem rref_more (m:Nat) (Y:Nat→Nat→Rat) (j:Nat):∀ d,∃ l,(rref m Y (j+d)).2=(rref m Y j).2 ++ l∧∀ x∈l,j≤x
 | 0=>⟨[],by simp,by simp⟩
 | d+1=>by
  obtain⟨l,h1,h2⟩:=rref_more m Y j d
  show ∃ l,(rstep m (rref m Y (j+d)) (j+d)).2=_∧_
  unfold rstep
  simp only []
  split
  ·refine⟨l ++ [j+d],by rw [h1,List.append_assoc],fun x hx=>?_⟩
   rcases List.mem_append.1 hx with h | h
   ·exact h2 x h
   ·rw [List.mem_singleton] at h; omega
  ·exact⟨l,h1,h2⟩
theorem inv_last {n:Nat} (hn:0 < n) (Y:Nat→Nat→Rat) :
  ((n≤(rref n Y (n+n)).2.length∧(rref n Y (n+n)).2[n - 1]?.getD 0 < n)↔(rref n Y n).2.length=n)∧((rref n Y n).2.length=n→rref n Y (n+n)=rref n Y n):=by
 have hl:=(rref_len n Y n).1
 have h1:(rref n Y n).2.length=n→rref n Y (n+n)=rref n Y n:=fun h=>rref_full (j:=n) (by omega) (n+n) (by omega)
 refine⟨⟨fun ⟨h2,h3⟩=>?_,fun h=>?_⟩,h1⟩
 ·obtain⟨l,h4,h5⟩:=rref_more n Y n n
  by_cases h6:(rref n Y n).2.length=n
  ·exact h6
  ·rw [h4] at h2 h3
   rw [List.length_append] at h2
   rw [List.getElem?_append_right (by omega)] at h3
   rw [List.getElem?_eq_getElem (by omega)] at h3
   have:=h5 _ (List.getElem_mem (l:=l) (n:=n - 1 - (rref n Y n).2.length) (by omega))
   simp only [Option.getD_some] at h3
   omega
 ·rw [h1 h]
  exact⟨by omega,(rref_ok n Y n).low (n - 1) (by omega)⟩
def RetIvO (N:Nat) (w:World) (n:Nat) (ok:Bool) (Z:Nat→Nat→Rat) (e:Ending) (w':World):Prop :=
 Ext w w'∧((ok=false∧e=.returned (.tuple #[.slice none 0 0,.bool false]))∨(ok=true∧∃ A c,e=.returned (.tuple #[.slice A n c,.bool true])∧MtV N w.heap.size w'.heap.size w' (.slice A n c) n n Z))
def ivB (n:Nat) (X:Nat→Nat→Rat):Bool:=decide ((rref n (augI n X) n).2.length=n)
theorem RowB.tail {N:Nat} {w:World} {b k n:Nat} {x:Nat→Rat} (h:RowB N w b k (n+n) x) {c lo hi:Nat} (hc:n≤c) (hm:c≤maxLen) (h1:lo≤b) (h2:b < hi) (h3:hi≤w.heap.size) :
  LsV N lo hi w (.slice (some ⟨b,n*4,none⟩) n c) n (fun j=>x (n+j)):=by
 refine⟨by have:=h.1; omega,h3,_,c,rfl,hc,hm,fun _=>⟨b,n*4,rfl,h1,h2,fun i hi=>?_⟩⟩
 have:=h.2.2.2 (n+i) (by omega)
 rw [Nat.add_mul] at this
 exact this
set_option maxRecDepth 100000 in
theorem r5_inverse {N lo hi:Nat} {w:World} {v:Value} {n:Nat} {X:Nat→Nat→Rat} (h:MtV N lo hi w v n n X) (hn0:0 < n) (hn:n < 100000)
  {q:Nat} (hq:HtM n n q X) (hK:5*(5 ^ n*(q+1))≤29000000000) :
  Calls Tryz.prog 71 #[v] w (RetIvO N w n (ivB n X) (invM n X)):=by
 obtain⟨Rf,hRf⟩:=hid_eq (RetIvO N w n (ivB n X) (invM n X))
 rw [←hRf.out]
 have hN:=h.le
 obtain⟨A,c,rfl,hmc,hcm⟩:=h.form
 have hI:=h
 have HA:Hid (HtM n (n+n) (q+1) (augI n X)):=htM_augI hq
 have HE:Hid (∀ w1 v1 lo1 hi1,MtV N lo1 hi1 w1 v1 n (n+n) (augI n X)→Calls Tryz.prog 62 #[v1] w1 (RetEch N w1 n (n+n) (rref n (augI n X) (n+n)).1 (rref n (augI n X) (n+n)).2)) :=
  fun w1 v1 lo1 hi1 h1=>r5_echelon (P:=n) h1 hn0 (by omega) (by omega) (by omega) HA.out (.inl (Nat.le_refl _)) hK
 have HL1:Hid (ivB n X=decide (n≤(rref n (augI n X) (n+n)).2.length∧(rref n (augI n X) (n+n)).2[n - 1]?.getD 0 < n)):=by
  rw [Hid]; unfold ivB; exact decide_eq_decide.2 (inv_last hn0 (augI n X)).1.symm
 have HL2:Hid (ivB n X=true→invM n X=fun i j=>(rref n (augI n X) (n+n)).1 i (n+j)):=fun h9=>by
  rw [(inv_last hn0 (augI n X)).2 (of_decide_eq_true h9)]; rfl
 have hpl:(rref n (augI n X) (n+n)).2.length≤n:=(rref_len n _ _).1
 generalize rref n (augI n X) (n+n)=st at HE HL1 HL2 hpl
 obtain⟨M,p⟩:=st
 simp only at HE HL1 HL2 hpl
 obtain⟨np,hnp⟩:=hid_eq p.length
 rw [←hnp.out] at hpl HL1
 obtain⟨ok,hok⟩:=hid_eq (ivB n X)
 rw [←hok.out] at hRf HL1 HL2
 unfold maxLen at hcm
 clear h hq hK
 go_enter Tryz.func71,Tryz.ntmps71
 go_wp2_with (go_at_call 135; refine Hid.out ?_)
 refine (r5_identity hN n rfl hn0 (by omega)).mono ?_
 intro e w1 hh
 obtain⟨A1,c1,rfl,h1,e1⟩:=hh.mt
 clear hh
 go_wp2_with (go_at_call 134; refine Hid.out ?_)
 refine (r5_beside (hI.ext e1) h1 (by omega) hn0 (by omega)).mono ?_
 intro e w2 hh
 obtain⟨A2,c2,rfl,h2,e2⟩:=hh.mt
 clear hh
 go_wp2_with (go_at_call 62; refine Hid.out ?_)
 refine (HE.out w2 _ _ _ h2).mono ?_
 rintro e w3 ⟨h,cap,β,κ,A',c',rfl,hcap,ho,hi',e3⟩
 have hE:=(e1.trans e2).trans e3
 have hs1:=e1.size
 have hs2:=e2.size
 have hs3:=e3.size
 have hlo:w.heap.size≤w2.heap.size:=by omega
 have hNlo:N≤w2.heap.size:=by omega
 rw [←hnp.out] at hi' ⊢
 clear h1 h2 e1 e2 e3
 have hcap':=hcap
 unfold maxLen at hcap
 obtain⟨lo3,hlo3⟩:∃ lo3,lo3=w2.heap.size:=⟨_,rfl⟩
 rw [←hlo3] at ho hi' hlo hNlo
 by_cases hlt:np < n
 ·have HB:Hid (ok=false):=by rw [Hid,HL1.out]; exact decide_eq_false (fun h9=>by omega)
  go_wp2
  rw [hRf.out]
  exact⟨hE,.inl ⟨HB.out,rfl⟩⟩
 ·obtain rfl:np=n:=by omega
  obtain⟨b,off,z,rfl,c0,hz⟩:=hi'.at_ (i:=np - 1) (by rw [←hnp.out]; omega)
  have hsub:((np:Int) - 1)=((np - 1:Nat):Int):=by omega
  obtain⟨nq,hnq⟩:∃ nq,nq=np - 1:=⟨_,rfl⟩
  have hnq1:((np:Int) - 1)=(nq:Int):=by omega
  have hnq2:nq < np:=by omega
  rw [←hnq] at c0 hz
  by_cases hzn:z < np
  ·have HB:Hid (ok=true):=by
    rw [Hid,HL1.out]
    refine decide_eq_true ⟨Nat.le_refl _,?_⟩
    rw [←hnq,←hz.out]; exact hzn
   clear hsub hnq hz
   have hZZ:Hid (invM np X=fun i j=>M i (np+j)):=HL2.out HB.out
   obtain⟨Z,hZ⟩:=hid_eq (invM np X)
   rw [←hZ.out] at hRf hZZ
   have hzd:decide (np≤z)=false:=decide_eq_false (by omega)
   clear HL2 HL1 HE HA hI hi' hpl
   go_upto_region 6 with (fail)
   clear c0 hnq1 hnq2
   refine boxes1 ?_
   intro W e4 hsz4 B0
   have hG0:GrowM N w3.heap.size W.heap.size W (.slice (some ⟨w3.heap.size,0,none⟩) 0 0) 0 np Z:=GrowM.empty (by omega) (Nat.le_refl _) (by omega) (Nat.le_refl _) B0 _
   clear B0
   go_wp2
   go_loopw [7,8] (fun v i wr=>∃ k:Nat,k≤np∧i=.int .i64 k∧Ext w3 wr∧∃ h c,v=.slice (some ⟨h,0,none⟩) k c∧GrowM N w3.heap.size wr.heap.size wr (.slice (some ⟨h,0,none⟩) k c) k np Z) (fun _ i _=>np - (intOf i).toNat)
   case atStart=>exact⟨0,Nat.zero_le _,rfl,e4,_,_,rfl,hG0⟩
   case round =>
    clear hG0 hsz4 e4
    obtain⟨k,hk,rfl,hEr,h',c',rfl,hG⟩:=hrel
    have hsz:=hEr.size
    by_cases hlt:k < np
    ·have hor:=ho.ext hEr
     have p0:=hor.hcell hlt
     have hbl:h < wr.heap.size:=cell_lt p0
     have hrow:=hor.row k hlt
     have hκ:=hrow.2.1
     have hκm:=hor.cap k hlt
     have hβ:=hor.hi_ k hlt
     have hne:¬ np=κ k:=by omega
     have hl:LsV N 0 wr.heap.size wr (.slice (some ⟨β k,np*4,none⟩) np (κ k - np)) np (Z k):=by
      rw [hZZ.out]
      exact hrow.tail (by omega) (by unfold maxLen at hκm ⊢; omega) (Nat.zero_le _) (by omega) (Nat.le_refl _)
     have hcapk:κ k≤9223372036854775807:=by unfold maxLen at hκm; omega
     clear hrow hκm hor
     go_wp2_with (at_builtin; refine Hid.out ?_)
     refine boxes1 ?_
     intro W1 e5 hsz1 B1
     have hR:Grow N wr.heap.size W1 (.slice (some ⟨wr.heap.size,0,none⟩) 0 0) 0 (Z k):=Grow.empty (by omega) (Nat.le_refl _) B1 _
     replace hG:=hG.ext e5
     replace hEr:=hEr.trans e5
     refine wpList_append_list rfl _ _ 24 Tryz.underlying24 rfl (by rfl) hR (by simp [Act.eval,hne]) (hl.ext e5) (by omega:0+np < 1000000000) ?_
     rintro A' c2 w4 hR2 ⟨g',hg',c3,-⟩
     rw [Nat.zero_add] at hR2 ⊢
     replace hEr:=c3.ext hEr (by omega)
     replace hG:=hG.chg c3 (by omega) (.inl hg')
     replace hR2:=hR2.congr (y:=Z k) (fun i hi=>by unfold cat; simp)
     obtain⟨g,cap',hv,hg,hgs,hcm,hnc,hrow⟩:=hR2.some hn0
     injection hv with e2 e3 e4
     subst e2 e4
     have hsz2:wr.heap.size≤w4.heap.size:=Nat.le_trans e5.size c3.size
     clear hR hR2 c3 B1 e5 hsz1 p0 hl
     go_wp2_with (at_builtin; refine Hid.out ?_)
     refine boxes1 ?_
     intro w5 e6 hsz3 BX
     replace hEr:=hEr.trans e6
     replace hG:=hG.ext e6
     refine wpList_append_row rfl _ _ 23 Tryz.underlying23 rfl rfl hG rfl (hrow.ext e6) hg hcm BX (by omega) ?_
     rintro h'' cap'' w6 hG3 ⟨g',hg',c3,-⟩
     replace hEr:=c3.ext hEr (by omega)
     replace hG3:=hG3.congr (B:=Z) (fun i _ j _=>by unfold updM; split <;> simp_all)
     clear hG c3 hrow BX e6
     go_wp2
     go_roundw
     case rel=>exact⟨k+1,by omega,by go_num,hEr,_,_,rfl,hG3⟩
     case measure=>simp [intOf]; omega
    ·obtain rfl:k=np:=by omega
     go_wp2
     rw [hRf.out]
     exact⟨hE.trans hEr,.inr ⟨HB.out,_,_,rfl,MtR.wide hG.mtv (by omega) (Nat.le_refl _) (Nat.le_refl _)⟩⟩
  ·have HB:Hid (ok=false):=by
    rw [Hid,HL1.out]
    refine decide_eq_false (fun h9=>?_)
    have:=h9.2
    rw [←hnq,←hz.out] at this; exact hzn this
   clear hsub hnq hz
   go_wp2
   rw [hRf.out]
   exact⟨hE,.inl ⟨HB.out,rfl⟩⟩
end Go.Proofs.YtccepmpebioeiaaGreat
namespace Go.Proofs.YtccepmpebioeiaaGreat
theorem nmat_nm5 (m:Nat) (B:Nat→Nat→Rat) (p:Nat→Rat) (i j:Nat):nmat B p m i j=nm m B p i j:=sum_congr fun t _=>by grind
theorem nsv_sum {n:Nat} {K:Nat→Nat→Rat} {b:Nat→Rat} (h:Reg n K):∀ i,i < n→sum n (fun c=>K i c*nsv n K b c)=b i:=(reg_solve h b).2
theorem nsv_ht {n q P:Nat} {K:Nat→Nat→Rat} {b:Nat→Rat} (hK:HtM n n q K) (hb:HtL n q b) (hP:n≤P):HtL n (n*(5 ^ P*q+2)+1) (nsv n K b):=by
 have hk3:HtM n (n+1) q (aug n K b):=fun i hi c hc=>by
  unfold aug
  split
  ·exact hK i hi c ‹_›
  ·exact hb i hi
 have hk4:HtM n (n+1) (5 ^ P*q) (rref n (aug n K b) (n+1)).1:=rref_ht' (p:=P) hk3 (j:=n+1) (Nat.le_refl _) (.inl hP)
 have hlen:=(rref_len n (aug n K b) (n+1)).1
 intro c hc
 unfold nsv sol
 refine Ht.mono (sum_ht (n:=(rref n (aug n K b) (n+1)).2.length) (k:=5 ^ P*q+1) (K:=(rref n (aug n K b) (n+1)).2.length*(5 ^ P*q+1+1)+1) (fun s hs=>Ht.mono (Ht.mul (k:=1) ?_ (hk4 s (by omega) n (by omega))) (by omega)) (Nat.le_refl _) (Nat.le_refl _)) ?_
 ·unfold dlt; split
  ·exact Ht.one
  ·exact Ht.zero
 ·exact Nat.succ_le_succ (Nat.mul_le_mul_right _ hlen)
theorem nsv_nsol {m n:Nat} {X:Nat→Nat→Rat} {y p:Nat→Rat} (h:Reg n (nmat X p m)):Nsol m n X p y (nsv n (nmat X p m) (nrhs X y p m)):=by
 intro a ha
 rw [sum_congr (fun b _=>by rw [←nmat_nm5]),nsv_sum h a ha]
 exact sum_congr fun t _=>by grind
theorem nsv_grd {m n:Nat} {X:Nat→Nat→Rat} {y p:Nat→Rat} (h:Reg n (nmat X p m)):∀ j,j < n→grd m X p (fun a=>av n X (nsv n (nmat X p m) (nrhs X y p m)) a - y a) j=0:=by
 intro j hj
 rw [←grN_grd]
 unfold grN
 rw [nsv_sum h j hj]
 grind
theorem nsv_least {m n:Nat} {X:Nat→Nat→Rat} {y p:Nat→Rat} (hp:∀ i,i < m→0 < p i) (h:Reg n (nmat X p m)) (z:Nat→Rat) :
  obj m p (fun i=>av n X (nsv n (nmat X p m) (nrhs X y p m)) i - y i)≤obj m p (fun i=>av n X z i - y i):=least hp (nsv_nsol h) z
theorem ivB_reg {n:Nat} {K:Nat→Nat→Rat}:ivB n K=true↔Reg n K:=by
 unfold ivB
 rw [decide_eq_true_eq,augI_beside]
 exact inv_iff n K
theorem regInv {n:Nat} {K:Nat→Nat→Rat} (h:Reg n K):(∀ i,i < n→∀ c,c < n→mm n (invM n K) K i c=dlt i c)∧∀ i,i < n→∀ c,c < n→mm n K (invM n K) i c=dlt i c:=by
 have he:=augI_beside n K
 have h9:=inv_ok (rref_ok n (besideI n K) n) ((inv_iff n K).2 h)
 have hi:invM n K=fun a b=>(rref n (besideI n K) n).1 a (n+b):=by funext a b; unfold invM; rw [he]
 rw [hi]
 exact⟨h9.2,h9.1⟩
theorem inv_apply {n:Nat} {K:Nat→Nat→Rat} (h:Reg n K) (b:Nat→Rat):∀ i,i < n→sum n (fun c=>invM n K i c*b c)=nsv n K b i:=by
 refine reg_unique h (b:=b) (fun i hi=>?_) (nsv_sum h)
 have e:sum n (fun c=>K i c*sum n (fun d=>invM n K c d*b d))=sum n (fun d=>mm n K (invM n K) i d*b d):=by
  unfold mm
  rw [sum_congr (g:=fun c=>sum n (fun d=>K i c*invM n K c d*b d)) (fun c _=>by rw [←sum_mul]; exact sum_congr fun d _=>by grind),sum_comm]
  exact sum_congr fun d _=>by rw [sum_mul_right]
 rw [e,sum_congr (fun d hd=>by rw [(regInv h).2 i hi d hd])]
 exact sum_dlt hi b
theorem red_sol {k e:Nat} {K:Nat→Nat→Rat} {b:Nat→Rat} (h:Reg (k+e) K) (h2:Reg e (fun a b=>K (k+a) (k+b))):∀ i,i < k→sum k (fun c=>schM k e K i c*nsv (k+e) K b c)=schR k e K b i:=fun i hi =>
 schur (Z:=invM e (fun a b=>K (k+a) (k+b))) (regInv h2).1 (nsv_sum h) hi
theorem con_sol {n k:Nat} {K C:Nat→Nat→Rat} {b d:Nat→Rat} (h:Reg (n+k) (bord n K C)) :
  (∀ i,i < n→sum n (fun c=>K i c*nsv (n+k) (bord n K C) (cat n b d) c)+sum k (fun t=>C t i*nsv (n+k) (bord n K C) (cat n b d) (n+t))=b i)∧∀ t,t < k→sum n (fun c=>C t c*nsv (n+k) (bord n K C) (cat n b d) c)=d t :=
 bord_rows (fun i=>nsv_sum h i)
theorem con_min {m n k:Nat} {X C:Nat→Nat→Rat} {y p d z:Nat→Rat} (hp:∀ i,i < m→0 < p i) (h:Reg (n+k) (bord n (nmat X p m) C)) (hz:∀ t,t < k→sum n (fun c=>C t c*z c)=d t) :
  obj m p (fun i=>av n X (nsv (n+k) (bord n (nmat X p m) C) (cat n (nrhs X y p m) d)) i - y i)≤obj m p (fun i=>av n X z i - y i):=by
 obtain⟨h1,h2⟩:=con_sol (b:=nrhs X y p m) (d:=d) h
 refine con_least (C:=C) (l:=fun t=>nsv (n+k) (bord n (nmat X p m) C) (cat n (nrhs X y p m) d) (n+t)) hp (fun a ha=>?_) (fun t ht=>by rw [h2 t ht,hz t ht])
 rw [sum_congr (fun b _=>by rw [←nmat_nm5]),h1 a ha]
 exact sum_congr fun t _=>by grind
end Go.Proofs.YtccepmpebioeiaaGreat
