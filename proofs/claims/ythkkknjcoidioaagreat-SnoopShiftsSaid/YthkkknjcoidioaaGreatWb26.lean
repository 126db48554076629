import Derived.Test.YthkkknjcoidioaaGreatWb25
import Derived.Test.YthkkknjcoidioaaGreatWb23
import Derived.Test.YthkkknjcoidioaaGreatWb24
set_option linter.all false
set_option maxHeartbeats 8000000
namespace Go.Proofs.YthkkknjcoidioaaGreat
open Go.RowKit
def shB (most n:Nat) (R:Nat→Raw):Bool:=decide (n≤most) && allB n (fun i=>briefB (R i))
def RetDig (w:World) (R:Raw) (e:Ending) (w':World):Prop:=∃ z:Int,e=.returned (.int .i64 z)∧Hid (briefB R=true→z≤6)∧Ext w w'
theorem r2_digits {N:Nat} {w:World} {v:Value} {R:Raw} (h:RawV N w v R) :
  Calls Tryz.prog 21 #[v] w (RetDig w R):=by
 obtain⟨A1,n1,c1,A2,n2,c2,rfl,g1,g2⟩:=h.parts;obtain⟨_,_,_,e1,h1,hc1,hm1⟩:=g1.form;injection e1 with e1 e1' e1''
 subst e1 e1' e1'';obtain⟨_,_,_,e2,h2,hc2,hm2⟩:=g2.form;injection e2 with e2 e2' e2''
 subst e2 e2' e2''
 have HB:Hid (briefB R=true→n1≤1∧n2≤1):=fun hb=>by
  unfold briefB at hb;simp only [Bool.and_eq_true,decide_eq_true_eq] at hb;obtain⟨⟨⟨b1,b2⟩,-⟩,-⟩:=hb;rw [h1.out] at b1;rw [h2.out] at b2;exact⟨b1,b2⟩
 obtain⟨Rf,hRf⟩:=hid_eq (RetDig w R);rw [←hRf.out];clear g1 g2 h h1 h2;go_enter Tryz.func21,Tryz.ntmps21;go_upto_region 1 with (fail);refine boxes1 ?_;intro W hE hsz B0;obtain⟨a0,a1,a2,a3,-⟩:=cells4 B0;go_wp2
 first | go_ret | skip
 rw [hRf.out];refine⟨_,rfl,Lib.hid (fun hb=>?_),hE⟩;obtain⟨b1,b2⟩:=HB.out hb;unfold wrap64;omega
theorem r2_short {N lo hi:Nat} {w:World} {v:Value} {n:Nat} {R:Nat→Raw} (h:LsR N lo hi w v n R) (most:Nat) {mz:Int} (hmz:mz=(most:Int)) (hmo:most < 1000) :
  Calls Tryz.prog 30 #[v,.int .i64 mz,.int .i64 6] w (RetV w (.bool (shB most n R))):=by
 subst hmz;obtain⟨r,hr⟩:=hid_eq (shB most n R);rw [←hr.out];obtain⟨A,c,rfl,hnc,hcm⟩:=h.form;unfold maxLen at hcm;have hI:=h;clear h;go_enter Tryz.func30,Tryz.ntmps30
 by_cases hn:n≤most
 ·have HR:Hid (r=allB n (fun i=>briefB (R i))):=by rw [Hid,hr.out]; unfold shB; rw [decide_eq_true hn,Bool.true_and]
  have hd1:decide (most < n)=false:=by simp; omega
  have hd2:¬ most < n:=by omega
  clear hr;go_wp2
  go_loopw [7] (fun i wr=>∃ k:Nat,k≤n∧i=.int .i64 k∧Hid (∀ j,j < k→briefB (R j)=true)∧Ext w wr) (fun i _=>n - (intOf i).toNat)
  case atStart=>exact⟨0,Nat.zero_le _,rfl,fun j hj=>absurd hj (by omega),Ext.refl w⟩
  case round =>
   obtain⟨k,hk,rfl,HA,hE⟩:=hrel
   by_cases hlt:k < n
   ·obtain⟨b,off,rfl,-,-,hx⟩:=(hI.ext hE).addr (by omega);obtain⟨A1,n1,c1,A2,n2,c2,p0,p1,p2,p3,hv⟩:=(hx k hlt).val;clear hx;go_wp2_with (go_at_call 21; refine Hid.out ?_);refine (r2_digits hv).mono ?_;rintro e w1 ⟨z,rfl,hz,e1⟩;replace hE:=hE.trans e1;obtain⟨o,ho⟩:=hid_eq (briefB (R k));have HZ:Hid (o=true→z≤6):=fun h9=>hz.out (by rw [←ho.out]; exact h9)
    clear hz
    by_cases hz6:z≤6
    ·replace p0:=e1.cell p0;replace p1:=e1.cell p1;replace p2:=e1.cell p2;replace p3:=e1.cell p3;go_wp2_with (go_at_call 76; refine Hid.out ?_);refine (r2_brief (hv.ext e1)).mono ?_;rintro e w2 ⟨rfl,e2⟩;rw [←ho.out];replace hE:=hE.trans e2;clear p0 p1 p2 p3 e1 e2 HZ;cases ho':o with
     | true =>
      subst ho';go_wp2;go_roundw
      case rel=>exact⟨k+1,by omega,by go_num,all_succ HA.out ho.out.symm,hE⟩
      case measure=>simp [intOf]; omega
     | false =>
      subst ho';have HF:Hid (r=false):=by rw [Hid,HR.out]; exact allB_false hlt ho.out.symm
      go_wp2;go_ret;exact⟨ret_bool HF.out.symm,hE⟩
    ·have HO:Hid (o=false):=by
      cases ho':o with
      | true=>exact absurd (HZ.out ho') hz6
      | false=>rfl
     have HF:Hid (r=false):=by rw [Hid,HR.out]; exact allB_false hlt (by rw [←ho.out]; exact HO.out)
     clear p0 p1 p2 p3 e1 HZ HO;go_wp2;go_ret;exact⟨ret_bool HF.out.symm,hE⟩
   ·have HF:Hid (r=true):=by rw [Hid,HR.out]; exact allB_true.2 (fun j hj=>HA.out j (by omega))
    go_wp2;go_ret;exact⟨ret_bool HF.out.symm,hE⟩
 ·have HF:Hid (r=false):=by rw [Hid,hr.out]; unfold shB; rw [decide_eq_false hn]; rfl
  go_wp2;go_ret;exact⟨ret_bool HF.out.symm,Ext.refl w⟩
def few34 (rows cols:Nat) (Z:Lin):Bool:=decide (Z.m≤rows) && (shB rows Z.nl Z.l && (shB rows Z.np Z.p && allB Z.m (fun i=>shB cols (Z.L i) (Z.A i))))
theorem l34_few {N lo hi:Nat} {w:World} {v:Value} {Z:Lin} (h:LinV N lo hi w v Z) (rows cols:Nat) {rz cz:Int} (hrz:rz=(rows:Int)) (hcz:cz=(cols:Int)) (hr1:rows < 1000) (hc1:cols < 1000) :
  Calls Tryz.prog 58 #[v,.int .i64 rz,.int .i64 cz] w (RetV w (.bool (few34 rows cols Z))):=by
 subst hrz hcz;obtain⟨r,hr⟩:=hid_eq (few34 rows cols Z);rw [←hr.out];obtain⟨A1,c1,A2,c2,A3,c3,rfl,h1,h2,h3,hm,hnl,hnp⟩:=h.parts;obtain⟨m,L,A,nl,l,np,p⟩:=Z
 dsimp only at h1 h2 h3 hm hnl hnp ⊢
 have hcm1:c1≤9223372036854775807:=by obtain⟨_,_,e9,-,h9⟩:=h1.form; injection e9 with _ _ e9; subst e9; unfold maxLen at h9; exact h9
 obtain⟨s2,hs2⟩:=hid_eq (shB rows nl l);obtain⟨s3,hs3⟩:=hid_eq (shB rows np p);have HR:Hid (r=(decide (m≤rows) && (s2 && (s3 && allB m (fun i=>shB cols (L i) (A i)))))):=by rw [Hid,hr.out,hs2.out,hs3.out]; rfl
 clear hr h;go_enter Tryz.func58,Tryz.ntmps58;go_upto_region 1 with (fail);refine boxes1 ?_;intro W hE hsz B0;obtain⟨a0,a1,a2,-⟩:=cells3 B0
 by_cases hmr:m≤rows
 case neg =>
  have HF:Hid (r=false):=by rw [Hid,HR.out,decide_eq_false hmr]; rfl
  go_wp2;go_ret;exact⟨ret_bool HF.out.symm,hE⟩
 case pos =>
 go_wp2_with (go_at_call 30; refine Hid.out ?_);refine (r2_short (h2.ext hE) rows rfl hr1).mono ?_;rintro e w1 ⟨rfl,e1⟩;rw [←hs2.out];replace hE:=hE.trans e1;replace B0:=e1.block B0;clear a0 a1 a2 e1;obtain⟨a0,a1,a2,-⟩:=cells3 B0;cases hs2':s2 with
 | false =>
  subst hs2';have HF:Hid (r=false):=by rw [Hid,HR.out,decide_eq_true hmr]; rfl
  go_wp2;go_ret;exact⟨ret_bool HF.out.symm,hE⟩
 | true =>
 subst hs2';go_wp2_with (go_at_call 30; refine Hid.out ?_);refine (r2_short (h3.ext hE) rows rfl hr1).mono ?_;rintro e w2 ⟨rfl,e2⟩;rw [←hs3.out];replace hE:=hE.trans e2;replace B0:=e2.block B0;clear a0 a1 a2 e2;obtain⟨a0,a1,a2,-⟩:=cells3 B0;cases hs3':s3 with
 | false =>
  subst hs3';have HF:Hid (r=false):=by rw [Hid,HR.out,decide_eq_true hmr]; rfl
  go_wp2;go_ret;exact⟨ret_bool HF.out.symm,hE⟩
 | true =>
 subst hs3';have HR2:Hid (r=allB m (fun i=>shB cols (L i) (A i))):=by rw [Hid,HR.out,decide_eq_true hmr]; rfl
 clear HR;have hd1:decide (rows < m)=false:=by simp; omega
 have hd2:¬ rows < m:=by omega
 go_wp2;clear a0 a1 a2
 go_loopw [31] (fun i wr=>∃ k:Nat,k≤m∧i=.int .i64 k∧Hid (∀ j,j < k→shB cols (L j) (A j)=true)∧Ext w wr) (fun i _=>m - (intOf i).toNat)
 case atStart=>exact⟨0,Nat.zero_le _,rfl,fun j hj=>absurd hj (by omega),hE⟩
 case round =>
  obtain⟨k,hk,rfl,HA,hE⟩:=hrel
  by_cases hlt:k < m
  ·obtain⟨b,off,rfl,-,-,hx⟩:=(h1.ext hE).addr (by omega);obtain⟨Ak,ck,p0,-,-,hv⟩:=hx k hlt;obtain⟨Lk,hLk⟩:=hid_eq (L k);rw [←hLk.out] at p0 hv;clear hx;go_wp2_with (go_at_call 30; refine Hid.out ?_);refine (r2_short hv cols rfl hc1).mono ?_;rintro e w3 ⟨rfl,e3⟩;replace hE:=hE.trans e3;obtain⟨o,ho⟩:=hid_eq (shB cols Lk (A k));have HO:Hid (shB cols (L k) (A k)=o):=by rw [Hid,ho.out,hLk.out]
   rw [←ho.out];clear p0 e3;cases ho':o with
   | true =>
    subst ho';go_wp2;go_roundw
    case rel=>exact⟨k+1,by omega,by go_num,all_succ (p:=fun j=>shB cols (L j) (A j)=true) HA.out HO.out,hE⟩
    case measure=>simp [intOf]; omega
   | false =>
    subst ho';have HF:Hid (r=false):=by rw [Hid,HR2.out]; exact allB_false hlt HO.out
    go_wp2;go_ret;exact⟨ret_bool HF.out.symm,hE⟩
  ·have HF:Hid (r=true):=by rw [Hid,HR2.out]; exact allB_true.2 (fun j hj=>HA.out j (by omega))
   go_wp2;go_ret;exact⟨ret_bool HF.out.symm,hE⟩
set_option maxRecDepth 100000 in
theorem l34_checked {N lo hi:Nat} {w:World} {v:Value} {Z:Lin} (h:LinV N lo hi w v Z) (hs:LinSz Z) (hp:∀ i,i < Z.np→RawS (Z.p i)) :
  Calls Tryz.prog 59 #[v] w (RetV w (.int .i64 (codeOf Z))):=by
 obtain⟨r,hr⟩:=hid_eq (codeOf Z);rw [←hr.out];obtain⟨A1,c1,A2,c2,A3,c3,rfl,h1,h2,h3,hm,hnl,hnp⟩:=h.parts;obtain⟨m,L,A,nl,l,np,p⟩:=Z
 dsimp only at h1 h2 h3 hm hnl hnp ⊢
 have HS:=Lib.hid hs;have HP:=Lib.hid hp;have HR:Hid (r=if canonB ⟨m,L,A,nl,l,np,p⟩=false then 1 else if sizeB ⟨m,L,A,nl,l,np,p⟩=false then 3 else if fitB ⟨m,L,A,nl,l,np,p⟩=false then 4 else if allB np (fun i=>posB (p i))=false then 2 else 0):=hr;have hcm1:c1≤9223372036854775807:=by obtain⟨_,_,e9,-,h9⟩:=h1.form; injection e9 with _ _ e9; subst e9; unfold maxLen at h9; exact h9
 clear h hr hs hp;obtain⟨s2,hs2⟩:=hid_eq (allB nl (fun i=>okR (l i)));obtain⟨s3,hs3⟩:=hid_eq (allB np (fun i=>okR (p i)));have HCA:Hid (canonB ⟨m,L,A,nl,l,np,p⟩=(allB m (fun i=>allB (L i) (fun j=>okR (A i j))) && (s2 && s3))):=by rw [hs2.out,hs3.out]; rfl
 go_enter Tryz.func59,Tryz.ntmps59;go_upto_region 1 with (fail);refine boxes1 ?_;intro W hE hsz B0;obtain⟨a0,a1,a2,-⟩:=cells3 B0;go_wp2;clear a0 a1 a2
 go_loopw [12,4] (fun i _ wr=>∃ k:Nat,k≤m∧i=.int .i64 k∧Hid (∀ j,j < k→allB (L j) (fun t=>okR (A j t))=true)∧Ext W wr) (fun i _ _=>m - (intOf i).toNat)
 case atStart=>exact⟨0,Nat.zero_le _,rfl,fun j hj=>absurd hj (by omega),Ext.refl W⟩
 case round =>
  obtain⟨k,hk,rfl,HA,eW⟩:=hrel;have hEr:=hE.trans eW
  by_cases hlt:k < m
  ·obtain⟨b,off,rfl,-,-,hx⟩:=(h1.ext hEr).addr (by omega);obtain⟨Ak,ck,p0,-,-,hv⟩:=hx k hlt;obtain⟨Lk,hLk⟩:=hid_eq (L k);rw [←hLk.out] at p0 hv;clear hx;go_wp2_with (go_at_call 29; refine Hid.out ?_);refine (r2_validList hv (fun i hi=>HS.out.1 k hlt i (by show i < L k; rw [←hLk.out]; exact hi))).mono ?_;rintro e w1 ⟨rfl,e1⟩;replace eW:=eW.trans e1;obtain⟨o,ho⟩:=hid_eq (allB Lk (fun i=>okR (A k i)));have HO:Hid (allB (L k) (fun t=>okR (A k t))=o):=by rw [Hid,ho.out,hLk.out]
   rw [←ho.out];clear p0 e1;cases ho':o with
   | true =>
    subst ho';go_wp2;go_roundw
    case rel=>exact⟨k+1,by omega,by go_num,all_succ (p:=fun j=>allB (L j) (fun t=>okR (A j t))=true) HA.out HO.out,eW⟩
    case measure=>simp [intOf]; omega
   | false =>
    subst ho';have HF:Hid (r=1):=by rw [Hid,HR.out,HCA.out,allB_false hlt HO.out]; rfl
    go_wp2;go_ret;exact⟨ret_int HF.out.symm,hE.trans eW⟩
  ·have HAA:Hid (allB m (fun i=>allB (L i) (fun j=>okR (A i j)))=true):=allB_true.2 (fun j hj=>HA.out j (by omega));clear HA;replace B0:=eW.block B0;obtain⟨a0,a1,a2,-⟩:=cells3 B0;clear hE eW;go_wp2_with (go_at_call 29; refine Hid.out ?_);refine (r2_validList (h2.ext hEr) HS.out.2.1).mono ?_;rintro e w2 ⟨rfl,e2⟩;rw [←hs2.out];replace hEr:=hEr.trans e2;replace B0:=e2.block B0;clear a0 a1 a2 e2;obtain⟨a0,a1,a2,-⟩:=cells3 B0;cases hs2':s2 with
   | false =>
    subst hs2';have HF:Hid (r=1):=by rw [Hid,HR.out,HCA.out,HAA.out]; rfl
    go_wp2;go_ret;exact⟨ret_int HF.out.symm,hEr⟩
   | true =>
   subst hs2';go_wp2_with (go_at_call 29; refine Hid.out ?_);refine (r2_validList (h3.ext hEr) HS.out.2.2).mono ?_;rintro e w3 ⟨rfl,e3⟩;rw [←hs3.out];replace hEr:=hEr.trans e3;replace B0:=e3.block B0;clear a0 a1 a2 e3;obtain⟨a0,a1,a2,-⟩:=cells3 B0;cases hs3':s3 with
   | false =>
    subst hs3';have HF:Hid (r=1):=by rw [Hid,HR.out,HCA.out,HAA.out]; rfl
    go_wp2;go_ret;exact⟨ret_int HF.out.symm,hEr⟩
   | true =>
   subst hs3';have HR2:Hid (r=if sizeB ⟨m,L,A,nl,l,np,p⟩=false then 3 else if fitB ⟨m,L,A,nl,l,np,p⟩=false then 4 else if allB np (fun i=>posB (p i))=false then 2 else 0):=by rw [Hid,HR.out,HCA.out,HAA.out]; rfl
   have HOKP:Hid (∀ i,i < np→okR (p i)=true):=allB_true.1 hs3.out.symm;clear HR HAA HCA
   by_cases hm1:1≤m
   case neg =>
    have HF:Hid (r=3):=by
     have:sizeB ⟨m,L,A,nl,l,np,p⟩=false:=by
      unfold sizeB; simp only [Bool.and_eq_false_iff,decide_eq_false_iff_not]; omega
     rw [Hid,HR2.out,this]; rfl
    go_wp2;go_ret;exact⟨ret_int HF.out.symm,hEr⟩
   case pos =>
   by_cases hm2:m≤64
   case neg =>
    have HF:Hid (r=3):=by
     have:sizeB ⟨m,L,A,nl,l,np,p⟩=false:=by
      unfold sizeB; simp only [Bool.and_eq_false_iff,decide_eq_false_iff_not]; omega
     rw [Hid,HR2.out,this]; rfl
    go_wp2;go_ret;exact⟨ret_int HF.out.symm,hEr⟩
   case pos =>
   have h1':=h1.ext hEr;obtain⟨b,off,rfl,-,-,hx⟩:=h1'.addr (by omega);obtain⟨AL,cL,p0,hLc,hcL,-⟩:=hx 0 (by omega);rw [Nat.add_zero] at p0;obtain⟨L0,hL0⟩:=hid_eq (L 0);rw [←hL0.out] at p0 hLc;unfold maxLen at hcL;clear hx
   by_cases hL1:1≤L0
   case neg =>
    have HF:Hid (r=3):=by
     have:sizeB ⟨m,L,A,nl,l,np,p⟩=false:=by
      unfold sizeB; simp only [Bool.and_eq_false_iff,decide_eq_false_iff_not]; have:=hL0.out; omega
     rw [Hid,HR2.out,this]; rfl
    go_wp2;go_ret;exact⟨ret_int HF.out.symm,hEr⟩
   case pos =>
   by_cases hL2:L0≤24
   case neg =>
    have HF:Hid (r=3):=by
     have:sizeB ⟨m,L,A,nl,l,np,p⟩=false:=by
      unfold sizeB; simp only [Bool.and_eq_false_iff,decide_eq_false_iff_not]; have:=hL0.out; omega
     rw [Hid,HR2.out,this]; rfl
    go_wp2;go_ret;exact⟨ret_int HF.out.symm,hEr⟩
   case pos =>
   have HR3:Hid (r=if fitB ⟨m,L,A,nl,l,np,p⟩=false then 4 else if allB np (fun i=>posB (p i))=false then 2 else 0):=by
    have:sizeB ⟨m,L,A,nl,l,np,p⟩=true:=by
     unfold sizeB; simp only [Bool.and_eq_true,decide_eq_true_eq]; have:=hL0.out; omega
    rw [Hid,HR2.out,this]; rfl
   clear HR2;go_wp2
   go_loop [59,6] (fun i _=>∃ k:Nat,k≤m∧i=.int .i64 k∧Hid (∀ j,j < k→L j=L 0)) (fun i _=>m - (intOf i).toNat)
   case atStart=>exact⟨0,Nat.zero_le _,rfl,fun j hj=>absurd hj (by omega)⟩
   case round =>
    obtain⟨k,hk,rfl,HA⟩:=hrel
    by_cases hlt:k < m
    ·obtain⟨b',off',hA,-,-,hx⟩:=h1'.addr (by omega);obtain⟨rfl,rfl⟩:b=b'∧off=off':=by injection hA with hA; injection hA with e1 e2; exact⟨e1,e2⟩
     obtain⟨Ak,ck,q0,hkc,hck,-⟩:=hx k hlt;obtain⟨Lk,hLk⟩:=hid_eq (L k);rw [←hLk.out] at q0 hkc;unfold maxLen at hck;clear hx hA
     by_cases heq:Lk=L0
     ·subst heq;have heq1:((Lk:Int) != (Lk:Int))=false:=by simp
      go_wp2
      go_round
      case rel=>exact⟨k+1,by omega,by go_num,all_succ (p:=fun j=>L j=L 0) HA.out (by rw [←hLk.out,hL0.out])⟩
      case measure=>simp [intOf]; omega
     ·have HF:Hid (r=4):=by
       have h9:fitB ⟨m,L,A,nl,l,np,p⟩=false:=by
        have:evenB ⟨m,L,A,nl,l,np,p⟩=false:=allB_false (i:=k) hlt (by simp only [decide_eq_false_iff_not]; rw [←hLk.out,←hL0.out]; exact heq);unfold fitB; rw [this]; rfl
       rw [Hid,HR3.out,h9]; rfl
      have hne:((Lk:Int) == (L0:Int))=false:=beq_eq_false_iff_ne.2 (by omega);have hne1:((Lk:Int) != (L0:Int))=true:=by rw [bne_iff_ne]; omega
      go_wp2;go_ret;exact⟨ret_int HF.out.symm,hEr⟩
    ·have HE:Hid (evenB ⟨m,L,A,nl,l,np,p⟩=true):=allB_true.2 (fun j hj=>by simp only [decide_eq_true_eq]; exact HA.out j (by have:j < m:=hj; omega));clear HA
     by_cases hnlm:nl=m
     case neg =>
      have HF:Hid (r=4):=by
       have:fitB ⟨m,L,A,nl,l,np,p⟩=false:=by unfold fitB; simp [hnlm]
       rw [Hid,HR3.out,this]; rfl
      have t1:((nl:Int) != (m:Int))=true:=by rw [bne_iff_ne]; omega
      clear hnlm;go_wp2;go_ret;exact⟨ret_int HF.out.symm,hEr⟩
     case pos =>
     by_cases hnpm:np=m
     case neg =>
      have HF:Hid (r=4):=by
       have:fitB ⟨m,L,A,nl,l,np,p⟩=false:=by unfold fitB; simp [hnpm]
       rw [Hid,HR3.out,this]; rfl
      have t1:((nl:Int) != (m:Int))=false:=by rw [hnlm]; simp
      have t2:((np:Int) != (m:Int))=true:=by rw [bne_iff_ne]; omega
      clear hnlm hnpm;go_wp2;go_ret;exact⟨ret_int HF.out.symm,hEr⟩
     case pos =>
     have HR4:Hid (r=if allB np (fun i=>posB (p i))=false then 2 else 0):=by
      have:fitB ⟨m,L,A,nl,l,np,p⟩=true:=by unfold fitB; rw [HE.out]; simp [hnlm,hnpm]
      rw [Hid,HR3.out,this]; rfl
     have t1:((nl:Int) != (m:Int))=false:=by rw [hnlm]; simp
     have t2:((np:Int) != (m:Int))=false:=by rw [hnpm]; simp
     clear HR3 hnlm hnpm;go_wp2
     go_loopw [91,8] (fun i _ wr=>∃ k:Nat,k≤np∧i=.int .i64 k∧Hid (∀ j,j < k→posB (p j)=true)∧Ext w wr) (fun i _ _=>np - (intOf i).toNat)
     case atStart=>exact⟨0,Nat.zero_le _,rfl,fun j hj=>absurd hj (by omega),hEr⟩
     case round =>
      clear hEr p0 a0 a1 a2 B0 h1';obtain⟨k,hk,rfl,HA,hE⟩:=hrel
      by_cases hlt:k < np
      ·obtain⟨b2,off2,rfl,-,-,hx⟩:=(h3.ext hE).addr (by omega);obtain⟨A4,n4,c4,A5,n5,c5,q0,q1,q2,q3,hv⟩:=(hx k hlt).val;obtain⟨q,hq,hvq⟩:=rawV_rat hv (HOKP.out k hlt);obtain⟨s,hs⟩:=hid_eq q.num.sign;have HZ:Hid (Sz q):=by have:=HP.out k hlt; rw [hq] at this; exact this
       have HQ:=Lib.hid hq;clear hx hq hv;go_wp2_with (go_at_call 35; refine Hid.out ?_);refine boxesC1 ?_;intro W4 e4 hsz4 B4;refine (r2_sign (hvq.ext e4) HZ.out).mono ?_;rintro e w5 ⟨rfl,e5⟩;rw [←hs.out];replace hE:=(hE.trans e4).trans e5;clear q0 q1 q2 q3 B4 e4 e5 hvq
       by_cases hpos:0 < s
       ·have HPk:Hid (posB (p k)=true):=by
         rw [Hid,HQ.out,posB_raw,decide_eq_true_eq];rw [hs.out] at hpos;exact Int.sign_pos_iff.1 hpos
        clear hs;go_wp2;go_roundw
        case rel=>exact⟨k+1,by omega,by go_num,all_succ (p:=fun j=>posB (p j)=true) HA.out HPk.out,hE⟩
        case measure=>simp [intOf]; omega
       ·have HF:Hid (r=2):=by
         have h9:posB (p k)=false:=by
          rw [HQ.out,posB_raw,decide_eq_false_iff_not];rw [hs.out] at hpos;intro h8; exact hpos (Int.sign_pos_iff.2 h8)
         rw [Hid,HR4.out,allB_false hlt h9]; rfl
        clear hs;go_wp2;go_ret;exact⟨ret_int HF.out.symm,hE⟩
      ·have HF:Hid (r=0):=by
        rw [Hid,HR4.out,allB_true.2 (fun j hj=>HA.out j (by omega))]; rfl
       go_wp2;go_ret;exact⟨ret_int HF.out.symm,hE⟩
end Go.Proofs.YthkkknjcoidioaaGreat
namespace Go.Proofs.YthkkknjcoidioaaGreat
def av (n:Nat) (A:Nat→Nat→Rat) (x:Nat→Rat) (i:Nat):Rat:=sum n (fun c=>A i c*x c)
def obj (m:Nat) (P v:Nat→Rat):Rat:=sum m (fun i=>P i*(v i*v i))
def nm (m:Nat) (A:Nat→Nat→Rat) (P:Nat→Rat) (a b:Nat):Rat:=sum m (fun k=>A k a*(P k*A k b))
def nb (m:Nat) (A:Nat→Nat→Rat) (P L:Nat→Rat) (a:Nat):Rat:=sum m (fun k=>A k a*(P k*L k))
theorem nm_symm (m:Nat) (A:Nat→Nat→Rat) (P:Nat→Rat) (a b:Nat):nm m A P a b=nm m A P b a:=sum_congr fun k _=>by grind
theorem nm_av (m n:Nat) (A:Nat→Nat→Rat) (P y:Nat→Rat) (a:Nat):sum n (fun b=>nm m A P a b*y b)=sum m (fun k=>A k a*(P k*av n A y k)):=by
 unfold nm av
 have e:∀ b,sum m (fun k=>A k a*(P k*A k b))*y b=sum m (fun k=>A k a*(P k*(A k b*y b))):=by
  intro b; rw [←sum_mul_right]; exact sum_congr fun k _=>by grind
 rw [sum_congr (fun b _=>e b),sum_comm];refine sum_congr fun k _=>?_
 rw [sum_mul n (A k a),sum_mul n (P k)]
theorem dual_av (m n:Nat) (A:Nat→Nat→Rat) (y g:Nat→Rat):sum n (fun a=>y a*sum m (fun k=>A k a*g k))=sum m (fun k=>av n A y k*g k):=by
 unfold av
 have e:∀ a,y a*sum m (fun k=>A k a*g k)=sum m (fun k=>(A k a*y a)*g k):=by
  intro a; rw [←sum_mul]; exact sum_congr fun k _=>by grind
 rw [sum_congr (fun a _=>e a),sum_comm];exact sum_congr fun k _=>sum_mul_right _ _ _
theorem sq_nonneg (a:Rat):0≤a*a:=by
 rcases Rat.le_total (a:=0) (b:=a) with h | h
 ·exact Rat.mul_nonneg h h
 ·have h1:0≤-a:=by grind
  have h2:=Rat.mul_nonneg h1 h1;have e : -a * -a=a*a:=by grind
  rwa [e] at h2
theorem sq_zero {a:Rat} (h:a*a=0):a=0:=by grind
theorem obj_zero {m:Nat} {P v:Nat→Rat} (hP:∀ i,i < m→0 < P i) (h:obj m P v=0):∀ i,i < m→v i=0:=by
 intro i hi;have h1:=sum_pos_zero (fun k hk=>Rat.mul_nonneg (by have:=hP k hk; grind) (sq_nonneg (v k))) h i hi;have h2:=hP i hi;refine sq_zero ?_
 grind
theorem normal_zero {m n:Nat} {A:Nat→Nat→Rat} {P y:Nat→Rat} (hP:∀ i,i < m→0 < P i) (h:∀ a,a < n→sum n (fun b=>nm m A P a b*y b)=0):∀ i,i < m→av n A y i=0:=by
 refine obj_zero hP ?_;have h1:=dual_av m n A y (fun k=>P k*av n A y k);rw [sum_eq_zero (fun a ha=>by rw [←nm_av,h a ha]; grind)] at h1;unfold obj;rw [h1];exact sum_congr fun k _=>by grind
def Nsol (m n:Nat) (A:Nat→Nat→Rat) (P L x:Nat→Rat):Prop:=∀ a,a < n→sum n (fun b=>nm m A P a b*x b)=nb m A P L a
def Orth (m n:Nat) (A:Nat→Nat→Rat) (P v:Nat→Rat):Prop:=∀ a,a < n→sum m (fun k=>A k a*(P k*v k))=0
theorem nsol_orth {m n:Nat} {A:Nat→Nat→Rat} {P L x:Nat→Rat}:Nsol m n A P L x↔Orth m n A P (fun k=>av n A x k - L k):=by
 have e:∀ a,sum m (fun k=>A k a*(P k*(av n A x k - L k)))=sum n (fun b=>nm m A P a b*x b) - nb m A P L a:=by
  intro a;rw [nm_av]; unfold nb; rw [←sum_sub];exact sum_congr fun k _=>by grind
 constructor
 ·intro h a ha; rw [e,h a ha]; grind
 ·intro h a ha; have:=h a ha; rw [e] at this; grind
theorem av_sub (n:Nat) (A:Nat→Nat→Rat) (x y:Nat→Rat) (i:Nat):av n A (fun c=>x c - y c) i=av n A x i - av n A y i:=by
 unfold av; rw [←sum_sub]; exact sum_congr fun c _=>by grind
theorem fit_unique {m n:Nat} {A:Nat→Nat→Rat} {P L x y:Nat→Rat} (hP:∀ i,i < m→0 < P i) (h:Nsol m n A P L x) (h':Nsol m n A P L y):∀ i,i < m→av n A x i=av n A y i:=by
 intro i hi
 have h1:=normal_zero (A:=A) (y:=fun c=>x c - y c) hP (fun a ha=>by
  have e:∀ b,nm m A P a b*(x b - y b)=nm m A P a b*x b - nm m A P a b*y b:=fun b=>by grind
  rw [sum_congr (fun b _=>e b),sum_sub,h a ha,h' a ha]; grind) i hi
 rw [av_sub] at h1
 grind
def bas (A:Nat→Nat→Rat) (p:List Nat) (i s:Nat):Rat:=A i (p[s]?.getD 0)
theorem bas_reg {m n:Nat} {A M:Nat→Nat→Rat} {P:Nat→Rat} {p:List Nat} (h:Rref m n A M p) (hP:∀ i,i < m→0 < P i):Reg p.length (nm m (bas A p) P):=by
 intro x hx;exact cols_free h (normal_zero (A:=bas A p) hP hx)
def fits (r:Nat) (B X:Nat→Nat→Rat) (i j:Nat):Rat:=sum r (fun s=>B i s*sum r (fun t=>X s t*B j t))
def coef (m r:Nat) (B X:Nat→Nat→Rat) (P L:Nat→Rat) (s:Nat):Rat:=sum r (fun t=>X s t*nb m B P L t)
theorem fits_av (m r:Nat) (B X:Nat→Nat→Rat) (P L:Nat→Rat) (i:Nat):sum m (fun j=>fits r B X i j*P j*L j)=av r B (coef m r B X P L) i:=by
 unfold fits av coef nb
 have e:∀ j,sum r (fun s=>B i s*sum r (fun t=>X s t*B j t))*P j*L j=sum r (fun s=>B i s*sum r (fun t=>X s t*(B j t*(P j*L j)))):=by
  intro j
  have e1:∀ s,B i s*sum r (fun t=>X s t*(B j t*(P j*L j)))=B i s*sum r (fun t=>X s t*B j t)*(P j*L j):=by
   intro s
   have:sum r (fun t=>X s t*(B j t*(P j*L j)))=sum r (fun t=>X s t*B j t)*(P j*L j):=by
    rw [←sum_mul_right]; exact sum_congr fun t _=>by grind
   rw [this]; grind
  rw [sum_congr (fun s _=>e1 s),sum_mul_right]; grind
 rw [sum_congr (fun j _=>e j),sum_comm];refine sum_congr fun s _=>?_
 rw [sum_mul,sum_comm]
 congr 1
 exact sum_congr fun t _=>sum_mul _ _ _
theorem coef_nsol {m r:Nat} {B X:Nat→Nat→Rat} {P L:Nat→Rat} (hX:∀ i,i < r→∀ c,c < r→mm r (nm m B P) X i c=dlt i c):Nsol m r B P L (coef m r B X P L):=by
 intro a ha;unfold coef
 have e:∀ b,nm m B P a b*sum r (fun t=>X b t*nb m B P L t)=sum r (fun t=>(nm m B P a b*X b t)*nb m B P L t):=by
  intro b; rw [←sum_mul]; exact sum_congr fun t _=>by grind
 rw [sum_congr (fun b _=>e b),sum_comm];rw [sum_congr (g:=fun t=>dlt a t*nb m B P L t) (fun t ht=>by rw [sum_mul_right,←hX a ha t ht]; rfl)];exact sum_dlt ha _
def spread (p:List Nat) (z:Nat→Rat) (c:Nat):Rat:=sum p.length (fun s=>dlt (p[s]?.getD 0) c*z s)
theorem av_spread {m n:Nat} {A M:Nat→Nat→Rat} {p:List Nat} (h:Rref m n A M p) (z:Nat→Rat) (i:Nat):av n A (spread p z) i=av p.length (bas A p) z i:=by
 unfold av spread
 have e:∀ c,A i c*sum p.length (fun s=>dlt (p[s]?.getD 0) c*z s)=sum p.length (fun s=>dlt (p[s]?.getD 0) c*(A i c*z s)):=by
  intro c; rw [←sum_mul]; exact sum_congr fun s _=>by grind
 rw [sum_congr (fun c _=>e c),sum_comm];exact sum_congr fun s hs=>sum_dlt (h.low s hs) (fun c=>A i c*z s)
theorem orth_bas {m n:Nat} {A M:Nat→Nat→Rat} {P v:Nat→Rat} {p:List Nat} (h:Rref m n A M p) (ho:Orth m p.length (bas A p) P v):Orth m n A P v:=by
 intro a ha
 have e:∀ k,k < m→A k a*(P k*v k)=sum p.length (fun s=>M s a*(bas A p k s*(P k*v k))):=by
  intro k hk;rw [cols_span h hk ha,←sum_mul_right];exact sum_congr fun s _=>by unfold bas; grind
 rw [sum_congr e,sum_comm];refine sum_eq_zero fun s hs=>?_
 rw [sum_mul,ho s hs]; grind
theorem fits_fit {m n:Nat} {A M X:Nat→Nat→Rat} {P L x:Nat→Rat} {p:List Nat} (h:Rref m n A M p) (hP:∀ i,i < m→0 < P i)
  (hX:∀ i,i < p.length→∀ c,c < p.length→mm p.length (nm m (bas A p) P) X i c=dlt i c) (hx:Nsol m n A P L x) :
  ∀ i,i < m→sum m (fun j=>fits p.length (bas A p) X i j*P j*L j)=av n A x i:=by
 intro i hi;rw [fits_av,←av_spread h];refine fit_unique hP ?_ hx i hi;rw [nsol_orth];refine orth_bas h ?_;have h1:=nsol_orth.1 (coef_nsol (L:=L) hX);intro a ha;rw [←h1 a ha];exact sum_congr fun k _=>by simp only [av_spread h]
theorem steinitz {m k r:Nat} {V U C:Nat→Nat→Rat} (h:∀ s,s < k→∀ i,i < m→V i s=sum r (fun t=>U i t*C t s)) (hk:r < k) :
  ∃ y:Nat→Rat,(∃ s,s < k∧y s≠0)∧∀ i,i < m→sum k (fun s=>V i s*y s)=0:=by
 have hR:=rref_ok r C k;have hl:=hR.len;obtain⟨c,hc,hg⟩:=inc_gap hR.inc (Nat.lt_of_le_of_lt hl hk);refine⟨nul (rref r C k).1 (rref r C k).2 c,⟨c,hc,by rw [nul_self hg]; decide⟩,fun i hi=>?_⟩;have h0:=nul_null hR hc
 generalize nul (rref r C k).1 (rref r C k).2 c=y at h0
 have e:∀ s,s < k→V i s*y s=sum r (fun t=>U i t*(C t s*y s)):=by
  intro s hs;rw [h s hs i hi,←sum_mul_right];exact sum_congr fun t _=>by grind
 rw [sum_congr e,sum_comm];exact sum_eq_zero fun t ht=>by rw [sum_mul,h0 t ht]; grind
theorem inv_symm {r:Nat} {K X:Nat→Nat→Rat} (hK:∀ i j,K i j=K j i) (h1:∀ i,i < r→∀ c,c < r→mm r K X i c=dlt i c) (h2:∀ i,i < r→∀ c,c < r→mm r X K i c=dlt i c):∀ i,i < r→∀ j,j < r→X i j=X j i:=by
 intro i hi j hj
 have a1:mm r (mm r X K) (fun a b=>X b a) i j=X j i:=by
  rw [mm_congr (a':=dlt) (b':=fun a b=>X b a) (fun k hk=>h2 i hi k hk) (fun _ _=>rfl),one_mm _ hi]
 have a2:mm r (mm r X K) (fun a b=>X b a) i j=X i j:=by
  rw [mm_assoc,mm_congr (a':=X) (b':=dlt) (fun _ _=>rfl) (fun k hk=>?_),mm_one _ hj];have:=h2 j hj k hk
  have hd:dlt k j=dlt j k:=by
   by_cases h:k=j
   ·rw [h]
   ·rw [dlt_ne h,dlt_ne (fun e=>h e.symm)]
  rw [hd,←this];exact sum_congr fun l _=>by rw [hK k l]; grind
 rw [←a1,a2]
theorem fits_symm {r:Nat} {B X:Nat→Nat→Rat} (hX:∀ i,i < r→∀ j,j < r→X i j=X j i) (i j:Nat):fits r B X i j=fits r B X j i:=by
 unfold fits;have e1:∀ s,B i s*sum r (fun t=>X s t*B j t)=sum r (fun t=>B i s*(X s t*B j t)):=fun s=>(sum_mul _ _ _).symm
 have e2:∀ s,B j s*sum r (fun t=>X s t*B i t)=sum r (fun t=>B j s*(X s t*B i t)):=fun s=>(sum_mul _ _ _).symm
 rw [sum_congr (fun s _=>e1 s),sum_congr (fun s _=>e2 s),sum_comm];exact sum_congr fun t ht=>sum_congr fun s hs=>by rw [hX s hs t ht]; grind
structure Model (m n:Nat) (A M X:Nat→Nat→Rat) (P:Nat→Rat) (p:List Nat):Prop where
 rr:Rref m n A M p
 pos:∀ i,i < m→0 < P i
 kx:∀ i,i < p.length→∀ c,c < p.length→mm p.length (nm m (bas A p) P) X i c=dlt i c
 xk:∀ i,i < p.length→∀ c,c < p.length→mm p.length X (nm m (bas A p) P) i c=dlt i c
variable {m n:Nat} {A M X:Nat→Nat→Rat} {P:Nat→Rat} {p:List Nat}
def gf (A X:Nat→Nat→Rat) (p:List Nat) (i j:Nat):Rat:=fits p.length (bas A p) X i j
theorem Model.symm (h:Model m n A M X P p) (i j:Nat):gf A X p i j=gf A X p j i :=
 fits_symm (inv_symm (nm_symm m (bas A p) P) h.kx h.xk) i j
theorem Model.fix (h:Model m n A M X P p) (x:Nat→Rat):∀ i,i < m→sum m (fun j=>gf A X p i j*P j*av n A x j)=av n A x i:=by
 refine fits_fit h.rr h.pos h.kx (x:=x) ?_;rw [nsol_orth];intro a _;exact sum_eq_zero fun k _=>by grind
theorem Model.col (h:Model m n A M X P p) (k:Nat):∃ x:Nat→Rat,∀ i,gf A X p i k=av n A x i:=by
 refine⟨spread p (fun s=>sum p.length (fun t=>X s t*bas A p k t)),fun i=>?_⟩;rw [av_spread h.rr]
 rfl
theorem Model.idem (h:Model m n A M X P p) (i k:Nat) (hi:i < m):sum m (fun j=>gf A X p i j*P j*gf A X p j k)=gf A X p i k:=by
 obtain⟨x,hx⟩:=h.col k;rw [hx i,←h.fix x i hi];exact sum_congr fun j _=>by rw [hx j]
theorem Model.sq (h:Model m n A M X P p) (i:Nat) (hi:i < m):gf A X p i i=sum m (fun j=>P j*(gf A X p i j*gf A X p i j)):=by
 rw [←h.idem i i hi];exact sum_congr fun j _=>by rw [h.symm j i]; grind
def hd (A X:Nat→Nat→Rat) (P:Nat→Rat) (p:List Nat) (i:Nat):Rat:=gf A X p i i*P i
theorem sum_ge_one {m i:Nat} {f:Nat→Rat} (hi:i < m) (h:∀ k,k < m→0≤f k):f i≤sum m f:=by
 have h1:sum m f=sum m (fun k=>if k=i then f i else 0)+sum m (fun k=>if k=i then 0 else f k):=by
  rw [←sum_add];refine sum_congr fun k _=>?_
  by_cases hk:k=i
  ·subst hk; simp <;> grind
  ·simp [hk] <;> grind
 have h2:sum m (fun k=>if k=i then f i else 0)=f i:=by
  rw [sum_single hi (fun k _ hk=>by simp [hk])]; simp
 have h3:0≤sum m (fun k=>if k=i then 0 else f k):=sum_nonneg fun k hk=>by
  by_cases hk':k=i
  ·simp [hk'] <;> grind
  ·simp [hk']; exact h k hk
 grind
theorem Model.diag (h:Model m n A M X P p) {i:Nat} (hi:i < m):0≤hd A X P p i∧hd A X P p i≤1:=by
 have h0:∀ k,k < m→0≤P k*(gf A X p i k*gf A X p i k):=fun k hk=>Rat.mul_nonneg (by have:=h.pos k hk; grind) (sq_nonneg _)
 have h1:=h.sq i hi;have h2:=sum_ge_one hi h0;rw [←h1] at h2;have h3:=sum_nonneg h0;rw [←h1] at h3;have hp:=h.pos i hi;unfold hd
 generalize gf A X p i i=g at *
 have h4:0≤g*P i:=Rat.mul_nonneg h3 (by grind);refine⟨h4,?_⟩
 have h5:(g*P i)*(g*P i)≤g*P i:=by
  have:=Rat.mul_le_mul_of_nonneg_right h2 (Rat.le_of_lt hp)
  grind
 rcases Rat.le_total (a:=g*P i) (b:=1) with h6 | h6
 ·exact h6
 ·have h7:=Rat.mul_le_mul_of_nonneg_right h6 h4;rw [Rat.one_mul] at h7;have h8:=Rat.le_antisymm h5 h7;have h9:(g*P i)*(g*P i - 1)=0:=by grind
  rcases Rat.mul_eq_zero.1 h9 with h10 | h10
  ·rw [h10] at h6; exact absurd h6 (by decide)
  ·grind
theorem sum_const (r:Nat):sum r (fun _=>1)=(r:Rat):=by
 induction r with
 | zero=>rfl
 | succ r ih=>rw [sum_succ,ih]; simp [Rat.natCast_add]
theorem Model.trace (h:Model m n A M X P p):sum m (fun i=>hd A X P p i)=(p.length:Rat):=by
 unfold hd gf fits
 have e:∀ i,sum p.length (fun s=>bas A p i s*sum p.length (fun t=>X s t*bas A p i t))*P i=sum p.length (fun s=>sum p.length (fun t=>X s t*(bas A p i t*(P i*bas A p i s)))):=by
  intro i;rw [←sum_mul_right];refine sum_congr fun s _=>?_
  have:sum p.length (fun t=>X s t*(bas A p i t*(P i*bas A p i s)))=sum p.length (fun t=>X s t*bas A p i t)*(P i*bas A p i s):=by
   rw [←sum_mul_right]; exact sum_congr fun t _=>by grind
  rw [this]; grind
 rw [sum_congr (fun i _=>e i),sum_comm,←sum_const p.length];refine sum_congr fun s hs=>?_
 rw [sum_comm,←dlt_same s,←h.xk s hs s hs];exact sum_congr fun t _=>sum_mul _ _ _
def skip (i j:Nat):Nat:=if j < i then j else j+1
theorem skip_ne (i j:Nat):skip i j≠i:=by unfold skip; split <;> omega
theorem skip_lt {m i j:Nat} (h:j < m):skip i j < m+1:=by unfold skip; split <;> omega
theorem skip_onto {m i k:Nat} (hi:i < m+1) (hk:k < m+1) (hne:k≠i):∃ j,j < m∧skip i j=k:=by
 rcases Nat.lt_or_ge k i with h | h
 ·exact⟨k,by omega,by unfold skip; rw [if_pos h]⟩
 ·exact⟨k - 1,by omega,by unfold skip; rw [if_neg (by omega)]; omega⟩
theorem sum_skip {m i:Nat} (hi:i < m+1) (f:Nat→Rat):sum m (fun j=>f (skip i j))+f i=sum (m+1) f:=by
 induction m with
 | zero =>
  obtain rfl:i=0:=by omega
  simp only [sum]
 | succ m ih =>
  rcases Nat.lt_or_ge i (m+1) with h | h
  ·have h1:=ih h;rw [sum_succ (m+1) f,←h1,sum_succ];have e:skip i m=m+1:=by unfold skip; rw [if_neg (by omega)]
   rw [e]; grind
  ·obtain rfl:i=m+1:=by omega
   rw [sum_succ (m+1) f,sum_congr (g:=f) (fun j hj=>by unfold skip; rw [if_pos hj])]
variable {m n:Nat} {A M X M':Nat→Nat→Rat} {P:Nat→Rat} {p p':List Nat}
theorem falls_one (h:Model (m+1) n A M X P p) {i:Nat} (hi:i < m+1) (h':Rref m n (fun j c=>A (skip i j) c) M' p') (hlt:p'.length < p.length):hd A X P p i=1:=by
 obtain⟨y,⟨s0,hs0,hy0⟩,hy⟩:=steinitz (m:=m) (k:=p.length) (r:=p'.length) (V:=fun j s=>A (skip i j) (p[s]?.getD 0)) (U:=fun j t=>A (skip i j) (p'[t]?.getD 0)) (C:=fun t s=>M' t (p[s]?.getD 0))
  (fun s hs j hj=>cols_span h' hj (h.rr.low s hs)) hlt
 have hu:∀ k,av n A (spread p y) k=sum p.length (fun s=>A k (p[s]?.getD 0)*y s):=fun k=>av_spread h.rr y k
 have hz:∀ k,k < m+1→k≠i→av n A (spread p y) k=0:=by
  intro k hk hne;obtain⟨j,hj,rfl⟩:=skip_onto hi hk hne;rw [hu]; exact hy j hj
 have hnz:av n A (spread p y) i≠0:=by
  intro h0;refine hy0 (cols_free h.rr (y:=y) (fun k hk=>?_) s0 hs0);rw [←hu]
  by_cases hne:k=i
  ·rw [hne]; exact h0
  ·exact hz k hk hne
 have h1:=h.fix (spread p y) i hi;rw [sum_single hi (fun k hk hne=>by rw [hz k hk hne]; grind)] at h1;unfold hd
 generalize av n A (spread p y) i=u at *
 have h2:(gf A X p i i*P i - 1)*u=0:=by grind
 rcases Rat.mul_eq_zero.1 h2 with h3 | h3
 ·grind
 ·exact absurd h3 hnz
theorem one_falls (h:Model (m+1) n A M X P p) {i:Nat} (hi:i < m+1) (h':Rref m n (fun j c=>A (skip i j) c) M' p') (h1:hd A X P p i=1):p'.length < p.length:=by
 rcases Nat.lt_or_ge p'.length p.length with hlt | hge
 ·exact hlt
 ·exfalso
  have hgi:gf A X p i i≠0:=by
   intro h0; unfold hd at h1; rw [h0] at h1; exact absurd h1 (by simp)
  have hz:∀ k,k < m+1→k≠i→gf A X p i k=0:=by
   have h2:=h.sq i hi;rw [←sum_skip hi] at h2
   have h3:sum m (fun j=>P (skip i j)*(gf A X p i (skip i j)*gf A X p i (skip i j)))=0:=by
    have:P i*(gf A X p i i*gf A X p i i)=gf A X p i i:=by unfold hd at h1; grind
    grind
   have h4:=sum_pos_zero (fun j hj=>Rat.mul_nonneg (Rat.le_of_lt (h.pos _ (skip_lt hj))) (sq_nonneg _)) h3;intro k hk hne;obtain⟨j,hj,rfl⟩:=skip_onto hi hk hne;have h5:=h4 j hj;have h6:=h.pos _ (skip_lt (i:=i) hj)
   rcases Rat.mul_eq_zero.1 h5 with h7 | h7
   ·rw [h7] at h6; exact absurd h6 (by decide)
   ·exact sq_zero h7
  obtain⟨x,hx⟩:=h.col i
  obtain⟨y,⟨s0,hs0,hy0⟩,hy⟩:=steinitz (m:=m+1) (k:=p'.length+1) (r:=p.length) (V:=fun k s=>if s < p'.length then A k (p'[s]?.getD 0) else av n A x k) (U:=bas A p)
   (C:=fun t s=>if s < p'.length then M t (p'[s]?.getD 0) else sum n (fun c=>M t c*x c)) (by
    intro s hs k hk
    by_cases hsl:s < p'.length
    ·simp only [hsl,if_true]; exact cols_span h.rr hk (h'.low s hsl)
    ·simp only [hsl,if_false];unfold av
     have e:∀ c,c < n→A k c*x c=sum p.length (fun t=>bas A p k t*(M t c*x c)):=by
      intro c hc;rw [cols_span h.rr hk hc,←sum_mul_right];exact sum_congr fun t _=>by unfold bas; grind
     rw [sum_congr e,sum_comm]
     exact sum_congr fun t _=>sum_mul _ _ _) (by omega)
  have hsplit:∀ k,sum (p'.length+1) (fun s=>(if s < p'.length then A k (p'[s]?.getD 0) else av n A x k)*y s)=sum p'.length (fun s=>A k (p'[s]?.getD 0)*y s)+av n A x k*y p'.length:=by
   intro k;rw [sum_succ,sum_congr (g:=fun s=>A k (p'[s]?.getD 0)*y s) (fun s hs=>by rw [if_pos hs]),if_neg (Nat.lt_irrefl _)]
  have hys:∀ s,s < p'.length→y s=0:=by
   refine cols_free h' (fun j hj=>?_);have h2:=hy _ (skip_lt (i:=i) hj);rw [hsplit,←hx,h.symm,hz _ (skip_lt hj) (skip_ne i j)] at h2
   grind
  have hyl:y p'.length=0:=by
   have h2:=hy i hi;rw [hsplit,←hx,sum_eq_zero (fun s hs=>by rw [hys s hs]; grind)] at h2
   rcases Rat.mul_eq_zero.1 (show gf A X p i i*y p'.length=0 by grind) with h3 | h3
   ·exact absurd h3 hgi
   ·exact h3
  refine hy0 ?_
  rcases Nat.lt_or_ge s0 p'.length with h2 | h2
  ·exact hys s0 h2
  ·obtain rfl:s0=p'.length:=by omega
   exact hyl
end Go.Proofs.YthkkknjcoidioaaGreat
namespace Go.Proofs.YthkkknjcoidioaaGreat
open Go.RowKit
theorem r5_identity {N:Nat} {w:World} (hN:N≤w.heap.size) (n:Nat) {N':Int} (hN':N'=(n:Int)) (hn0:0 < n) (hn:n < 1000000) :
  Calls Tryz.prog 107 #[.int .i64 N'] w (RetOwn N w n n dlt):=by
 subst hN';go_enter Tryz.func107,Tryz.ntmps107;go_wp2_with (go_at_call 83; refine Hid.out ?_);refine (r5_zeros hN n n rfl rfl hn hn0 hn).mono ?_;rintro e w1 ⟨h,cap,β,κ,rfl,hcap,ho,hE⟩;have hs1:=hE.size;go_wp2
 go_loopw [4] (fun i wr=>∃ k:Nat,k≤n∧i=.int .i64 k∧Ext w wr∧∃ B,OwnM N w.heap.size w1.heap.size wr h cap n n β κ B∧Hid (∀ i,i < n→∀ j,j < n→B i j=if i < k then dlt i j else 0)) (fun i _=>n - (intOf i).toNat)
 case atStart=>exact⟨0,Nat.zero_le _,rfl,hE,_,ho,fun i hi j hj=>by simp⟩
 case round =>
  clear hE ho;obtain⟨k,hk,rfl,hE,B,ho,HB⟩:=hrel;have hsz:=ho.his
  by_cases hlt:k < n
  ·have r0:=ho.hcell hlt;go_wp2;have eC:=(Ext.refl wr).drew;refine region_late (fun w'=>w'.cell? ⟨h,k,none⟩=some (.slice (some ⟨β k,0,none⟩) n (κ k))) [7] (by kernel_rfl) (by exact eC.cell r0) (fun hHeld=>?_);refine sP 0 (h:=?_);try simp only [nr]
   refine sP 1 (h:=?_);try simp only [nr]
   refine sP 2 (h:=?_);try simp only [nr]
   refine sT 3 (h:=?_);try simp only [nr]
   refine sP 4 (h:=?_);try simp only [nr]
   refine stepL_only (i:=5) rfl (by kernel_rfl) (fun K hK=>?_);go_simp;refine (r5_whole (N:=N) (by show N≤wr.heap.size; omega) 1 (by omega) (by omega)).mono ?_;intro e w2 hh;obtain⟨n1,A3,k3,c3,A4,k4,c4,rfl,hb1,g1,g2,e1⟩:=hh.form;replace eC:=eC.trans e1;have ho2:=ho.ext eC;obtain⟨zb,zA,zn,zc,zA2,zn2,zc2,t0,t1,t2,t3,t4,t5,t6,t7,-⟩:=(ho2.row k hlt).at_ hlt;go_wp2_with fail;clear hHeld;refine hK.out _ _ (by exact eC.cell r0) fun hHeld=>?_
   clear hK K;try simp only [nr]
   refine sP 6 (h:=?_);try simp only [nr]
   refine stepL_late (i:=7) rfl (by kernel_rfl) (by kernel_rfl) (fun K hK=>?_);go_simp;refine hK.out _ _ ?_;clear hK K;try simp only [nr]
   refine stepL_done (by kernel_rfl) ?_ _;clear hHeld;obtain⟨w6,E6,C6,hs6,hr6⟩:=(ho2.row k hlt).set (i:=k) (q:=((1:Int):Rat)) (by have:=(ho2.row k hlt).2.1; omega) (by omega) hb1 g1 g2;rw [E6];clear E6;have ho6:=ho2.setRow hlt C6 (hr6.less (n':=n) (by omega));replace hE:=C6.ext (hE.trans eC) (ho.lo_ k hlt);go_wp2;go_roundw
   case rel=>exact⟨k+1,by omega,by go_num,hE,_,ho6,fun i hi j hj=>(by
     unfold updM
     by_cases e:i=k
     ·subst e;rw [if_pos rfl,if_pos (by omega)];unfold upd
      by_cases e2:j=i
      ·subst e2; rw [if_pos rfl,dlt_same]; rfl
      ·rw [if_neg e2,HB.out i hi j hj,if_neg (by omega),dlt_ne (by omega)]
     ·rw [if_neg e,HB.out i hi j hj]
      by_cases e2:i < k
      ·rw [if_pos e2,if_pos (by omega)]
      ·rw [if_neg e2,if_neg (by omega)])⟩
   case measure=>simp [intOf]; omega
  ·obtain rfl:k=n:=by omega
   go_wp2;go_ret;exact⟨h,cap,β,κ,rfl,hcap,(ho.congr (fun i hi j hj=>by rw [HB.out i hi j hj,if_pos hi])).wide (Nat.le_refl _) hN ho.his (Nat.le_refl _),hE⟩
theorem r5_mul {N lo hi lo' hi':Nat} {w:World} {v v':Value} {m n p:Nat} {X Y:Nat→Nat→Rat} (h:MtV N lo hi w v m n X) (h':MtV N lo' hi' w v' n p Y) (hm:m < 1000000) (hn0:0 < n) (hn:n < 1000000) (hp0:0 < p) (hp:p < 1000000)
  {kx ky:Nat} (hkx:HtM m n kx X) (hky:HtM n p ky Y) (hK:n*(kx+ky+1)+1≤29000000000) :
  Calls Tryz.prog 39 #[v,v'] w (RetOwn N w m p (mm n X Y)):=by
 have hN:=h.le
 have HZ:Hid (∀ i,i < m→∀ j,j < p→∀ k,k < n→Sz (X i k)∧Sz (Y k j)∧Sz (X i k*Y k j)∧Sz (sum k (fun t=>X i t*Y t j))):=fun i hi j hj k hk=>by
  have h1:=Nat.le_mul_of_pos_left (kx+ky+1) (show 0 < n by omega);exact⟨(hkx i hi k hk).sz (by omega),(hky k hk j hj).sz (by omega),((hkx i hi k hk).mul (hky k hk j hj)).sz (by omega),(sum_ht (k:=kx+ky) (n:=n) (fun t ht=>(hkx i hi t ht).mul (hky t ht j hj)) (by omega) hK).sz (Nat.le_refl _)⟩
 obtain⟨A,c,rfl,hmc,hcm⟩:=h.form;obtain⟨A0,c0,rfl,hmc0,hcm0⟩:=h'.form;unfold maxLen at hcm hcm0;have hI:=h;have hI':=h';obtain⟨b',off',rfl,-,-,hx⟩:=h'.addr hn0;obtain⟨A1,c1,p0,hnc,hcm1,-⟩:=hx 0 hn0;rw [Nat.add_zero] at p0;unfold maxLen at hcm1;have P0:=Lib.hid p0;clear h h' hx hkx hky hK;go_enter Tryz.func39,Tryz.ntmps39;go_wp2_with (go_at_call 83; refine Hid.out ?_);refine (r5_zeros hN m p rfl rfl hm hp0 hp).mono ?_;rintro e w1 ⟨h,cap,β,κ,rfl,hcap,ho,hE⟩;have hs1:=hE.size;clear p0;go_wp2
 go_loopw [6] (fun i wr=>∃ k:Nat,k≤m∧i=.int .i64 k∧Ext w wr∧∃ B,OwnM N w.heap.size w1.heap.size wr h cap m p β κ B∧Hid (∀ i,i < k→∀ j,j < p→B i j=mm n X Y i j)) (fun i _=>m - (intOf i).toNat)
 case atStart=>exact⟨0,Nat.zero_le _,rfl,hE,_,ho,fun i hi=>by omega⟩
 case round =>
  clear hE ho;obtain⟨k,hk,rfl,hE,B,ho,HB⟩:=hrel
  by_cases hlt:k < m
  ·go_wp2
   go_loopw [7] (fun i ws=>∃ l:Nat,l≤p∧i=.int .i64 l∧Ext w ws∧∃ B,OwnM N w.heap.size w1.heap.size ws h cap m p β κ B∧Hid (∀ i,i < k→∀ j,j < p→B i j=mm n X Y i j)∧Hid (∀ j,j < l→B k j=mm n X Y k j)) (fun i _=>p - (intOf i).toNat)
   case atStart=>exact⟨0,Nat.zero_le _,rfl,hE,B,ho,HB,fun j hj=>by omega⟩
   case round =>
    clear hE ho HB B;obtain⟨l,hl,rfl,hE,B,ho,HB,HC⟩:=hrel;have p0:=hE.cell P0.out;have hsz:=ho.his
    by_cases hlt':l < p
    ·go_wp2_with (go_at_call 84; refine Hid.out ?_);refine (r5_whole (N:=N) (by omega) 0 (by omega) (by omega)).mono ?_;intro e w2 hh;obtain⟨n1,A3,k3,c3,A4,k4,c4,rfl,hb1,g1,g2,e1⟩:=hh.form;go_upto_region 9 with (fail);refine boxes1 ?_;intro w3 e3 hsz3 BS;have hB:BoxR N w3 w2.heap.size (sum 0 (fun t=>X k t*Y t l)):=BoxR.mk BS hb1 (g1.ext e3) (g2.ext e3);replace hE:=(hE.trans e1).trans e3;replace ho:=(ho.ext e1).ext e3;have hsz2:w1.heap.size≤w2.heap.size:=Nat.le_trans hsz e1.size;clear g1 g2 hb1 BS e1 e3 p0;go_wp2
     go_loopw [9] (fun i wt=>∃ t:Nat,t≤n∧i=.int .i64 t∧Ext w wt∧OwnM N w.heap.size w1.heap.size wt h cap m p β κ B∧w2.heap.size < wt.heap.size∧BoxR N wt w2.heap.size (sum t (fun t=>X k t*Y t l))) (fun i _=>n - (intOf i).toNat)
     case atStart=>exact⟨0,Nat.zero_le _,rfl,hE,ho,by omega,hB⟩
     case round =>
      clear hE ho hB hsz3;obtain⟨t,ht,rfl,hE,ho,hsz3,hB⟩:=hrel;obtain⟨b1,A1,k1,c1,A2,k2,c2,BS,hb1,g1,g2⟩:=hB;obtain⟨s0,s1,s2,s3,s4,s5,s6,s7⟩:=cells4 BS;have hv:=RatV.mk hb1 g1 g2
      by_cases hlt3:t < n
      ·obtain⟨b2,off2,rfl,-,-,hx⟩:=(hI.ext hE).addr (by omega);obtain⟨A3,c3,q0,-,-,hl2⟩:=hx k hlt;obtain⟨b3,off3,rfl,-,-,hx⟩:=hl2.addr (by omega);obtain⟨m1,A5,k5,c5,A6,k6,c6,p0,p1,p2,p3,hm1,x1,x2⟩:=(hx t hlt3).open;obtain⟨b4,off4,hA,-,-,hx⟩:=(hI'.ext hE).addr (by omega);obtain⟨rfl,rfl⟩:b'=b4∧off'=off4:=by injection hA with hA; injection hA with e1 e2; exact⟨e1,e2⟩
       obtain⟨A4,c4,r0,-,-,hl3⟩:=hx t hlt3;obtain⟨b5,off5,rfl,-,-,hx⟩:=hl3.addr (by omega);obtain⟨m2,A7,k7,c7,A8,k8,c8,o0,o1,o2,o3,hm2,y1,y2⟩:=(hx l hlt').open;clear hx hl2 hl3 hA;go_wp2;have eC:=(Ext.refl wr).drew;refine region_late (fun w'=>w'.cell? ⟨w2.heap.size,0,none⟩=some (.bool b1)∧w'.cell? ⟨w2.heap.size,1,none⟩=some (.slice A1 k1 c1)∧w'.cell? ⟨w2.heap.size,2,none⟩=some (.bool false)∧w'.cell? ⟨w2.heap.size,3,none⟩=some (.slice A2 k2 c2)∧w'.cell? ⟨b2,off2+k,none⟩=some (.slice (some ⟨b3,off3,none⟩) n c3)∧w'.cell? ⟨b3,off3+t*4,none⟩=some (.bool m1)∧w'.cell? ⟨b3,off3+t*4+1,none⟩=some (.slice A5 k5 c5)∧w'.cell? ⟨b3,off3+t*4+2,none⟩=some (.bool false)∧w'.cell? ⟨b3,off3+t*4+3,none⟩=some (.slice A6 k6 c6)∧w'.cell? ⟨b',off'+t,none⟩=some (.slice (some ⟨b5,off5,none⟩) p c4)∧w'.cell? ⟨b5,off5+l*4,none⟩=some (.bool m2)∧w'.cell? ⟨b5,off5+l*4+1,none⟩=some (.slice A7 k7 c7)∧w'.cell? ⟨b5,off5+l*4+2,none⟩=some (.bool false)∧w'.cell? ⟨b5,off5+l*4+3,none⟩=some (.slice A8 k8 c8)) [17] (by kernel_rfl) (by exact⟨eC.cell s0,eC.cell s1,eC.cell s2,eC.cell s3,eC.cell q0,eC.cell p0,eC.cell p1,eC.cell p2,eC.cell p3,eC.cell r0,eC.cell o0,eC.cell o1,eC.cell o2,eC.cell o3⟩) (fun hHeld=>?_);refine sT 0 (h:=?_);try simp only [nr]
       refine sP 1 (h:=?_);try simp only [nr]
       refine sP 2 (h:=?_);try simp only [nr]
       refine sP 3 (h:=?_);try simp only [nr]
       refine sT 4 (h:=?_);try simp only [nr]
       refine sP 5 (h:=?_);try simp only [nr]
       refine sP 6 (h:=?_);try simp only [nr]
       refine sT 7 (h:=?_);try simp only [nr]
       refine sP 8 (h:=?_);try simp only [nr]
       refine sP 9 (h:=?_);try simp only [nr]
       refine sP 10 (h:=?_);try simp only [nr]
       refine sT 11 (h:=?_);try simp only [nr]
       refine sP 12 (h:=?_);try simp only [nr]
       refine sP 13 (h:=?_);try simp only [nr]
       refine sT 14 (h:=?_);try simp only [nr]
       refine stepL_only (i:=15) rfl (by kernel_rfl) (fun K hK=>?_);go_simp;refine (r2_mul (x:=X k t) (y:=Y t l) (by exact (RatV.mk hm1 x1 x2).ext eC) (by exact (RatV.mk hm2 y1 y2).ext eC) (HZ.out k hlt l hlt' t hlt3).1 (HZ.out k hlt l hlt' t hlt3).2.1).mono ?_;rintro e w4 ⟨v4,rfl,h4,e4⟩;replace eC:=eC.trans e4;go_wp2_with fail;clear hHeld;refine hK.out _ _ (by exact⟨eC.cell s0,eC.cell s1,eC.cell s2,eC.cell s3,eC.cell q0,eC.cell p0,eC.cell p1,eC.cell p2,eC.cell p3,eC.cell r0,eC.cell o0,eC.cell o1,eC.cell o2,eC.cell o3⟩) fun hHeld=>?_
       clear hK K;try simp only [nr]
       refine stepL_only (i:=16) rfl (by kernel_rfl) (fun K hK=>?_);go_simp;refine (r2_add (x:=sum t (fun t=>X k t*Y t l)) (y:=X k t*Y t l) (by exact hv.ext eC) (by exact h4) (HZ.out k hlt l hlt' t hlt3).2.2.2 (HZ.out k hlt l hlt' t hlt3).2.2.1).mono ?_;intro e w5 hh;obtain⟨b9,A9,k9,c9,A10,k10,c10,rfl,hb9,g9,g10,e5⟩:=hh.form;replace eC:=eC.trans e5;have D0:=eC.block BS;obtain⟨t0,t1,t2,t3,t4,t5,t6,t7⟩:=cells4 D0;go_wp2_with fail;clear hHeld;refine hK.out _ _ (by exact⟨eC.cell s0,eC.cell s1,eC.cell s2,eC.cell s3,eC.cell q0,eC.cell p0,eC.cell p1,eC.cell p2,eC.cell p3,eC.cell r0,eC.cell o0,eC.cell o1,eC.cell o2,eC.cell o3⟩) fun hHeld=>?_
       clear hK K;try simp only [nr]
       refine stepL_late (i:=17) rfl (by kernel_rfl) (by kernel_rfl) (fun K hK=>?_);go_simp;refine hK.out _ _ ?_;clear hK K;try simp only [nr]
       refine stepL_done (by kernel_rfl) ?_ _;clear hHeld;obtain⟨w6,E6,hB6,K6,hs6⟩:=boxSet D0 (by omega) (q:=sum (t+1) (fun t=>X k t*Y t l)) hb9 g9 g10;rw [E6];clear E6;have ho6:=(ho.ext eC).chg K6 (by omega) (.inl (by omega));replace hE:=K6.ext (hE.trans eC) (by omega);go_wp2;go_roundw
       case rel=>exact⟨t+1,by omega,by go_num,hE,ho6,by have:=eC.size; omega,hB6⟩
       case measure=>simp [intOf]; omega
      ·obtain rfl:t=n:=by omega
       have r0:=ho.hcell hlt;obtain⟨zb,zA,zn,zc,zA2,zn2,zc2,t0,t1,t2,t3,t4,t5,t6,t7,-⟩:=(ho.row k hlt).at_ hlt';go_wp2;have eC:=(Ext.refl wr).drew;refine region_late (fun w'=>w'.cell? ⟨h,k,none⟩=some (.slice (some ⟨β k,0,none⟩) p (κ k))∧w'.cell? ⟨w2.heap.size,0,none⟩=some (.bool b1)∧w'.cell? ⟨w2.heap.size,1,none⟩=some (.slice A1 k1 c1)∧w'.cell? ⟨w2.heap.size,2,none⟩=some (.bool false)∧w'.cell? ⟨w2.heap.size,3,none⟩=some (.slice A2 k2 c2)) [7] (by kernel_rfl) (by exact⟨eC.cell r0,eC.cell s0,eC.cell s1,eC.cell s2,eC.cell s3⟩) (fun hHeld=>?_);refine sP 0 (h:=?_);try simp only [nr]
       refine sP 1 (h:=?_);try simp only [nr]
       refine sP 2 (h:=?_);try simp only [nr]
       refine sT 3 (h:=?_);try simp only [nr]
       refine sP 4 (h:=?_);try simp only [nr]
       refine sT 5 (h:=?_);try simp only [nr]
       refine sP 6 (h:=?_);try simp only [nr]
       refine stepL_late (i:=7) rfl (by kernel_rfl) (by kernel_rfl) (fun K hK=>?_);go_simp;refine hK.out _ _ ?_;clear hK K;try simp only [nr]
       refine stepL_done (by kernel_rfl) ?_ _;clear hHeld;obtain⟨w6,E6,C6,hs6,hr6⟩:=(ho.row k hlt).set (i:=l) (q:=mm t X Y k l) (by have:=(ho.row k hlt).2.1; omega) (by omega) hb1 g1 g2;rw [E6];clear E6;have ho6:=ho.setRow hlt C6 (hr6.less (n':=p) (by omega));replace hE:=C6.ext hE (ho.lo_ k hlt);go_wp2;go_roundw
       case rel=>exact⟨l+1,by omega,by go_num,hE.drew,_,ho6.ext (Ext.refl _).drew,fun i hi j hj=>(by rw [updM_ne _ _ (by omega)]; exact HB.out i hi j hj),all_succ (fun j hj=>(by rw [updM_same,upd_ne _ _ (by omega)]; exact HC.out j hj)) (by rw [updM_same,upd_same])⟩
       case measure=>simp [intOf]; omega
    ·obtain rfl:l=p:=by omega
     go_wp2;go_roundw
     case rel=>exact⟨k+1,by omega,by go_num,hE,B,ho,all_succ HB.out HC.out⟩
     case measure=>simp [intOf]; omega
  ·obtain rfl:k=m:=by omega
   go_wp2;go_ret;exact⟨h,cap,β,κ,rfl,hcap,(ho.congr (fun i hi j hj=>HB.out i hi j hj)).wide (Nat.le_refl _) hN ho.his (Nat.le_refl _),hE⟩
end Go.Proofs.YthkkknjcoidioaaGreat
namespace Go.Proofs.YthkkknjcoidioaaGreat
theorem seek_none {M:Nat→Nat→Rat} {m j r:Nat} (hr:r≤m) (h:∀ i,r≤i→i < m→M i j=0):seek M m j (m - r) r=m:=by
 have s:=seek_spec M m j (m - r) r (Nat.le_refl _) hr
 rcases Nat.lt_or_ge (seek M m j (m - r) r) m with h1 | h1
 ·exact absurd (h _ s.1 h1) (s.2.2.2 h1)
 ·omega
theorem seek_some {M:Nat→Nat→Rat} {m j r a:Nat} (hr:r≤a) (ha:a < m) (h:∀ i,r≤i→i < a→M i j=0) (hn:M a j≠0):seek M m j (m - r) r=a:=by
 have s:=seek_spec M m j (m - r) r (Nat.le_refl _) (by omega)
 rcases Nat.lt_trichotomy (seek M m j (m - r) r) a with h1 | h1 | h1
 ·exact absurd (h _ s.1 h1) (s.2.2.2 (by omega))
 ·exact h1
 ·exact absurd (s.2.2.1 a hr h1) hn
theorem rref_skip {m j:Nat} {X:Nat→Nat→Rat} (h:seek (rref m X j).1 m j (m - (rref m X j).2.length) (rref m X j).2.length=m):rref m X (j+1)=rref m X j:=by
 show rstep m (rref m X j) j=_
 unfold rstep;simp only [h,Nat.lt_irrefl,if_false]
theorem rref_step {m j a:Nat} {X:Nat→Nat→Rat} (ha:a < m) (h:seek (rref m X j).1 m j (m - (rref m X j).2.length) (rref m X j).2.length=a) :
  rref m X (j+1)=(clr (nrm (swp (rref m X j).1 (rref m X j).2.length a) (rref m X j).2.length j) (rref m X j).2.length j,(rref m X j).2 ++ [j]):=by
 show rstep m (rref m X j) j=_
 unfold rstep;simp only [h,ha,if_true]
theorem rref_full {m:Nat} {X:Nat→Nat→Rat} {j:Nat} (h:m≤(rref m X j).2.length):∀ n,j≤n→rref m X n=rref m X j:=by
 intro n hn;obtain⟨d,rfl⟩:=Nat.exists_eq_add_of_le hn;clear hn
 induction d with
 | zero=>rfl
 | succ d ih =>
  have e:rref m X (j+(d+1))=rstep m (rref m X (j+d)) (j+d):=rfl;rw [e,ih];unfold rstep;have hz:m - (rref m X j).2.length=0:=by omega
  simp only [hz,seek];rw [if_neg (by omega)]
def nrmTo (M:Nat→Nat→Rat) (r j k c:Nat):Rat:=if c < k then M r c / M r j else M r c
def clrTo (M:Nat→Nat→Rat) (r j i:Nat) (i' c:Nat):Rat:=if i' < i then clr M r j i' c else M i' c
def rowTo (M:Nat→Nat→Rat) (r j i k c:Nat):Rat:=if c < k then M i c - M i j*M r c else M i c
theorem sub_zero_mul (a b:Rat):a=a - 0*b:=by grind
theorem rowTo_full {M:Nat→Nat→Rat} {r j i k c:Nat} (hc:c < k) (hir:¬ i=r):rowTo M r j i k c=clr M r j i c:=by
 unfold rowTo clr; rw [if_pos hc,if_neg hir]
end Go.Proofs.YthkkknjcoidioaaGreat
