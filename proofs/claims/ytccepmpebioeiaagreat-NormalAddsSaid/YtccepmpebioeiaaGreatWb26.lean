import Derived.Test.YtccepmpebioeiaaGreatWb25
import Derived.Test.YtccepmpebioeiaaGreatWb23
import Derived.Test.YtccepmpebioeiaaGreatWb24
import Derived.Deep.CutBlock
set_option linter.all false
set_option maxHeartbeats 8000000
namespace Go.Proofs.YtccepmpebioeiaaGreat
open Go.RowKit
def shB (most n:Nat) (R:Nat→Raw):Bool:=decide (n≤most) && allB n (fun i=>briefB (R i))
def RetDig (w:World) (R:Raw) (e:Ending) (w':World):Prop:=∃ z:Int,e=.returned (.int .i64 z)∧Hid (briefB R=true→z≤6)∧Ext w w'
theorem r2_digits {N:Nat} {w:World} {v:Value} {R:Raw} (h:RawV N w v R) :
  Calls Tryz.prog 37 #[v] w (RetDig w R):=by
 obtain⟨A1,n1,c1,A2,n2,c2,rfl,g1,g2⟩:=h.parts;obtain⟨_,_,_,e1,h1,hc1,hm1⟩:=g1.form;injection e1 with e1 e1' e1''
 subst e1 e1' e1'';obtain⟨_,_,_,e2,h2,hc2,hm2⟩:=g2.form;injection e2 with e2 e2' e2''
 subst e2 e2' e2''
 have HB:Hid (briefB R=true→n1≤1∧n2≤1):=fun hb=>by
  unfold briefB at hb;simp only [Bool.and_eq_true,decide_eq_true_eq] at hb;obtain⟨⟨⟨b1,b2⟩,-⟩,-⟩:=hb;rw [h1.out] at b1;rw [h2.out] at b2;exact⟨b1,b2⟩
 obtain⟨Rf,hRf⟩:=hid_eq (RetDig w R);rw [←hRf.out];clear g1 g2 h h1 h2;go_enter Tryz.func37,Tryz.ntmps37;go_upto_region 1 with (fail);refine boxes1 ?_;intro W hE hsz B0;obtain⟨a0,a1,a2,a3,-⟩:=cells4 B0;go_wp2
 first | go_ret | skip
 rw [hRf.out];refine⟨_,rfl,Lib.hid (fun hb=>?_),hE⟩;obtain⟨b1,b2⟩:=HB.out hb;unfold wrap64;omega
theorem r2_short {N lo hi:Nat} {w:World} {v:Value} {n:Nat} {R:Nat→Raw} (h:LsR N lo hi w v n R) (most:Nat) {mz:Int} (hmz:mz=(most:Int)) (hmo:most < 1000) :
  Calls Tryz.prog 12 #[v,.int .i64 mz,.int .i64 6] w (RetV w (.bool (shB most n R))):=by
 subst hmz;obtain⟨r,hr⟩:=hid_eq (shB most n R);rw [←hr.out];obtain⟨A,c,rfl,hnc,hcm⟩:=h.form;unfold maxLen at hcm;have hI:=h;clear h;go_enter Tryz.func12,Tryz.ntmps12
 by_cases hn:n≤most
 ·have HR:Hid (r=allB n (fun i=>briefB (R i))):=by rw [Hid,hr.out]; unfold shB; rw [decide_eq_true hn,Bool.true_and]
  have hd1:decide (most < n)=false:=by simp; omega
  have hd2:¬ most < n:=by omega
  clear hr;go_wp2
  go_loopw [7] (fun i wr=>∃ k:Nat,k≤n∧i=.int .i64 k∧Hid (∀ j,j < k→briefB (R j)=true)∧Ext w wr) (fun i _=>n - (intOf i).toNat)
  case atStart=>exact⟨0,Nat.zero_le _,rfl,fun j hj=>absurd hj (by omega),Ext.refl w⟩
  case round =>
   obtain⟨k,hk,rfl,HA,hE⟩:=hrel
   by_cases hlt:k < n
   ·obtain⟨b,off,rfl,-,-,hx⟩:=(hI.ext hE).addr (by omega);obtain⟨A1,n1,c1,A2,n2,c2,p0,p1,p2,p3,hv⟩:=(hx k hlt).val;clear hx;go_wp2_with (go_at_call 37; refine Hid.out ?_);refine (r2_digits hv).mono ?_;rintro e w1 ⟨z,rfl,hz,e1⟩;replace hE:=hE.trans e1;obtain⟨o,ho⟩:=hid_eq (briefB (R k));have HZ:Hid (o=true→z≤6):=fun h9=>hz.out (by rw [←ho.out]; exact h9)
    clear hz
    by_cases hz6:z≤6
    ·replace p0:=e1.cell p0;replace p1:=e1.cell p1;replace p2:=e1.cell p2;replace p3:=e1.cell p3;go_wp2_with (go_at_call 57; refine Hid.out ?_);refine (r2_brief (hv.ext e1)).mono ?_;rintro e w2 ⟨rfl,e2⟩;rw [←ho.out];replace hE:=hE.trans e2;clear p0 p1 p2 p3 e1 e2 HZ;cases ho':o with
     | true =>
      subst ho';go_wp2;go_roundw
      case rel=>exact⟨k+1,by omega,by go_num,all_succ HA.out ho.out.symm,hE⟩
      case measure=>simp [intOf]; omega
     | false =>
      subst ho';have HF:Hid (r=false):=by rw [Hid,HR.out]; exact allB_false hlt ho.out.symm
      go_wp2;go_ret;exact⟨ret_bool HF.out.symm,hE⟩
    ·have HO:Hid (o=false):=by
      cases ho':o with
      | true=>exact absurd (HZ.out ho') hz6
      | false=>rfl
     have HF:Hid (r=false):=by rw [Hid,HR.out]; exact allB_false hlt (by rw [←ho.out]; exact HO.out)
     clear p0 p1 p2 p3 e1 HZ HO;go_wp2;go_ret;exact⟨ret_bool HF.out.symm,hE⟩
   ·have HF:Hid (r=true):=by rw [Hid,HR.out]; exact allB_true.2 (fun j hj=>HA.out j (by omega))
    go_wp2;go_ret;exact⟨ret_bool HF.out.symm,hE⟩
 ·have HF:Hid (r=false):=by rw [Hid,hr.out]; unfold shB; rw [decide_eq_false hn]; rfl
  go_wp2;go_ret;exact⟨ret_bool HF.out.symm,Ext.refl w⟩
def few34 (rows cols:Nat) (Z:Lin):Bool:=decide (Z.m≤rows) && (shB rows Z.nl Z.l && (shB rows Z.np Z.p && allB Z.m (fun i=>shB cols (Z.L i) (Z.A i))))
theorem l34_few {N lo hi:Nat} {w:World} {v:Value} {Z:Lin} (h:LinV N lo hi w v Z) (rows cols:Nat) {rz cz:Int} (hrz:rz=(rows:Int)) (hcz:cz=(cols:Int)) (hr1:rows < 1000) (hc1:cols < 1000) :
  Calls Tryz.prog 11 #[v,.int .i64 rz,.int .i64 cz] w (RetV w (.bool (few34 rows cols Z))):=by
 subst hrz hcz;obtain⟨r,hr⟩:=hid_eq (few34 rows cols Z);rw [←hr.out];obtain⟨A1,c1,A2,c2,A3,c3,rfl,h1,h2,h3,hm,hnl,hnp⟩:=h.parts;obtain⟨m,L,A,nl,l,np,p⟩:=Z
 dsimp only at h1 h2 h3 hm hnl hnp ⊢
 have hcm1:c1≤9223372036854775807:=by obtain⟨_,_,e9,-,h9⟩:=h1.form; injection e9 with _ _ e9; subst e9; unfold maxLen at h9; exact h9
 obtain⟨s2,hs2⟩:=hid_eq (shB rows nl l);obtain⟨s3,hs3⟩:=hid_eq (shB rows np p);have HR:Hid (r=(decide (m≤rows) && (s2 && (s3 && allB m (fun i=>shB cols (L i) (A i)))))):=by rw [Hid,hr.out,hs2.out,hs3.out]; rfl
 clear hr h;go_enter Tryz.func11,Tryz.ntmps11;go_upto_region 1 with (fail);refine boxes1 ?_;intro W hE hsz B0;obtain⟨a0,a1,a2,-⟩:=cells3 B0
 by_cases hmr:m≤rows
 case neg =>
  have HF:Hid (r=false):=by rw [Hid,HR.out,decide_eq_false hmr]; rfl
  go_wp2;go_ret;exact⟨ret_bool HF.out.symm,hE⟩
 case pos =>
 go_wp2_with (go_at_call 12; refine Hid.out ?_);refine (r2_short (h2.ext hE) rows rfl hr1).mono ?_;rintro e w1 ⟨rfl,e1⟩;rw [←hs2.out];replace hE:=hE.trans e1;replace B0:=e1.block B0;clear a0 a1 a2 e1;obtain⟨a0,a1,a2,-⟩:=cells3 B0;cases hs2':s2 with
 | false =>
  subst hs2';have HF:Hid (r=false):=by rw [Hid,HR.out,decide_eq_true hmr]; rfl
  go_wp2;go_ret;exact⟨ret_bool HF.out.symm,hE⟩
 | true =>
 subst hs2';go_wp2_with (go_at_call 12; refine Hid.out ?_);refine (r2_short (h3.ext hE) rows rfl hr1).mono ?_;rintro e w2 ⟨rfl,e2⟩;rw [←hs3.out];replace hE:=hE.trans e2;replace B0:=e2.block B0;clear a0 a1 a2 e2;obtain⟨a0,a1,a2,-⟩:=cells3 B0;cases hs3':s3 with
 | false =>
  subst hs3';have HF:Hid (r=false):=by rw [Hid,HR.out,decide_eq_true hmr]; rfl
  go_wp2;go_ret;exact⟨ret_bool HF.out.symm,hE⟩
 | true =>
 subst hs3';have HR2:Hid (r=allB m (fun i=>shB cols (L i) (A i))):=by rw [Hid,HR.out,decide_eq_true hmr]; rfl
 clear HR;have hd1:decide (rows < m)=false:=by simp; omega
 have hd2:¬ rows < m:=by omega
 go_wp2;clear a0 a1 a2
 go_loopw [31] (fun i wr=>∃ k:Nat,k≤m∧i=.int .i64 k∧Hid (∀ j,j < k→shB cols (L j) (A j)=true)∧Ext w wr) (fun i _=>m - (intOf i).toNat)
 case atStart=>exact⟨0,Nat.zero_le _,rfl,fun j hj=>absurd hj (by omega),hE⟩
 case round =>
  obtain⟨k,hk,rfl,HA,hE⟩:=hrel
  by_cases hlt:k < m
  ·obtain⟨b,off,rfl,-,-,hx⟩:=(h1.ext hE).addr (by omega);obtain⟨Ak,ck,p0,-,-,hv⟩:=hx k hlt;obtain⟨Lk,hLk⟩:=hid_eq (L k);rw [←hLk.out] at p0 hv;clear hx;go_wp2_with (go_at_call 12; refine Hid.out ?_);refine (r2_short hv cols rfl hc1).mono ?_;rintro e w3 ⟨rfl,e3⟩;replace hE:=hE.trans e3;obtain⟨o,ho⟩:=hid_eq (shB cols Lk (A k));have HO:Hid (shB cols (L k) (A k)=o):=by rw [Hid,ho.out,hLk.out]
   rw [←ho.out];clear p0 e3;cases ho':o with
   | true =>
    subst ho';go_wp2;go_roundw
    case rel=>exact⟨k+1,by omega,by go_num,all_succ (p:=fun j=>shB cols (L j) (A j)=true) HA.out HO.out,hE⟩
    case measure=>simp [intOf]; omega
   | false =>
    subst ho';have HF:Hid (r=false):=by rw [Hid,HR2.out]; exact allB_false hlt HO.out
    go_wp2;go_ret;exact⟨ret_bool HF.out.symm,hE⟩
  ·have HF:Hid (r=true):=by rw [Hid,HR2.out]; exact allB_true.2 (fun j hj=>HA.out j (by omega))
   go_wp2;go_ret;exact⟨ret_bool HF.out.symm,hE⟩
set_option maxRecDepth 100000 in
theorem l34_checked {N lo hi:Nat} {w:World} {v:Value} {Z:Lin} (h:LinV N lo hi w v Z) (hs:LinSz Z) (hp:∀ i,i < Z.np→RawS (Z.p i)) :
  Calls Tryz.prog 14 #[v] w (RetV w (.int .i64 (codeOf Z))):=by
 obtain⟨r,hr⟩:=hid_eq (codeOf Z);rw [←hr.out];obtain⟨A1,c1,A2,c2,A3,c3,rfl,h1,h2,h3,hm,hnl,hnp⟩:=h.parts;obtain⟨m,L,A,nl,l,np,p⟩:=Z
 dsimp only at h1 h2 h3 hm hnl hnp ⊢
 have HS:=Lib.hid hs;have HP:=Lib.hid hp;have HR:Hid (r=if canonB ⟨m,L,A,nl,l,np,p⟩=false then 1 else if sizeB ⟨m,L,A,nl,l,np,p⟩=false then 3 else if fitB ⟨m,L,A,nl,l,np,p⟩=false then 4 else if allB np (fun i=>posB (p i))=false then 2 else 0):=hr;have hcm1:c1≤9223372036854775807:=by obtain⟨_,_,e9,-,h9⟩:=h1.form; injection e9 with _ _ e9; subst e9; unfold maxLen at h9; exact h9
 clear h hr hs hp;obtain⟨s2,hs2⟩:=hid_eq (allB nl (fun i=>okR (l i)));obtain⟨s3,hs3⟩:=hid_eq (allB np (fun i=>okR (p i)));have HCA:Hid (canonB ⟨m,L,A,nl,l,np,p⟩=(allB m (fun i=>allB (L i) (fun j=>okR (A i j))) && (s2 && s3))):=by rw [hs2.out,hs3.out]; rfl
 go_enter Tryz.func14,Tryz.ntmps14;go_upto_region 1 with (fail);refine boxes1 ?_;intro W hE hsz B0;obtain⟨a0,a1,a2,-⟩:=cells3 B0;go_wp2;clear a0 a1 a2
 go_loopw [12,4] (fun i _ wr=>∃ k:Nat,k≤m∧i=.int .i64 k∧Hid (∀ j,j < k→allB (L j) (fun t=>okR (A j t))=true)∧Ext W wr) (fun i _ _=>m - (intOf i).toNat)
 case atStart=>exact⟨0,Nat.zero_le _,rfl,fun j hj=>absurd hj (by omega),Ext.refl W⟩
 case round =>
  obtain⟨k,hk,rfl,HA,eW⟩:=hrel;have hEr:=hE.trans eW
  by_cases hlt:k < m
  ·obtain⟨b,off,rfl,-,-,hx⟩:=(h1.ext hEr).addr (by omega);obtain⟨Ak,ck,p0,-,-,hv⟩:=hx k hlt;obtain⟨Lk,hLk⟩:=hid_eq (L k);rw [←hLk.out] at p0 hv;clear hx;go_wp2_with (go_at_call 17; refine Hid.out ?_);refine (r2_validList hv (fun i hi=>HS.out.1 k hlt i (by show i < L k; rw [←hLk.out]; exact hi))).mono ?_;rintro e w1 ⟨rfl,e1⟩;replace eW:=eW.trans e1;obtain⟨o,ho⟩:=hid_eq (allB Lk (fun i=>okR (A k i)));have HO:Hid (allB (L k) (fun t=>okR (A k t))=o):=by rw [Hid,ho.out,hLk.out]
   rw [←ho.out];clear p0 e1;cases ho':o with
   | true =>
    subst ho';go_wp2;go_roundw
    case rel=>exact⟨k+1,by omega,by go_num,all_succ (p:=fun j=>allB (L j) (fun t=>okR (A j t))=true) HA.out HO.out,eW⟩
    case measure=>simp [intOf]; omega
   | false =>
    subst ho';have HF:Hid (r=1):=by rw [Hid,HR.out,HCA.out,allB_false hlt HO.out]; rfl
    go_wp2;go_ret;exact⟨ret_int HF.out.symm,hE.trans eW⟩
  ·have HAA:Hid (allB m (fun i=>allB (L i) (fun j=>okR (A i j)))=true):=allB_true.2 (fun j hj=>HA.out j (by omega));clear HA;replace B0:=eW.block B0;obtain⟨a0,a1,a2,-⟩:=cells3 B0;clear hE eW;go_wp2_with (go_at_call 17; refine Hid.out ?_);refine (r2_validList (h2.ext hEr) HS.out.2.1).mono ?_;rintro e w2 ⟨rfl,e2⟩;rw [←hs2.out];replace hEr:=hEr.trans e2;replace B0:=e2.block B0;clear a0 a1 a2 e2;obtain⟨a0,a1,a2,-⟩:=cells3 B0;cases hs2':s2 with
   | false =>
    subst hs2';have HF:Hid (r=1):=by rw [Hid,HR.out,HCA.out,HAA.out]; rfl
    go_wp2;go_ret;exact⟨ret_int HF.out.symm,hEr⟩
   | true =>
   subst hs2';go_wp2_with (go_at_call 17; refine Hid.out ?_);refine (r2_validList (h3.ext hEr) HS.out.2.2).mono ?_;rintro e w3 ⟨rfl,e3⟩;rw [←hs3.out];replace hEr:=hEr.trans e3;replace B0:=e3.block B0;clear a0 a1 a2 e3;obtain⟨a0,a1,a2,-⟩:=cells3 B0;cases hs3':s3 with
   | false =>
    subst hs3';have HF:Hid (r=1):=by rw [Hid,HR.out,HCA.out,HAA.out]; rfl
    go_wp2;go_ret;exact⟨ret_int HF.out.symm,hEr⟩
   | true =>
   subst hs3';have HR2:Hid (r=if sizeB ⟨m,L,A,nl,l,np,p⟩=false then 3 else if fitB ⟨m,L,A,nl,l,np,p⟩=false then 4 else if allB np (fun i=>posB (p i))=false then 2 else 0):=by rw [Hid,HR.out,HCA.out,HAA.out]; rfl
   have HOKP:Hid (∀ i,i < np→okR (p i)=true):=allB_true.1 hs3.out.symm;clear HR HAA HCA
   by_cases hm1:1≤m
   case neg =>
    have HF:Hid (r=3):=by
     have:sizeB ⟨m,L,A,nl,l,np,p⟩=false:=by
      unfold sizeB; simp only [Bool.and_eq_false_iff,decide_eq_false_iff_not]; omega
     rw [Hid,HR2.out,this]; rfl
    go_wp2;go_ret;exact⟨ret_int HF.out.symm,hEr⟩
   case pos =>
   by_cases hm2:m≤64
   case neg =>
    have HF:Hid (r=3):=by
     have:sizeB ⟨m,L,A,nl,l,np,p⟩=false:=by
      unfold sizeB; simp only [Bool.and_eq_false_iff,decide_eq_false_iff_not]; omega
     rw [Hid,HR2.out,this]; rfl
    go_wp2;go_ret;exact⟨ret_int HF.out.symm,hEr⟩
   case pos =>
   have h1':=h1.ext hEr;obtain⟨b,off,rfl,-,-,hx⟩:=h1'.addr (by omega);obtain⟨AL,cL,p0,hLc,hcL,-⟩:=hx 0 (by omega);rw [Nat.add_zero] at p0;obtain⟨L0,hL0⟩:=hid_eq (L 0);rw [←hL0.out] at p0 hLc;unfold maxLen at hcL;clear hx
   by_cases hL1:1≤L0
   case neg =>
    have HF:Hid (r=3):=by
     have:sizeB ⟨m,L,A,nl,l,np,p⟩=false:=by
      unfold sizeB; simp only [Bool.and_eq_false_iff,decide_eq_false_iff_not]; have:=hL0.out; omega
     rw [Hid,HR2.out,this]; rfl
    go_wp2;go_ret;exact⟨ret_int HF.out.symm,hEr⟩
   case pos =>
   by_cases hL2:L0≤24
   case neg =>
    have HF:Hid (r=3):=by
     have:sizeB ⟨m,L,A,nl,l,np,p⟩=false:=by
      unfold sizeB; simp only [Bool.and_eq_false_iff,decide_eq_false_iff_not]; have:=hL0.out; omega
     rw [Hid,HR2.out,this]; rfl
    go_wp2;go_ret;exact⟨ret_int HF.out.symm,hEr⟩
   case pos =>
   have HR3:Hid (r=if fitB ⟨m,L,A,nl,l,np,p⟩=false then 4 else if allB np (fun i=>posB (p i))=false then 2 else 0):=by
    have:sizeB ⟨m,L,A,nl,l,np,p⟩=true:=by
     unfold sizeB; simp only [Bool.and_eq_true,decide_eq_true_eq]; have:=hL0.out; omega
    rw [Hid,HR2.out,this]; rfl
   clear HR2;go_wp2
   go_loop [59,6] (fun i _=>∃ k:Nat,k≤m∧i=.int .i64 k∧Hid (∀ j,j < k→L j=L 0)) (fun i _=>m - (intOf i).toNat)
   case atStart=>exact⟨0,Nat.zero_le _,rfl,fun j hj=>absurd hj (by omega)⟩
   case round =>
    obtain⟨k,hk,rfl,HA⟩:=hrel
    by_cases hlt:k < m
    ·obtain⟨b',off',hA,-,-,hx⟩:=h1'.addr (by omega);obtain⟨rfl,rfl⟩:b=b'∧off=off':=by injection hA with hA; injection hA with e1 e2; exact⟨e1,e2⟩
     obtain⟨Ak,ck,q0,hkc,hck,-⟩:=hx k hlt;obtain⟨Lk,hLk⟩:=hid_eq (L k);rw [←hLk.out] at q0 hkc;unfold maxLen at hck;clear hx hA
     by_cases heq:Lk=L0
     ·subst heq;have heq1:((Lk:Int) != (Lk:Int))=false:=by simp
      go_wp2
      go_round
      case rel=>exact⟨k+1,by omega,by go_num,all_succ (p:=fun j=>L j=L 0) HA.out (by rw [←hLk.out,hL0.out])⟩
      case measure=>simp [intOf]; omega
     ·have HF:Hid (r=4):=by
       have h9:fitB ⟨m,L,A,nl,l,np,p⟩=false:=by
        have:evenB ⟨m,L,A,nl,l,np,p⟩=false:=allB_false (i:=k) hlt (by simp only [decide_eq_false_iff_not]; rw [←hLk.out,←hL0.out]; exact heq);unfold fitB; rw [this]; rfl
       rw [Hid,HR3.out,h9]; rfl
      have hne:((Lk:Int) == (L0:Int))=false:=beq_eq_false_iff_ne.2 (by omega);have hne1:((Lk:Int) != (L0:Int))=true:=by rw [bne_iff_ne]; omega
      go_wp2;go_ret;exact⟨ret_int HF.out.symm,hEr⟩
    ·have HE:Hid (evenB ⟨m,L,A,nl,l,np,p⟩=true):=allB_true.2 (fun j hj=>by simp only [decide_eq_true_eq]; exact HA.out j (by have:j < m:=hj; omega));clear HA
     by_cases hnlm:nl=m
     case neg =>
      have HF:Hid (r=4):=by
       have:fitB ⟨m,L,A,nl,l,np,p⟩=false:=by unfold fitB; simp [hnlm]
       rw [Hid,HR3.out,this]; rfl
      have t1:((nl:Int) != (m:Int))=true:=by rw [bne_iff_ne]; omega
      clear hnlm;go_wp2;go_ret;exact⟨ret_int HF.out.symm,hEr⟩
     case pos =>
     by_cases hnpm:np=m
     case neg =>
      have HF:Hid (r=4):=by
       have:fitB ⟨m,L,A,nl,l,np,p⟩=false:=by unfold fitB; simp [hnpm]
       rw [Hid,HR3.out,this]; rfl
      have t1:((nl:Int) != (m:Int))=false:=by rw [hnlm]; simp
      have t2:((np:Int) != (m:Int))=true:=by rw [bne_iff_ne]; omega
      clear hnlm hnpm;go_wp2;go_ret;exact⟨ret_int HF.out.symm,hEr⟩
     case pos =>
     have HR4:Hid (r=if allB np (fun i=>posB (p i))=false then 2 else 0):=by
      have:fitB ⟨m,L,A,nl,l,np,p⟩=true:=by unfold fitB; rw [HE.out]; simp [hnlm,hnpm]
      rw [Hid,HR3.out,this]; rfl
     have t1:((nl:Int) != (m:Int))=false:=by rw [hnlm]; simp
     have t2:((np:Int) != (m:Int))=false:=by rw [hnpm]; simp
     clear HR3 hnlm hnpm;go_wp2
     go_loopw [91,8] (fun i _ wr=>∃ k:Nat,k≤np∧i=.int .i64 k∧Hid (∀ j,j < k→posB (p j)=true)∧Ext w wr) (fun i _ _=>np - (intOf i).toNat)
     case atStart=>exact⟨0,Nat.zero_le _,rfl,fun j hj=>absurd hj (by omega),hEr⟩
     case round =>
      clear hEr p0 a0 a1 a2 B0 h1';obtain⟨k,hk,rfl,HA,hE⟩:=hrel
      by_cases hlt:k < np
      ·obtain⟨b2,off2,rfl,-,-,hx⟩:=(h3.ext hE).addr (by omega);obtain⟨A4,n4,c4,A5,n5,c5,q0,q1,q2,q3,hv⟩:=(hx k hlt).val;obtain⟨q,hq,hvq⟩:=rawV_rat hv (HOKP.out k hlt);obtain⟨s,hs⟩:=hid_eq q.num.sign;have HZ:Hid (Sz q):=by have:=HP.out k hlt; rw [hq] at this; exact this
       have HQ:=Lib.hid hq;clear hx hq hv;go_wp2_with (go_at_call 44; refine Hid.out ?_);refine boxesC1 ?_;intro W4 e4 hsz4 B4;refine (r2_sign (hvq.ext e4) HZ.out).mono ?_;rintro e w5 ⟨rfl,e5⟩;rw [←hs.out];replace hE:=(hE.trans e4).trans e5;clear q0 q1 q2 q3 B4 e4 e5 hvq
       by_cases hpos:0 < s
       ·have HPk:Hid (posB (p k)=true):=by
         rw [Hid,HQ.out,posB_raw,decide_eq_true_eq];rw [hs.out] at hpos;exact Int.sign_pos_iff.1 hpos
        clear hs;go_wp2;go_roundw
        case rel=>exact⟨k+1,by omega,by go_num,all_succ (p:=fun j=>posB (p j)=true) HA.out HPk.out,hE⟩
        case measure=>simp [intOf]; omega
       ·have HF:Hid (r=2):=by
         have h9:posB (p k)=false:=by
          rw [HQ.out,posB_raw,decide_eq_false_iff_not];rw [hs.out] at hpos;intro h8; exact hpos (Int.sign_pos_iff.2 h8)
         rw [Hid,HR4.out,allB_false hlt h9]; rfl
        clear hs;go_wp2;go_ret;exact⟨ret_int HF.out.symm,hE⟩
      ·have HF:Hid (r=0):=by
        rw [Hid,HR4.out,allB_true.2 (fun j hj=>HA.out j (by omega))]; rfl
       go_wp2;go_ret;exact⟨ret_int HF.out.symm,hE⟩
end Go.Proofs.YtccepmpebioeiaaGreat
namespace Go.Proofs.YtccepmpebioeiaaGreat
def av (n:Nat) (A:Nat→Nat→Rat) (x:Nat→Rat) (i:Nat):Rat:=sum n (fun c=>A i c*x c)
def obj (m:Nat) (P v:Nat→Rat):Rat:=sum m (fun i=>P i*(v i*v i))
def nm (m:Nat) (A:Nat→Nat→Rat) (P:Nat→Rat) (a b:Nat):Rat:=sum m (fun k=>A k a*(P k*A k b))
def nb (m:Nat) (A:Nat→Nat→Rat) (P L:Nat→Rat) (a:Nat):Rat:=sum m (fun k=>A k a*(P k*L k))
theorem nm_symm (m:Nat) (A:Nat→Nat→Rat) (P:Nat→Rat) (a b:Nat):nm m A P a b=nm m A P b a:=sum_congr fun k _=>by grind
theorem nm_av (m n:Nat) (A:Nat→Nat→Rat) (P y:Nat→Rat) (a:Nat):sum n (fun b=>nm m A P a b*y b)=sum m (fun k=>A k a*(P k*av n A y k)):=by
 unfold nm av
 have e:∀ b,sum m (fun k=>A k a*(P k*A k b))*y b=sum m (fun k=>A k a*(P k*(A k b*y b))):=by
  intro b; rw [←sum_mul_right]; exact sum_congr fun k _=>by grind
 rw [sum_congr (fun b _=>e b),sum_comm];refine sum_congr fun k _=>?_
 rw [sum_mul n (A k a),sum_mul n (P k)]
theorem dual_av (m n:Nat) (A:Nat→Nat→Rat) (y g:Nat→Rat):sum n (fun a=>y a*sum m (fun k=>A k a*g k))=sum m (fun k=>av n A y k*g k):=by
 unfold av
 have e:∀ a,y a*sum m (fun k=>A k a*g k)=sum m (fun k=>(A k a*y a)*g k):=by
  intro a; rw [←sum_mul]; exact sum_congr fun k _=>by grind
 rw [sum_congr (fun a _=>e a),sum_comm];exact sum_congr fun k _=>sum_mul_right _ _ _
theorem sq_nonneg (a:Rat):0≤a*a:=by
 rcases Rat.le_total (a:=0) (b:=a) with h | h
 ·exact Rat.mul_nonneg h h
 ·have h1:0≤-a:=by grind
  have h2:=Rat.mul_nonneg h1 h1;have e : -a * -a=a*a:=by grind
  rwa [e] at h2
theorem sq_zero {a:Rat} (h:a*a=0):a=0:=by grind
theorem obj_zero {m:Nat} {P v:Nat→Rat} (hP:∀ i,i < m→0 < P i) (h:obj m P v=0):∀ i,i < m→v i=0:=by
 intro i hi;have h1:=sum_pos_zero (fun k hk=>Rat.mul_nonneg (by have:=hP k hk; grind) (sq_nonneg (v k))) h i hi;have h2:=hP i hi;refine sq_zero ?_
 grind
theorem normal_zero {m n:Nat} {A:Nat→Nat→Rat} {P y:Nat→Rat} (hP:∀ i,i < m→0 < P i) (h:∀ a,a < n→sum n (fun b=>nm m A P a b*y b)=0):∀ i,i < m→av n A y i=0:=by
 refine obj_zero hP ?_;have h1:=dual_av m n A y (fun k=>P k*av n A y k);rw [sum_eq_zero (fun a ha=>by rw [←nm_av,h a ha]; grind)] at h1;unfold obj;rw [h1];exact sum_congr fun k _=>by grind
def Nsol (m n:Nat) (A:Nat→Nat→Rat) (P L x:Nat→Rat):Prop:=∀ a,a < n→sum n (fun b=>nm m A P a b*x b)=nb m A P L a
def Orth (m n:Nat) (A:Nat→Nat→Rat) (P v:Nat→Rat):Prop:=∀ a,a < n→sum m (fun k=>A k a*(P k*v k))=0
theorem nsol_orth {m n:Nat} {A:Nat→Nat→Rat} {P L x:Nat→Rat}:Nsol m n A P L x↔Orth m n A P (fun k=>av n A x k - L k):=by
 have e:∀ a,sum m (fun k=>A k a*(P k*(av n A x k - L k)))=sum n (fun b=>nm m A P a b*x b) - nb m A P L a:=by
  intro a;rw [nm_av]; unfold nb; rw [←sum_sub];exact sum_congr fun k _=>by grind
 constructor
 ·intro h a ha; rw [e,h a ha]; grind
 ·intro h a ha; have:=h a ha; rw [e] at this; grind
theorem av_sub (n:Nat) (A:Nat→Nat→Rat) (x y:Nat→Rat) (i:Nat):av n A (fun c=>x c - y c) i=av n A x i - av n A y i:=by
 unfold av; rw [←sum_sub]; exact sum_congr fun c _=>by grind
theorem fit_unique {m n:Nat} {A:Nat→Nat→Rat} {P L x y:Nat→Rat} (hP:∀ i,i < m→0 < P i) (h:Nsol m n A P L x) (h':Nsol m n A P L y):∀ i,i < m→av n A x i=av n A y i:=by
 intro i hi
 have h1:=normal_zero (A:=A) (y:=fun c=>x c - y c) hP (fun a ha=>by
  have e:∀ b,nm m A P a b*(x b - y b)=nm m A P a b*x b - nm m A P a b*y b:=fun b=>by grind
  rw [sum_congr (fun b _=>e b),sum_sub,h a ha,h' a ha]; grind) i hi
 rw [av_sub] at h1
 grind
def bas (A:Nat→Nat→Rat) (p:List Nat) (i s:Nat):Rat:=A i (p[s]?.getD 0)
theorem bas_reg {m n:Nat} {A M:Nat→Nat→Rat} {P:Nat→Rat} {p:List Nat} (h:Rref m n A M p) (hP:∀ i,i < m→0 < P i):Reg p.length (nm m (bas A p) P):=by
 intro x hx;exact cols_free h (normal_zero (A:=bas A p) hP hx)
def fits (r:Nat) (B X:Nat→Nat→Rat) (i j:Nat):Rat:=sum r (fun s=>B i s*sum r (fun t=>X s t*B j t))
def coef (m r:Nat) (B X:Nat→Nat→Rat) (P L:Nat→Rat) (s:Nat):Rat:=sum r (fun t=>X s t*nb m B P L t)
theorem fits_av (m r:Nat) (B X:Nat→Nat→Rat) (P L:Nat→Rat) (i:Nat):sum m (fun j=>fits r B X i j*P j*L j)=av r B (coef m r B X P L) i:=by
 unfold fits av coef nb
 have e:∀ j,sum r (fun s=>B i s*sum r (fun t=>X s t*B j t))*P j*L j=sum r (fun s=>B i s*sum r (fun t=>X s t*(B j t*(P j*L j)))):=by
  intro j
  have e1:∀ s,B i s*sum r (fun t=>X s t*(B j t*(P j*L j)))=B i s*sum r (fun t=>X s t*B j t)*(P j*L j):=by
   intro s
   have:sum r (fun t=>X s t*(B j t*(P j*L j)))=sum r (fun t=>X s t*B j t)*(P j*L j):=by
    rw [←sum_mul_right]; exact sum_congr fun t _=>by grind
   rw [this]; grind
  rw [sum_congr (fun s _=>e1 s),sum_mul_right]; grind
 rw [sum_congr (fun j _=>e j),sum_comm];refine sum_congr fun s _=>?_
 rw [sum_mul,sum_comm]
 congr 1
 exact sum_congr fun t _=>sum_mul _ _ _
theorem coef_nsol {m r:Nat} {B X:Nat→Nat→Rat} {P L:Nat→Rat} (hX:∀ i,i < r→∀ c,c < r→mm r (nm m B P) X i c=dlt i c):Nsol m r B P L (coef m r B X P L):=by
 intro a ha;unfold coef
 have e:∀ b,nm m B P a b*sum r (fun t=>X b t*nb m B P L t)=sum r (fun t=>(nm m B P a b*X b t)*nb m B P L t):=by
  intro b; rw [←sum_mul]; exact sum_congr fun t _=>by grind
 rw [sum_congr (fun b _=>e b),sum_comm];rw [sum_congr (g:=fun t=>dlt a t*nb m B P L t) (fun t ht=>by rw [sum_mul_right,←hX a ha t ht]; rfl)];exact sum_dlt ha _
def spread (p:List Nat) (z:Nat→Rat) (c:Nat):Rat:=sum p.length (fun s=>dlt (p[s]?.getD 0) c*z s)
theorem av_spread {m n:Nat} {A M:Nat→Nat→Rat} {p:List Nat} (h:Rref m n A M p) (z:Nat→Rat) (i:Nat):av n A (spread p z) i=av p.length (bas A p) z i:=by
 unfold av spread
 have e:∀ c,A i c*sum p.length (fun s=>dlt (p[s]?.getD 0) c*z s)=sum p.length (fun s=>dlt (p[s]?.getD 0) c*(A i c*z s)):=by
  intro c; rw [←sum_mul]; exact sum_congr fun s _=>by grind
 rw [sum_congr (fun c _=>e c),sum_comm];exact sum_congr fun s hs=>sum_dlt (h.low s hs) (fun c=>A i c*z s)
theorem orth_bas {m n:Nat} {A M:Nat→Nat→Rat} {P v:Nat→Rat} {p:List Nat} (h:Rref m n A M p) (ho:Orth m p.length (bas A p) P v):Orth m n A P v:=by
 intro a ha
 have e:∀ k,k < m→A k a*(P k*v k)=sum p.length (fun s=>M s a*(bas A p k s*(P k*v k))):=by
  intro k hk;rw [cols_span h hk ha,←sum_mul_right];exact sum_congr fun s _=>by unfold bas; grind
 rw [sum_congr e,sum_comm];refine sum_eq_zero fun s hs=>?_
 rw [sum_mul,ho s hs]; grind
theorem fits_fit {m n:Nat} {A M X:Nat→Nat→Rat} {P L x:Nat→Rat} {p:List Nat} (h:Rref m n A M p) (hP:∀ i,i < m→0 < P i)
  (hX:∀ i,i < p.length→∀ c,c < p.length→mm p.length (nm m (bas A p) P) X i c=dlt i c) (hx:Nsol m n A P L x) :
  ∀ i,i < m→sum m (fun j=>fits p.length (bas A p) X i j*P j*L j)=av n A x i:=by
 intro i hi;rw [fits_av,←av_spread h];refine fit_unique hP ?_ hx i hi;rw [nsol_orth];refine orth_bas h ?_;have h1:=nsol_orth.1 (coef_nsol (L:=L) hX);intro a ha;rw [←h1 a ha];exact sum_congr fun k _=>by simp only [av_spread h]
theorem steinitz {m k r:Nat} {V U C:Nat→Nat→Rat} (h:∀ s,s < k→∀ i,i < m→V i s=sum r (fun t=>U i t*C t s)) (hk:r < k) :
  ∃ y:Nat→Rat,(∃ s,s < k∧y s≠0)∧∀ i,i < m→sum k (fun s=>V i s*y s)=0:=by
 have hR:=rref_ok r C k;have hl:=hR.len;obtain⟨c,hc,hg⟩:=inc_gap hR.inc (Nat.lt_of_le_of_lt hl hk);refine⟨nul (rref r C k).1 (rref r C k).2 c,⟨c,hc,by rw [nul_self hg]; decide⟩,fun i hi=>?_⟩;have h0:=nul_null hR hc
 generalize nul (rref r C k).1 (rref r C k).2 c=y at h0
 have e:∀ s,s < k→V i s*y s=sum r (fun t=>U i t*(C t s*y s)):=by
  intro s hs;rw [h s hs i hi,←sum_mul_right];exact sum_congr fun t _=>by grind
 rw [sum_congr e,sum_comm];exact sum_eq_zero fun t ht=>by rw [sum_mul,h0 t ht]; grind
theorem inv_symm {r:Nat} {K X:Nat→Nat→Rat} (hK:∀ i j,K i j=K j i) (h1:∀ i,i < r→∀ c,c < r→mm r K X i c=dlt i c) (h2:∀ i,i < r→∀ c,c < r→mm r X K i c=dlt i c):∀ i,i < r→∀ j,j < r→X i j=X j i:=by
 intro i hi j hj
 have a1:mm r (mm r X K) (fun a b=>X b a) i j=X j i:=by
  rw [mm_congr (a':=dlt) (b':=fun a b=>X b a) (fun k hk=>h2 i hi k hk) (fun _ _=>rfl),one_mm _ hi]
 have a2:mm r (mm r X K) (fun a b=>X b a) i j=X i j:=by
  rw [mm_assoc,mm_congr (a':=X) (b':=dlt) (fun _ _=>rfl) (fun k hk=>?_),mm_one _ hj];have:=h2 j hj k hk
  have hd:dlt k j=dlt j k:=by
   by_cases h:k=j
   ·rw [h]
   ·rw [dlt_ne h,dlt_ne (fun e=>h e.symm)]
  rw [hd,←this];exact sum_congr fun l _=>by rw [hK k l]; grind
 rw [←a1,a2]
theorem fits_symm {r:Nat} {B X:Nat→Nat→Rat} (hX:∀ i,i < r→∀ j,j < r→X i j=X j i) (i j:Nat):fits r B X i j=fits r B X j i:=by
 unfold fits;have e1:∀ s,B i s*sum r (fun t=>X s t*B j t)=sum r (fun t=>B i s*(X s t*B j t)):=fun s=>(sum_mul _ _ _).symm
 have e2:∀ s,B j s*sum r (fun t=>X s t*B i t)=sum r (fun t=>B j s*(X s t*B i t)):=fun s=>(sum_mul _ _ _).symm
 rw [sum_congr (fun s _=>e1 s),sum_congr (fun s _=>e2 s),sum_comm];exact sum_congr fun t ht=>sum_congr fun s hs=>by rw [hX s hs t ht]; grind
structure Model (m n:Nat) (A M X:Nat→Nat→Rat) (P:Nat→Rat) (p:List Nat):Prop where
 rr:Rref m n A M p
 pos:∀ i,i < m→0 < P i
 kx:∀ i,i < p.length→∀ c,c < p.length→mm p.length (nm m (bas A p) P) X i c=dlt i c
 xk:∀ i,i < p.length→∀ c,c < p.length→mm p.length X (nm m (bas A p) P) i c=dlt i c
variable {m n:Nat} {A M X:Nat→Nat→Rat} {P:Nat→Rat} {p:List Nat}
def gf (A X:Nat→Nat→Rat) (p:List Nat) (i j:Nat):Rat:=fits p.length (bas A p) X i j
theorem Model.symm (h:Model m n A M X P p) (i j:Nat):gf A X p i j=gf A X p j i :=
 fits_symm (inv_symm (nm_symm m (bas A p) P) h.kx h.xk) i j
theorem Model.fix (h:Model m n A M X P p) (x:Nat→Rat):∀ i,i < m→sum m (fun j=>gf A X p i j*P j*av n A x j)=av n A x i:=by
 refine fits_fit h.rr h.pos h.kx (x:=x) ?_;rw [nsol_orth];intro a _;exact sum_eq_zero fun k _=>by grind
theorem Model.col (h:Model m n A M X P p) (k:Nat):∃ x:Nat→Rat,∀ i,gf A X p i k=av n A x i:=by
 refine⟨spread p (fun s=>sum p.length (fun t=>X s t*bas A p k t)),fun i=>?_⟩;rw [av_spread h.rr]
 rfl
theorem Model.idem (h:Model m n A M X P p) (i k:Nat) (hi:i < m):sum m (fun j=>gf A X p i j*P j*gf A X p j k)=gf A X p i k:=by
 obtain⟨x,hx⟩:=h.col k;rw [hx i,←h.fix x i hi];exact sum_congr fun j _=>by rw [hx j]
theorem Model.sq (h:Model m n A M X P p) (i:Nat) (hi:i < m):gf A X p i i=sum m (fun j=>P j*(gf A X p i j*gf A X p i j)):=by
 rw [←h.idem i i hi];exact sum_congr fun j _=>by rw [h.symm j i]; grind
def hd (A X:Nat→Nat→Rat) (P:Nat→Rat) (p:List Nat) (i:Nat):Rat:=gf A X p i i*P i
theorem sum_ge_one {m i:Nat} {f:Nat→Rat} (hi:i < m) (h:∀ k,k < m→0≤f k):f i≤sum m f:=by
 have h1:sum m f=sum m (fun k=>if k=i then f i else 0)+sum m (fun k=>if k=i then 0 else f k):=by
  rw [←sum_add];refine sum_congr fun k _=>?_
  by_cases hk:k=i
  ·subst hk; simp <;> grind
  ·simp [hk] <;> grind
 have h2:sum m (fun k=>if k=i then f i else 0)=f i:=by
  rw [sum_single hi (fun k _ hk=>by simp [hk])]; simp
 have h3:0≤sum m (fun k=>if k=i then 0 else f k):=sum_nonneg fun k hk=>by
  by_cases hk':k=i
  ·simp [hk'] <;> grind
  ·simp [hk']; exact h k hk
 grind
theorem Model.diag (h:Model m n A M X P p) {i:Nat} (hi:i < m):0≤hd A X P p i∧hd A X P p i≤1:=by
 have h0:∀ k,k < m→0≤P k*(gf A X p i k*gf A X p i k):=fun k hk=>Rat.mul_nonneg (by have:=h.pos k hk; grind) (sq_nonneg _)
 have h1:=h.sq i hi;have h2:=sum_ge_one hi h0;rw [←h1] at h2;have h3:=sum_nonneg h0;rw [←h1] at h3;have hp:=h.pos i hi;unfold hd
 generalize gf A X p i i=g at *
 have h4:0≤g*P i:=Rat.mul_nonneg h3 (by grind);refine⟨h4,?_⟩
 have h5:(g*P i)*(g*P i)≤g*P i:=by
  have:=Rat.mul_le_mul_of_nonneg_right h2 (Rat.le_of_lt hp)
  grind
 rcases Rat.le_total (a:=g*P i) (b:=1) with h6 | h6
 ·exact h6
 ·have h7:=Rat.mul_le_mul_of_nonneg_right h6 h4;rw [Rat.one_mul] at h7;have h8:=Rat.le_antisymm h5 h7;have h9:(g*P i)*(g*P i - 1)=0:=by grind
  rcases Rat.mul_eq_zero.1 h9 with h10 | h10
  ·rw [h10] at h6; exact absurd h6 (by decide)
  ·grind
def skip (i j:Nat):Nat:=if j < i then j else j+1
theorem skip_ne (i j:Nat):skip i j≠i:=by unfold skip; split <;> omega
theorem skip_lt {m i j:Nat} (h:j < m):skip i j < m+1:=by unfold skip; split <;> omega
theorem skip_onto {m i k:Nat} (hi:i < m+1) (hk:k < m+1) (hne:k≠i):∃ j,j < m∧skip i j=k:=by
 rcases Nat.lt_or_ge k i with h | h
 ·exact⟨k,by omega,by unfold skip; rw [if_pos h]⟩
 ·exact⟨k - 1,by omega,by unfold skip; rw [if_neg (by omega)]; omega⟩
theorem sum_skip {m i:Nat} (hi:i < m+1) (f:Nat→Rat):sum m (fun j=>f (skip i j))+f i=sum (m+1) f:=by
 induction m with
 | zero =>
  obtain rfl:i=0:=by omega
  simp only [sum]
 | succ m ih =>
  rcases Nat.lt_or_ge i (m+1) with h | h
  ·have h1:=ih h;rw [sum_succ (m+1) f,←h1,sum_succ];have e:skip i m=m+1:=by unfold skip; rw [if_neg (by omega)]
   rw [e]; grind
  ·obtain rfl:i=m+1:=by omega
   rw [sum_succ (m+1) f,sum_congr (g:=f) (fun j hj=>by unfold skip; rw [if_pos hj])]
variable {m n:Nat} {A M X M':Nat→Nat→Rat} {P:Nat→Rat} {p p':List Nat}
theorem falls_one (h:Model (m+1) n A M X P p) {i:Nat} (hi:i < m+1) (h':Rref m n (fun j c=>A (skip i j) c) M' p') (hlt:p'.length < p.length):hd A X P p i=1:=by
 obtain⟨y,⟨s0,hs0,hy0⟩,hy⟩:=steinitz (m:=m) (k:=p.length) (r:=p'.length) (V:=fun j s=>A (skip i j) (p[s]?.getD 0)) (U:=fun j t=>A (skip i j) (p'[t]?.getD 0)) (C:=fun t s=>M' t (p[s]?.getD 0))
  (fun s hs j hj=>cols_span h' hj (h.rr.low s hs)) hlt
 have hu:∀ k,av n A (spread p y) k=sum p.length (fun s=>A k (p[s]?.getD 0)*y s):=fun k=>av_spread h.rr y k
 have hz:∀ k,k < m+1→k≠i→av n A (spread p y) k=0:=by
  intro k hk hne;obtain⟨j,hj,rfl⟩:=skip_onto hi hk hne;rw [hu]; exact hy j hj
 have hnz:av n A (spread p y) i≠0:=by
  intro h0;refine hy0 (cols_free h.rr (y:=y) (fun k hk=>?_) s0 hs0);rw [←hu]
  by_cases hne:k=i
  ·rw [hne]; exact h0
  ·exact hz k hk hne
 have h1:=h.fix (spread p y) i hi;rw [sum_single hi (fun k hk hne=>by rw [hz k hk hne]; grind)] at h1;unfold hd
 generalize av n A (spread p y) i=u at *
 have h2:(gf A X p i i*P i - 1)*u=0:=by grind
 rcases Rat.mul_eq_zero.1 h2 with h3 | h3
 ·grind
 ·exact absurd h3 hnz
theorem one_falls (h:Model (m+1) n A M X P p) {i:Nat} (hi:i < m+1) (h':Rref m n (fun j c=>A (skip i j) c) M' p') (h1:hd A X P p i=1):p'.length < p.length:=by
 rcases Nat.lt_or_ge p'.length p.length with hlt | hge
 ·exact hlt
 ·exfalso
  have hgi:gf A X p i i≠0:=by
   intro h0; unfold hd at h1; rw [h0] at h1; exact absurd h1 (by simp)
  have hz:∀ k,k < m+1→k≠i→gf A X p i k=0:=by
   have h2:=h.sq i hi;rw [←sum_skip hi] at h2
   have h3:sum m (fun j=>P (skip i j)*(gf A X p i (skip i j)*gf A X p i (skip i j)))=0:=by
    have:P i*(gf A X p i i*gf A X p i i)=gf A X p i i:=by unfold hd at h1; grind
    grind
   have h4:=sum_pos_zero (fun j hj=>Rat.mul_nonneg (Rat.le_of_lt (h.pos _ (skip_lt hj))) (sq_nonneg _)) h3;intro k hk hne;obtain⟨j,hj,rfl⟩:=skip_onto hi hk hne;have h5:=h4 j hj;have h6:=h.pos _ (skip_lt (i:=i) hj)
   rcases Rat.mul_eq_zero.1 h5 with h7 | h7
   ·rw [h7] at h6; exact absurd h6 (by decide)
   ·exact sq_zero h7
  obtain⟨x,hx⟩:=h.col i
  obtain⟨y,⟨s0,hs0,hy0⟩,hy⟩:=steinitz (m:=m+1) (k:=p'.length+1) (r:=p.length) (V:=fun k s=>if s < p'.length then A k (p'[s]?.getD 0) else av n A x k) (U:=bas A p)
   (C:=fun t s=>if s < p'.length then M t (p'[s]?.getD 0) else sum n (fun c=>M t c*x c)) (by
    intro s hs k hk
    by_cases hsl:s < p'.length
    ·simp only [hsl,if_true]; exact cols_span h.rr hk (h'.low s hsl)
    ·simp only [hsl,if_false];unfold av
     have e:∀ c,c < n→A k c*x c=sum p.length (fun t=>bas A p k t*(M t c*x c)):=by
      intro c hc;rw [cols_span h.rr hk hc,←sum_mul_right];exact sum_congr fun t _=>by unfold bas; grind
     rw [sum_congr e,sum_comm]
     exact sum_congr fun t _=>sum_mul _ _ _) (by omega)
  have hsplit:∀ k,sum (p'.length+1) (fun s=>(if s < p'.length then A k (p'[s]?.getD 0) else av n A x k)*y s)=sum p'.length (fun s=>A k (p'[s]?.getD 0)*y s)+av n A x k*y p'.length:=by
   intro k;rw [sum_succ,sum_congr (g:=fun s=>A k (p'[s]?.getD 0)*y s) (fun s hs=>by rw [if_pos hs]),if_neg (Nat.lt_irrefl _)]
  have hys:∀ s,s < p'.length→y s=0:=by
   refine cols_free h' (fun j hj=>?_);have h2:=hy _ (skip_lt (i:=i) hj);rw [hsplit,←hx,h.symm,hz _ (skip_lt hj) (skip_ne i j)] at h2
   grind
  have hyl:y p'.length=0:=by
   have h2:=hy i hi;rw [hsplit,←hx,sum_eq_zero (fun s hs=>by rw [hys s hs]; grind)] at h2
   rcases Rat.mul_eq_zero.1 (show gf A X p i i*y p'.length=0 by grind) with h3 | h3
   ·exact absurd h3 hgi
   ·exact h3
  refine hy0 ?_
  rcases Nat.lt_or_ge s0 p'.length with h2 | h2
  ·exact hys s0 h2
  ·obtain rfl:s0=p'.length:=by omega
   exact hyl
end Go.Proofs.YtccepmpebioeiaaGreat
namespace Go.Proofs.YtccepmpebioeiaaGreat
open Go.RowKit
theorem r5_mul {N lo hi lo' hi':Nat} {w:World} {v v':Value} {m n p:Nat} {X Y:Nat→Nat→Rat} (h:MtV N lo hi w v m n X) (h':MtV N lo' hi' w v' n p Y) (hm:m < 1000000) (hn0:0 < n) (hn:n < 1000000) (hp0:0 < p) (hp:p < 1000000)
  {kx ky:Nat} (hkx:HtM m n kx X) (hky:HtM n p ky Y) (hK:n*(kx+ky+1)+1≤29000000000) :
  Calls Tryz.prog 72 #[v,v'] w (RetOwn N w m p (mm n X Y)):=by
 have hN:=h.le
 have HZ:Hid (∀ i,i < m→∀ j,j < p→∀ k,k < n→Sz (X i k)∧Sz (Y k j)∧Sz (X i k*Y k j)∧Sz (sum k (fun t=>X i t*Y t j))):=fun i hi j hj k hk=>by
  have h1:=Nat.le_mul_of_pos_left (kx+ky+1) (show 0 < n by omega);exact⟨(hkx i hi k hk).sz (by omega),(hky k hk j hj).sz (by omega),((hkx i hi k hk).mul (hky k hk j hj)).sz (by omega),(sum_ht (k:=kx+ky) (n:=n) (fun t ht=>(hkx i hi t ht).mul (hky t ht j hj)) (by omega) hK).sz (Nat.le_refl _)⟩
 obtain⟨A,c,rfl,hmc,hcm⟩:=h.form;obtain⟨A0,c0,rfl,hmc0,hcm0⟩:=h'.form;unfold maxLen at hcm hcm0;have hI:=h;have hI':=h';obtain⟨b',off',rfl,-,-,hx⟩:=h'.addr hn0;obtain⟨A1,c1,p0,hnc,hcm1,-⟩:=hx 0 hn0;rw [Nat.add_zero] at p0;unfold maxLen at hcm1;have P0:=Lib.hid p0;clear h h' hx hkx hky hK;go_enter Tryz.func72,Tryz.ntmps72;go_wp2_with (go_at_call 61; refine Hid.out ?_);refine (r5_zeros hN m p rfl rfl hm hp0 hp).mono ?_;rintro e w1 ⟨h,cap,β,κ,rfl,hcap,ho,hE⟩;have hs1:=hE.size;clear p0;go_wp2
 go_loopw [6] (fun i wr=>∃ k:Nat,k≤m∧i=.int .i64 k∧Ext w wr∧∃ B,OwnM N w.heap.size w1.heap.size wr h cap m p β κ B∧Hid (∀ i,i < k→∀ j,j < p→B i j=mm n X Y i j)) (fun i _=>m - (intOf i).toNat)
 case atStart=>exact⟨0,Nat.zero_le _,rfl,hE,_,ho,fun i hi=>by omega⟩
 case round =>
  clear hE ho;obtain⟨k,hk,rfl,hE,B,ho,HB⟩:=hrel
  by_cases hlt:k < m
  ·go_wp2
   go_loopw [7] (fun i ws=>∃ l:Nat,l≤p∧i=.int .i64 l∧Ext w ws∧∃ B,OwnM N w.heap.size w1.heap.size ws h cap m p β κ B∧Hid (∀ i,i < k→∀ j,j < p→B i j=mm n X Y i j)∧Hid (∀ j,j < l→B k j=mm n X Y k j)) (fun i _=>p - (intOf i).toNat)
   case atStart=>exact⟨0,Nat.zero_le _,rfl,hE,B,ho,HB,fun j hj=>by omega⟩
   case round =>
    clear hE ho HB B;obtain⟨l,hl,rfl,hE,B,ho,HB,HC⟩:=hrel;have p0:=hE.cell P0.out;have hsz:=ho.his
    by_cases hlt':l < p
    ·go_wp2_with (go_at_call 115; refine Hid.out ?_);refine (r5_whole (N:=N) (by omega) 0 (by omega) (by omega)).mono ?_;intro e w2 hh;obtain⟨n1,A3,k3,c3,A4,k4,c4,rfl,hb1,g1,g2,e1⟩:=hh.form;go_upto_region 9 with (fail);refine boxes1 ?_;intro w3 e3 hsz3 BS;have hB:BoxR N w3 w2.heap.size (sum 0 (fun t=>X k t*Y t l)):=BoxR.mk BS hb1 (g1.ext e3) (g2.ext e3);replace hE:=(hE.trans e1).trans e3;replace ho:=(ho.ext e1).ext e3;have hsz2:w1.heap.size≤w2.heap.size:=Nat.le_trans hsz e1.size;clear g1 g2 hb1 BS e1 e3 p0;go_wp2
     go_loopw [9] (fun i wt=>∃ t:Nat,t≤n∧i=.int .i64 t∧Ext w wt∧OwnM N w.heap.size w1.heap.size wt h cap m p β κ B∧w2.heap.size < wt.heap.size∧BoxR N wt w2.heap.size (sum t (fun t=>X k t*Y t l))) (fun i _=>n - (intOf i).toNat)
     case atStart=>exact⟨0,Nat.zero_le _,rfl,hE,ho,by omega,hB⟩
     case round =>
      clear hE ho hB hsz3;obtain⟨t,ht,rfl,hE,ho,hsz3,hB⟩:=hrel;obtain⟨b1,A1,k1,c1,A2,k2,c2,BS,hb1,g1,g2⟩:=hB;obtain⟨s0,s1,s2,s3,s4,s5,s6,s7⟩:=cells4 BS;have hv:=RatV.mk hb1 g1 g2
      by_cases hlt3:t < n
      ·obtain⟨b2,off2,rfl,-,-,hx⟩:=(hI.ext hE).addr (by omega);obtain⟨A3,c3,q0,-,-,hl2⟩:=hx k hlt;obtain⟨b3,off3,rfl,-,-,hx⟩:=hl2.addr (by omega);obtain⟨m1,A5,k5,c5,A6,k6,c6,p0,p1,p2,p3,hm1,x1,x2⟩:=(hx t hlt3).open;obtain⟨b4,off4,hA,-,-,hx⟩:=(hI'.ext hE).addr (by omega);obtain⟨rfl,rfl⟩:b'=b4∧off'=off4:=by injection hA with hA; injection hA with e1 e2; exact⟨e1,e2⟩
       obtain⟨A4,c4,r0,-,-,hl3⟩:=hx t hlt3;obtain⟨b5,off5,rfl,-,-,hx⟩:=hl3.addr (by omega);obtain⟨m2,A7,k7,c7,A8,k8,c8,o0,o1,o2,o3,hm2,y1,y2⟩:=(hx l hlt').open;clear hx hl2 hl3 hA;go_wp2;have eC:=(Ext.refl wr).drew;refine region_late (fun w'=>w'.cell? ⟨w2.heap.size,0,none⟩=some (.bool b1)∧w'.cell? ⟨w2.heap.size,1,none⟩=some (.slice A1 k1 c1)∧w'.cell? ⟨w2.heap.size,2,none⟩=some (.bool false)∧w'.cell? ⟨w2.heap.size,3,none⟩=some (.slice A2 k2 c2)∧w'.cell? ⟨b2,off2+k,none⟩=some (.slice (some ⟨b3,off3,none⟩) n c3)∧w'.cell? ⟨b3,off3+t*4,none⟩=some (.bool m1)∧w'.cell? ⟨b3,off3+t*4+1,none⟩=some (.slice A5 k5 c5)∧w'.cell? ⟨b3,off3+t*4+2,none⟩=some (.bool false)∧w'.cell? ⟨b3,off3+t*4+3,none⟩=some (.slice A6 k6 c6)∧w'.cell? ⟨b',off'+t,none⟩=some (.slice (some ⟨b5,off5,none⟩) p c4)∧w'.cell? ⟨b5,off5+l*4,none⟩=some (.bool m2)∧w'.cell? ⟨b5,off5+l*4+1,none⟩=some (.slice A7 k7 c7)∧w'.cell? ⟨b5,off5+l*4+2,none⟩=some (.bool false)∧w'.cell? ⟨b5,off5+l*4+3,none⟩=some (.slice A8 k8 c8)) [17] (by kernel_rfl) (by exact⟨eC.cell s0,eC.cell s1,eC.cell s2,eC.cell s3,eC.cell q0,eC.cell p0,eC.cell p1,eC.cell p2,eC.cell p3,eC.cell r0,eC.cell o0,eC.cell o1,eC.cell o2,eC.cell o3⟩) (fun hHeld=>?_);refine sT 0 (h:=?_);try simp only [nr]
       refine sP 1 (h:=?_);try simp only [nr]
       refine sP 2 (h:=?_);try simp only [nr]
       refine sP 3 (h:=?_);try simp only [nr]
       refine sT 4 (h:=?_);try simp only [nr]
       refine sP 5 (h:=?_);try simp only [nr]
       refine sP 6 (h:=?_);try simp only [nr]
       refine sT 7 (h:=?_);try simp only [nr]
       refine sP 8 (h:=?_);try simp only [nr]
       refine sP 9 (h:=?_);try simp only [nr]
       refine sP 10 (h:=?_);try simp only [nr]
       refine sT 11 (h:=?_);try simp only [nr]
       refine sP 12 (h:=?_);try simp only [nr]
       refine sP 13 (h:=?_);try simp only [nr]
       refine sT 14 (h:=?_);try simp only [nr]
       refine stepL_only (i:=15) rfl (by kernel_rfl) (fun K hK=>?_);go_simp;refine (r2_mul (x:=X k t) (y:=Y t l) (by exact (RatV.mk hm1 x1 x2).ext eC) (by exact (RatV.mk hm2 y1 y2).ext eC) (HZ.out k hlt l hlt' t hlt3).1 (HZ.out k hlt l hlt' t hlt3).2.1).mono ?_;rintro e w4 ⟨v4,rfl,h4,e4⟩;replace eC:=eC.trans e4;go_wp2_with fail;clear hHeld;refine hK.out _ _ (by exact⟨eC.cell s0,eC.cell s1,eC.cell s2,eC.cell s3,eC.cell q0,eC.cell p0,eC.cell p1,eC.cell p2,eC.cell p3,eC.cell r0,eC.cell o0,eC.cell o1,eC.cell o2,eC.cell o3⟩) fun hHeld=>?_
       clear hK K;try simp only [nr]
       refine stepL_only (i:=16) rfl (by kernel_rfl) (fun K hK=>?_);go_simp;refine (r2_add (x:=sum t (fun t=>X k t*Y t l)) (y:=X k t*Y t l) (by exact hv.ext eC) (by exact h4) (HZ.out k hlt l hlt' t hlt3).2.2.2 (HZ.out k hlt l hlt' t hlt3).2.2.1).mono ?_;intro e w5 hh;obtain⟨b9,A9,k9,c9,A10,k10,c10,rfl,hb9,g9,g10,e5⟩:=hh.form;replace eC:=eC.trans e5;have D0:=eC.block BS;obtain⟨t0,t1,t2,t3,t4,t5,t6,t7⟩:=cells4 D0;go_wp2_with fail;clear hHeld;refine hK.out _ _ (by exact⟨eC.cell s0,eC.cell s1,eC.cell s2,eC.cell s3,eC.cell q0,eC.cell p0,eC.cell p1,eC.cell p2,eC.cell p3,eC.cell r0,eC.cell o0,eC.cell o1,eC.cell o2,eC.cell o3⟩) fun hHeld=>?_
       clear hK K;try simp only [nr]
       refine stepL_late (i:=17) rfl (by kernel_rfl) (by kernel_rfl) (fun K hK=>?_);go_simp;refine hK.out _ _ ?_;clear hK K;try simp only [nr]
       refine stepL_done (by kernel_rfl) ?_ _;clear hHeld;obtain⟨w6,E6,hB6,K6,hs6⟩:=boxSet D0 (by omega) (q:=sum (t+1) (fun t=>X k t*Y t l)) hb9 g9 g10;rw [E6];clear E6;have ho6:=(ho.ext eC).chg K6 (by omega) (.inl (by omega));replace hE:=K6.ext (hE.trans eC) (by omega);go_wp2;go_roundw
       case rel=>exact⟨t+1,by omega,by go_num,hE,ho6,by have:=eC.size; omega,hB6⟩
       case measure=>simp [intOf]; omega
      ·obtain rfl:t=n:=by omega
       have r0:=ho.hcell hlt;obtain⟨zb,zA,zn,zc,zA2,zn2,zc2,t0,t1,t2,t3,t4,t5,t6,t7,-⟩:=(ho.row k hlt).at_ hlt';go_wp2;have eC:=(Ext.refl wr).drew;refine region_late (fun w'=>w'.cell? ⟨h,k,none⟩=some (.slice (some ⟨β k,0,none⟩) p (κ k))∧w'.cell? ⟨w2.heap.size,0,none⟩=some (.bool b1)∧w'.cell? ⟨w2.heap.size,1,none⟩=some (.slice A1 k1 c1)∧w'.cell? ⟨w2.heap.size,2,none⟩=some (.bool false)∧w'.cell? ⟨w2.heap.size,3,none⟩=some (.slice A2 k2 c2)) [7] (by kernel_rfl) (by exact⟨eC.cell r0,eC.cell s0,eC.cell s1,eC.cell s2,eC.cell s3⟩) (fun hHeld=>?_);refine sP 0 (h:=?_);try simp only [nr]
       refine sP 1 (h:=?_);try simp only [nr]
       refine sP 2 (h:=?_);try simp only [nr]
       refine sT 3 (h:=?_);try simp only [nr]
       refine sP 4 (h:=?_);try simp only [nr]
       refine sT 5 (h:=?_);try simp only [nr]
       refine sP 6 (h:=?_);try simp only [nr]
       refine stepL_late (i:=7) rfl (by kernel_rfl) (by kernel_rfl) (fun K hK=>?_);go_simp;refine hK.out _ _ ?_;clear hK K;try simp only [nr]
       refine stepL_done (by kernel_rfl) ?_ _;clear hHeld;obtain⟨w6,E6,C6,hs6,hr6⟩:=(ho.row k hlt).set (i:=l) (q:=mm t X Y k l) (by have:=(ho.row k hlt).2.1; omega) (by omega) hb1 g1 g2;rw [E6];clear E6;have ho6:=ho.setRow hlt C6 (hr6.less (n':=p) (by omega));replace hE:=C6.ext hE (ho.lo_ k hlt);go_wp2;go_roundw
       case rel=>exact⟨l+1,by omega,by go_num,hE.drew,_,ho6.ext (Ext.refl _).drew,fun i hi j hj=>(by rw [updM_ne _ _ (by omega)]; exact HB.out i hi j hj),all_succ (fun j hj=>(by rw [updM_same,upd_ne _ _ (by omega)]; exact HC.out j hj)) (by rw [updM_same,upd_same])⟩
       case measure=>simp [intOf]; omega
    ·obtain rfl:l=p:=by omega
     go_wp2;go_roundw
     case rel=>exact⟨k+1,by omega,by go_num,hE,B,ho,all_succ HB.out HC.out⟩
     case measure=>simp [intOf]; omega
  ·obtain rfl:k=m:=by omega
   go_wp2;go_ret;exact⟨h,cap,β,κ,rfl,hcap,(ho.congr (fun i hi j hj=>HB.out i hi j hj)).wide (Nat.le_refl _) hN ho.his (Nat.le_refl _),hE⟩
end Go.Proofs.YtccepmpebioeiaaGreat
namespace Go.Proofs.YtccepmpebioeiaaGreat
theorem seek_none {M:Nat→Nat→Rat} {m j r:Nat} (hr:r≤m) (h:∀ i,r≤i→i < m→M i j=0):seek M m j (m - r) r=m:=by
 have s:=seek_spec M m j (m - r) r (Nat.le_refl _) hr
 rcases Nat.lt_or_ge (seek M m j (m - r) r) m with h1 | h1
 ·exact absurd (h _ s.1 h1) (s.2.2.2 h1)
 ·omega
theorem seek_some {M:Nat→Nat→Rat} {m j r a:Nat} (hr:r≤a) (ha:a < m) (h:∀ i,r≤i→i < a→M i j=0) (hn:M a j≠0):seek M m j (m - r) r=a:=by
 have s:=seek_spec M m j (m - r) r (Nat.le_refl _) (by omega)
 rcases Nat.lt_trichotomy (seek M m j (m - r) r) a with h1 | h1 | h1
 ·exact absurd (h _ s.1 h1) (s.2.2.2 (by omega))
 ·exact h1
 ·exact absurd (s.2.2.1 a hr h1) hn
theorem rref_skip {m j:Nat} {X:Nat→Nat→Rat} (h:seek (rref m X j).1 m j (m - (rref m X j).2.length) (rref m X j).2.length=m):rref m X (j+1)=rref m X j:=by
 show rstep m (rref m X j) j=_
 unfold rstep;simp only [h,Nat.lt_irrefl,if_false]
theorem rref_step {m j a:Nat} {X:Nat→Nat→Rat} (ha:a < m) (h:seek (rref m X j).1 m j (m - (rref m X j).2.length) (rref m X j).2.length=a) :
  rref m X (j+1)=(clr (nrm (swp (rref m X j).1 (rref m X j).2.length a) (rref m X j).2.length j) (rref m X j).2.length j,(rref m X j).2 ++ [j]):=by
 show rstep m (rref m X j) j=_
 unfold rstep;simp only [h,ha,if_true]
def clrTo (M:Nat→Nat→Rat) (r j i:Nat) (i' c:Nat):Rat:=if i' < i then clr M r j i' c else M i' c
theorem sub_zero_mul (a b:Rat):a=a - 0*b:=by grind
end Go.Proofs.YtccepmpebioeiaaGreat
namespace Go.Proofs.YtccepmpebioeiaaGreat
open Go.RowKit
theorem r5_apply {N lo hi lo' hi':Nat} {w:World} {v v':Value} {m n:Nat} {X:Nat→Nat→Rat} {x:Nat→Rat} (h:MtV N lo hi w v m n X) (h':LsV N lo' hi' w v' n x) (hm:m < 1000000) (hn0:0 < n) (hn:n < 1000000)
  {kx ky:Nat} (hkx:HtM m n kx X) (hky:HtL n ky x) (hK:n*(kx+ky+1)+1≤29000000000) :
  Calls Tryz.prog 26 #[v,v'] w (RetL N w m (fun i=>sum n (fun c=>X i c*x c))):=by
 have hI:=h;have hI':=h';obtain⟨A,c,rfl,hmc,hcm⟩:=h.form;obtain⟨A0,c0,rfl,hmc0,hcm0⟩:=h'.form;have HX:=Lib.hid hkx;have HY:=Lib.hid hky;have HK:=Lib.hid hK;clear h h' hkx hky hK hcm hcm0;go_enter Tryz.func26,Tryz.ntmps26;go_wp2_with (go_at_call 75; refine Hid.out ?_);refine (r5_column hI' hn).mono ?_;intro e w1 hh;obtain⟨A2,c2,rfl,h2,e2⟩:=hh.mt;go_wp2_with (go_at_call 72; refine Hid.out ?_);refine (r5_mul (hI.ext e2) h2 hm hn0 hn (by omega) (by omega) HX.out (fun i hi j _=>HY.out i hi) HK.out).mono ?_;intro e w3 hh;obtain⟨A3,c3,rfl,h3,e3⟩:=hh.mt;go_wp2_with (go_at_call 74; refine Hid.out ?_);refine (r5_first h3 hm (by omega)).mono ?_;rintro e w4 ⟨A4,c4,rfl,h4,e4⟩;go_wp2;go_ret;have hs2:=e2.size;have hs3:=e3.size;exact⟨A4,c4,rfl,LsR.wide h4 (by omega) (Nat.le_refl _) (Nat.le_refl _),(e2.trans e3).trans e4⟩
def solTo (n:Nat) (M:Nat→Nat→Rat) (p:List Nat) (k c:Nat):Rat:=sum k (fun s=>dlt (p[s]?.getD 0) c*M s n)
theorem solTo_succ {n:Nat} {M:Nat→Nat→Rat} {p:List Nat} {k:Nat} (hp:∀ s,s < k→p[s]?.getD 0≠p[k]?.getD 0) (c:Nat):solTo n M p (k+1) c=upd (solTo n M p k) (p[k]?.getD 0) (M k n) c:=by
 unfold solTo upd;rw [sum_succ]
 by_cases h:c=p[k]?.getD 0
 ·rw [if_pos h,h,dlt_same,sum_eq_zero (fun s hs=>by rw [dlt_ne (hp s hs)]; grind)]; grind
 ·rw [if_neg h,dlt_ne (fun e=>h e.symm)]; grind
theorem l34_add {N:Nat} {w:World} {v v':Value} {x y:Rat} (h:RatV N w v x) (h':RatV N w v' y) (hz:Sz x) (hz':Sz y) :
  Calls Tryz.prog 46 #[v,v'] w (RetR N w (x+y)):=by
 obtain⟨q,hq⟩:=hid_eq (x+y);rw [←hq.out];have hN:=h.le;have hI:=h;have hI':=h';have HZ:=Lib.hid hz;have HZ':=Lib.hid hz';obtain⟨m1,X1,i1,d1,X2,i2,d2,rfl,hm1,gx1,gx2⟩:=h.parts;obtain⟨m2,Y1,i3,d3,Y2,i4,d4,rfl,hm2,gy1,gy2⟩:=h'.parts;clear hz hz' h h' gx1 gx2 gy1 gy2;go_enter Tryz.func46,Tryz.ntmps46;go_wp2_with (go_at_call 99; refine Hid.out ?_);refine boxesC3 ?_;intro W hE hsz B0 B1 B2;refine (r2_add (hI.ext hE) (hI'.ext hE) HZ.out HZ'.out).mono ?_;rw [←hq.out];intro e w1 hh;obtain⟨n3,A3,k3,c3,A4,k4,c4,rfl,hb3,g3,g4,e1⟩:=hh.form;replace hE:=hE.trans e1;replace B2:=e1.block B2;obtain⟨t0,t1,t2,t3,t4,t5,t6,t7⟩:=cells4 B2;go_wp2;exact fin_rat rfl rfl rfl hE B2 (by omega) hN g3 g4 hb3
theorem l34_mul {N:Nat} {w:World} {v v':Value} {x y:Rat} (h:RatV N w v x) (h':RatV N w v' y) (hz:Sz x) (hz':Sz y) :
  Calls Tryz.prog 48 #[v,v'] w (RetR N w (x*y)):=by
 obtain⟨q,hq⟩:=hid_eq (x*y);rw [←hq.out];have hN:=h.le;have hI:=h;have hI':=h';have HZ:=Lib.hid hz;have HZ':=Lib.hid hz';obtain⟨m1,X1,i1,d1,X2,i2,d2,rfl,hm1,gx1,gx2⟩:=h.parts;obtain⟨m2,Y1,i3,d3,Y2,i4,d4,rfl,hm2,gy1,gy2⟩:=h'.parts;clear hz hz' h h' gx1 gx2 gy1 gy2;go_enter Tryz.func48,Tryz.ntmps48;go_wp2_with (go_at_call 102; refine Hid.out ?_);refine boxesC3 ?_;intro W hE hsz B0 B1 B2;refine (r2_mul (hI.ext hE) (hI'.ext hE) HZ.out HZ'.out).mono ?_;rw [←hq.out];intro e w1 hh;obtain⟨n3,A3,k3,c3,A4,k4,c4,rfl,hb3,g3,g4,e1⟩:=hh.form;replace hE:=hE.trans e1;replace B2:=e1.block B2;obtain⟨t0,t1,t2,t3,t4,t5,t6,t7⟩:=cells4 B2;go_wp2;exact fin_rat rfl rfl rfl hE B2 (by omega) hN g3 g4 hb3
theorem l34_sub {N:Nat} {w:World} {v v':Value} {x y:Rat} (h:RatV N w v x) (h':RatV N w v' y) (hz:Sz x) (hz':Sz y) :
  Calls Tryz.prog 51 #[v,v'] w (RetR N w (x - y)):=by
 obtain⟨q,hq⟩:=hid_eq (x - y);rw [←hq.out];have hN:=h.le;have hI:=h;have hI':=h';have HZ:=Lib.hid hz;have HZ':=Lib.hid hz';obtain⟨m1,X1,i1,d1,X2,i2,d2,rfl,hm1,gx1,gx2⟩:=h.parts;obtain⟨m2,Y1,i3,d3,Y2,i4,d4,rfl,hm2,gy1,gy2⟩:=h'.parts;clear hz hz' h h' gx1 gx2 gy1 gy2;go_enter Tryz.func51,Tryz.ntmps51;go_wp2_with (go_at_call 63; refine Hid.out ?_);refine boxesC3 ?_;intro W hE hsz B0 B1 B2;refine (r2_sub (hI.ext hE) (hI'.ext hE) HZ.out HZ'.out).mono ?_;rw [←hq.out];intro e w1 hh;obtain⟨n3,A3,k3,c3,A4,k4,c4,rfl,hb3,g3,g4,e1⟩:=hh.form;replace hE:=hE.trans e1;replace B2:=e1.block B2;obtain⟨t0,t1,t2,t3,t4,t5,t6,t7⟩:=cells4 B2;go_wp2;exact fin_rat rfl rfl rfl hE B2 (by omega) hN g3 g4 hb3
set_option maxRecDepth 100000 in
theorem l34_residuals {N lo hi lo' hi':Nat} {w:World} {v1 v2 v3 v4:Value} {m n:Nat} {X:Nat→Nat→Rat} {y p x:Nat→Rat} (h1:MtV N lo hi w v1 m n X) (h2:LsV N lo hi w v2 m y) (h3:LsV N lo hi w v3 m p) (h4:LsV N lo' hi' w v4 n x) (hm:m < 1000000) (hn0:0 < n) (hn:n < 1000000)
  {k kx:Nat} (hkX:HtM m n k X) (hky:HtL m k y) (hkx:HtL n kx x) (hK:n*(k+kx+1)+1+k≤29000000000) :
  Calls Tryz.prog 35 #[.agg #[v1,v2,v3],v4] w (RetL N w m (fun i=>av n X x i - y i)):=by
 have HX:=Lib.hid hkX;have HXX:=Lib.hid hkx;have HK:Hid (n*(k+kx+1)+1≤29000000000):=by rw [Hid]; omega
 have HSS:Hid (∀ i,i < m→Sz (av n X x i)∧Sz (y i)):=fun i hi =>
  ⟨(sum_ht (n:=n) (k:=k+kx) (K:=n*(k+kx+1)+1) (fun c hc=>(hkX i hi c hc).mul (hkx c hc)) (Nat.le_refl _) (Nat.le_refl _)).sz (by omega),(hky i hi).sz (by omega)⟩
 obtain⟨Rf,hRf⟩:=hid_eq (RetL N w m (fun i=>av n X x i - y i));rw [←hRf.out];have hN:=h1.le;obtain⟨A1,c1,rfl,hmc,hcm⟩:=h1.form;obtain⟨A2,c2,rfl,hmc2,hcm2⟩:=h2.form;obtain⟨A3,c3,rfl,hmc3,hcm3⟩:=h3.form;obtain⟨A4,c4,rfl,hmc4,hcm4⟩:=h4.form;have hI1:=h1;have hI2:=h2;have hI4:=h4;clear h1 h2 h3 h4 hkX hky hkx hK;go_enter Tryz.func35,Tryz.ntmps35;go_wp2_with (go_at_call 26; refine Hid.out ?_);refine boxesC1 ?_;intro W hE hsz B0;refine (r5_apply (hI1.ext hE) (hI4.ext hE) hm hn0 hn HX.out HXX.out HK.out).mono ?_;rintro e w1 ⟨A5,c5,rfl,h5,e1⟩;replace h5:LsV N _ _ w1 (.slice A5 m c5) m (av n X x):=h5;have hE1:=hE.trans e1;have B01:=e1.block B0;have hs0:=hE.size;go_wp2
 go_loopw [5,13] (fun v i wr=>∃ k:Nat,k≤m∧i=.int .i64 k∧Ext w1 wr∧∃ A c,v=.slice A k c∧Grow N w1.heap.size wr (.slice A k c) k (fun i=>av n X x i - y i)) (fun _ i _=>m - (intOf i).toNat)
 case atStart=>exact⟨0,Nat.zero_le _,rfl,Ext.refl w1,_,_,rfl,Grow.nil (by have:=hE1.size; omega) (Nat.le_refl _) _⟩
 case round =>
  obtain⟨i,hi',rfl,hEr,A6,c6,rfl,hG⟩:=hrel;have hsr:=hEr.size
  by_cases hlt:i < m
  ·obtain⟨b,off,rfl,-,-,hx⟩:=(h5.ext hEr).addr (by omega);obtain⟨n1,A7,k7,c7,A8,k8,c8,p0,p1,p2,p3,hb1,g1,g2⟩:=(hx i hlt).open;obtain⟨b2,off2,rfl,-,-,hx2⟩:=(hI2.ext (hE1.trans hEr)).addr (by omega);obtain⟨n2,A9,k9,c9,A10,k10,c10,q0,q1,q2,q3,hb2,g3,g4⟩:=(hx2 i hlt).open;clear hx hx2;go_upto_region 5 with (fail);refine boxes1 ?_;intro w5 e5 hsz5 B5;obtain⟨t0,t1,t2,t3,-⟩:=cells4 B5;obtain⟨a0,a1,a2,-⟩:=cells3 (e5.block (hEr.block B01));replace q0:=e5.cell q0;replace q1:=e5.cell q1;replace q2:=e5.cell q2;replace q3:=e5.cell q3;replace g1:=g1.ext e5;replace g2:=g2.ext e5;replace g3:=g3.ext e5;replace g4:=g4.ext e5;replace hG:=hG.ext e5;have hEw:=hEr.trans e5;obtain⟨gz,hgz⟩:∃ gz,gz=wr.heap.size:=⟨_,rfl⟩
   rw [←hgz] at t0 t1 t2 t3 hsz5 ⊢;have hgz2:w1.heap.size≤gz:=by omega
   clear p0 p1 p2 p3 B5 e5 a0 a2 hgz;have eC:=(Ext.refl w5).drew;refine region_late (fun w'=>w'.cell? ⟨gz,0,none⟩=some (.bool n1)∧w'.cell? ⟨gz,1,none⟩=some (.slice A7 k7 c7)∧w'.cell? ⟨gz,2,none⟩=some (.bool false)∧w'.cell? ⟨gz,3,none⟩=some (.slice A8 k8 c8)∧w'.cell? ⟨w.heap.size,1,none⟩=some (.slice (some ⟨b2,off2,none⟩) m c2)∧w'.cell? ⟨b2,off2+i*4,none⟩=some (.bool n2)∧w'.cell? ⟨b2,off2+i*4+1,none⟩=some (.slice A9 k9 c9)∧w'.cell? ⟨b2,off2+i*4+2,none⟩=some (.bool false)∧w'.cell? ⟨b2,off2+i*4+3,none⟩=some (.slice A10 k10 c10)) [9] (by kernel_rfl) (by exact⟨eC.cell t0,eC.cell t1,eC.cell t2,eC.cell t3,eC.cell a1,eC.cell q0,eC.cell q1,eC.cell q2,eC.cell q3⟩) (fun hHeld=>?_);refine sP 0 (h:=?_);try simp only [nr]
   refine sT 1 (h:=?_);try simp only [nr]
   refine sP 2 (h:=?_);try simp only [nr]
   refine sT 3 (h:=?_);try simp only [nr]
   refine sP 4 (h:=?_);try simp only [nr]
   refine sP 5 (h:=?_);try simp only [nr]
   refine sT 6 (h:=?_);try simp only [nr]
   refine stepL_only (i:=7) rfl (by kernel_rfl) (fun K hK=>?_);go_simp;refine (l34_sub (x:=av n X x i) (y:=y i) (by exact (RatV.mk hb1 g1 g2).ext eC) (by exact (RatV.mk hb2 g3 g4).ext eC) (HSS.out i hlt).1 (HSS.out i hlt).2).mono ?_;intro e w6 hh;obtain⟨b3,A11,k11,c11,A12,k12,c12,rfl,hb3,g5,g6,e6⟩:=hh.form;replace eC:=eC.trans e6;go_wp2_with fail;clear hHeld;refine hK.out _ _ (by exact⟨eC.cell t0,eC.cell t1,eC.cell t2,eC.cell t3,eC.cell a1,eC.cell q0,eC.cell q1,eC.cell q2,eC.cell q3⟩) fun hHeld=>?_
   clear hK K;try simp only [nr]
   refine stepL_only (i:=8) rfl (by kernel_rfl) (fun K hK=>?_);go_simp
   first | refine boxes1 ?_ | refine boxesD1 ?_
   intro w7 e7 hsz7 BX;replace eC:=eC.trans e7;replace g5:=g5.ext e7;replace g6:=g6.ext e7;have hG7:=hG.ext eC;have hE7:=hEw.trans eC;clear hHeld;refine hK.out _ _ (by exact⟨eC.cell t0,eC.cell t1,eC.cell t2,eC.cell t3,eC.cell a1,eC.cell q0,eC.cell q1,eC.cell q2,eC.cell q3⟩) fun hHeld=>?_
   clear hK K;try simp only [nr]
   refine stepL_late (i:=9) rfl (by kernel_rfl) (by kernel_rfl) (fun K hK=>?_);refine step_append_rat rfl _ _ 24 Tryz.underlying24 rfl (by rfl) hG7 (by rfl) BX hb3 g5 g6 (by omega) ?_;rintro g cap' w8 hG8 ⟨g',hg',c13,-⟩ -;replace hE7:=c13.ext hE7 hg';replace hG8:=hG8.congr (y:=fun i=>av n X x i - y i) (fun j _=>by unfold upd; split <;> simp_all);refine hK.out _ _ ?_;clear hK K;try simp only [nr]
   refine sP 10 (h:=?_);try simp only [nr]
   refine stepL_done (by kernel_rfl) ?_ _;clear hHeld;clear t0 t1 t2 t3 q0 q1 q2 q3 a1 g1 g2 g3 g4 g5 g6 hb1 hb2 hb3 BX hG hG7 c13;go_wp2;go_roundw
   case rel=>exact⟨i+1,by omega,by go_num,hE7,_,_,rfl,hG8⟩
   case measure=>simp [intOf]; omega
  ·obtain rfl:m=i:=by omega
   go_wp2
   first | go_ret | skip
   rw [hRf.out];exact⟨A6,c6,rfl,hG.lsv hE1.size rfl,hE1.trans hEr⟩
set_option maxRecDepth 100000 in
theorem l34_objective {N lo hi lo' hi':Nat} {w:World} {v1 v2 v3 v4:Value} {m n:Nat} {X:Nat→Nat→Rat} {y p x:Nat→Rat} (h1:MtV N lo hi w v1 m n X) (h2:LsV N lo hi w v2 m y) (h3:LsV N lo hi w v3 m p) (h4:LsV N lo' hi' w v4 n x) (hm0:0 < m) (hm:m < 1000000) (hn0:0 < n) (hn:n < 1000000)
  {k kx kv:Nat} (hkX:HtM m n k X) (hky:HtL m k y) (hkp:HtL m k p) (hkx:HtL n kx x) (hkv0:kv=n*(k+kx+1)+1+k+1) (hK:m*(k+(kv+kv)+1)+1≤29000000000) :
  Calls Tryz.prog 21 #[.agg #[v1,v2,v3],v4] w (RetR N w (obj m p (fun i=>av n X x i - y i))):=by
 have hkv:HtL m kv (fun i=>av n X x i - y i):=fun i hi=>by
  rw [hkv0];exact (sum_ht (n:=n) (k:=k+kx) (K:=n*(k+kx+1)+1) (fun c hc=>(hkX i hi c hc).mul (hkx c hc)) (Nat.le_refl _) (Nat.le_refl _)).sub (hky i hi)
 have h98:=Nat.le_mul_of_pos_left (k+(kv+kv)+1) hm0
 have HRS:Hid (∀ w1 v1 v2 v3 v4 lo hi lo' hi',MtV N lo hi w1 v1 m n X→LsV N lo hi w1 v2 m y→LsV N lo hi w1 v3 m p→LsV N lo' hi' w1 v4 n x→Calls Tryz.prog 35 #[.agg #[v1,v2,v3],v4] w1 (RetL N w1 m (fun i=>av n X x i - y i))) :=
  fun w1 v1 v2 v3 v4 lo hi lo' hi' g1 g2 g3 g4=>l34_residuals g1 g2 g3 g4 hm hn0 hn hkX hky hkx (by omega)
 clear h98 hkX hky hkx hkv0;obtain⟨vv,hvv⟩:=hid_eq (fun i=>av n X x i - y i);rw [←hvv.out] at hkv HRS ⊢;have h9:=Nat.le_mul_of_pos_left (k+(kv+kv)+1) hm0
 have HSS:Hid (∀ i,i < m→Sz (vv i)∧Sz (p i)∧Sz (vv i*vv i)∧Sz (p i*(vv i*vv i))):=fun i hi =>
  ⟨(hkv i hi).sz (by omega),(hkp i hi).sz (by omega),((hkv i hi).mul (hkv i hi)).sz (by omega),((hkp i hi).mul ((hkv i hi).mul (hkv i hi))).sz (by omega)⟩
 have HSU:Hid (∀ i,i≤m→Sz (sum i (fun i=>p i*(vv i*vv i)))):=fun i hi=>(sum_ht (n:=m) (k:=k+(kv+kv)) (K:=29000000000) (fun t ht=>(hkp t ht).mul ((hkv t ht).mul (hkv t ht))) hi hK).sz (Nat.le_refl _)
 obtain⟨S,hS⟩:=hid_eq (obj m p vv);rw [←hS.out];have hN:=h1.le;obtain⟨A1,c1,rfl,hmc,hcm⟩:=h1.form;obtain⟨A2,c2,rfl,hmc2,hcm2⟩:=h2.form;obtain⟨A3,c3,rfl,hmc3,hcm3⟩:=h3.form;obtain⟨A4,c4,rfl,hmc4,hcm4⟩:=h4.form;have hI1:=h1;have hI2:=h2;have hI3:=h3;have hI4':=h4;clear h1 h2 h3 h4 hkp hkv hK h9;go_enter Tryz.func21,Tryz.ntmps21;go_wp2_with (go_at_call 56; refine Hid.out ?_);refine boxesC2 ?_;intro W hE hsz B0 B1;refine (r2_Whole (N:=N) (by have:=hE.size; omega) 0 (by omega) (by omega)).mono ?_;intro e w2 hh;obtain⟨b3,A9,k9,c9,A10,k10,c10,rfl,hb3,g3,g4,e2⟩:=hh.form;replace hE:=hE.trans e2;replace B0:=e2.block B0;replace B1:=e2.block B1;have hb1':w.heap.size+1 < w2.heap.size:=blk_lt B1;clear e2;go_upto_region 2 with (fail);refine boxes1 ?_;intro w3 e3 hsz3 B3;have HS0:Hid (((0:Int):Rat)=sum 0 (fun i=>p i*(vv i*vv i))):=rfl;rw [HS0.out] at hb3 g3 g4;have hBx:BoxR N w3 w2.heap.size (sum 0 (fun i=>p i*(vv i*vv i))):=BoxR.mk B3 hb3 (g3.ext e3) (g4.ext e3);clear B3 g3 g4 hb3;obtain⟨a0,a1,a2,-⟩:=cells3 (e3.block B0);go_wp2_with (go_at_call 35; refine Hid.out ?_);refine (HRS.out _ _ _ _ _ _ _ _ _ (hI1.ext (hE.trans e3)) (hI2.ext (hE.trans e3)) (hI3.ext (hE.trans e3)) (hI4'.ext (hE.trans e3))).mono ?_;rintro e w4 ⟨A4',c4',rfl,hI4,e4⟩;replace hBx:=hBx.ext e4;have e34:=e3.trans e4;have hs23:w2.heap.size+1≤w3.heap.size:=hsz3;have hs34:=e34.size;have hs33:=e4.size;clear a0 a1 a2 e3 HRS
 go_wp2
 go_loopw [13] (fun i wr=>∃ a:Nat,a≤m∧i=.int .i64 a∧Chg w2.heap.size (w2.heap.size+1) w4 wr∧w2.heap.size < wr.heap.size∧BoxR N wr w2.heap.size (sum a (fun i=>p i*(vv i*vv i)))) (fun i _=>m - (intOf i).toNat)
 case atStart=>exact⟨0,Nat.zero_le _,rfl,Chg.refl _ _ _,by omega,hBx⟩
 case round =>
  clear hBx hsz3;obtain⟨a,ha,rfl,hCg,hsz3,hBx⟩:=hrel;have e3:=hCg.ext e34 (Nat.le_refl _);have hI4r:=hI4.chg hCg (by have:=hE.size; omega) (.inr hs23);have B1r:=e3.block B1
  by_cases hlt:a < m
  ·obtain⟨b,off,rfl,-,-,hx⟩:=hI4r.addr (by omega);obtain⟨n1,A6,k6,c6,A12,k12,c12,p0,p1,p2,p3,hb1,g1,g2⟩:=(hx a hlt).open;obtain⟨b5,off5,rfl,-,-,hx5⟩:=(hI3.ext (hE.trans e3)).addr (by omega);obtain⟨n5,A13,k13,c13,A14,k14,c14,q0,q1,q2,q3,hb5,g5,g6⟩:=(hx5 a hlt).open;clear hx hx5;go_upto_region 5 with (fail);refine boxes1 ?_;intro w5 e5 hsz5 B5;obtain⟨b3,A9,k9,c9,A10,k10,c10,BS,hb3,g3,g4⟩:=hBx.ext e5;obtain⟨s0,s1,s2,s3,-⟩:=cells4 BS;obtain⟨t0,t1,t2,t3,-⟩:=cells4 B5;obtain⟨a0,a1,a2,-⟩:=cells3 (e5.block (e3.block B0));replace q0:=e5.cell q0;replace q1:=e5.cell q1;replace q2:=e5.cell q2;replace q3:=e5.cell q3;replace g1:=g1.ext e5;replace g2:=g2.ext e5;replace g5:=g5.ext e5;replace g6:=g6.ext e5;have e35:=e3.trans e5;have hC5:=hCg.trans (e5.chg _ _);obtain⟨hS1,hS2,hS3,hS4⟩:=HSS.out a hlt;have HS1:=Lib.hid hS1;have HS2:=Lib.hid hS2;have HS3:=Lib.hid hS3;have HS4:=Lib.hid hS4;have HS5:=Lib.hid (HSU.out a ha);obtain⟨gz,hgz⟩:∃ gz,gz=wr.heap.size:=⟨_,rfl⟩
   rw [←hgz] at t0 t1 t2 t3 hsz5 hsz3 ⊢;clear p0 p1 p2 p3 B5 hBx e5 hS1 hS2 hS3 hS4 a0 a1 hgz B1r e3;have eC:=(Ext.refl w5).drew;refine region_late (fun w'=>w'.cell? ⟨w2.heap.size,0,none⟩=some (.bool b3)∧w'.cell? ⟨w2.heap.size,1,none⟩=some (.slice A9 k9 c9)∧w'.cell? ⟨w2.heap.size,2,none⟩=some (.bool false)∧w'.cell? ⟨w2.heap.size,3,none⟩=some (.slice A10 k10 c10)∧w'.cell? ⟨gz,0,none⟩=some (.bool n1)∧w'.cell? ⟨gz,1,none⟩=some (.slice A6 k6 c6)∧w'.cell? ⟨gz,2,none⟩=some (.bool false)∧w'.cell? ⟨gz,3,none⟩=some (.slice A12 k12 c12)∧w'.cell? ⟨w.heap.size,2,none⟩=some (.slice (some ⟨b5,off5,none⟩) m c3)∧w'.cell? ⟨b5,off5+a*4,none⟩=some (.bool n5)∧w'.cell? ⟨b5,off5+a*4+1,none⟩=some (.slice A13 k13 c13)∧w'.cell? ⟨b5,off5+a*4+2,none⟩=some (.bool false)∧w'.cell? ⟨b5,off5+a*4+3,none⟩=some (.slice A14 k14 c14)) [11] (by kernel_rfl) (by exact⟨eC.cell s0,eC.cell s1,eC.cell s2,eC.cell s3,eC.cell t0,eC.cell t1,eC.cell t2,eC.cell t3,eC.cell a2,eC.cell q0,eC.cell q1,eC.cell q2,eC.cell q3⟩) (fun hHeld=>?_);refine sT 0 (h:=?_);try simp only [nr]
   refine sP 1 (h:=?_);try simp only [nr]
   refine sT 2 (h:=?_);try simp only [nr]
   refine sP 3 (h:=?_);try simp only [nr]
   refine sP 4 (h:=?_);try simp only [nr]
   refine sT 5 (h:=?_);try simp only [nr]
   refine sT 6 (h:=?_);try simp only [nr]
   refine sT 7 (h:=?_);try simp only [nr]
   refine stepL_only (i:=8) rfl (by kernel_rfl) (fun K hK=>?_);go_simp;refine (l34_mul (x:=vv a) (y:=vv a) (by exact (RatV.mk hb1 g1 g2).ext eC) (by exact (RatV.mk hb1 g1 g2).ext eC) HS1.out HS1.out).mono ?_;rintro e w6 ⟨v6,rfl,h6,e6⟩;replace eC:=eC.trans e6;go_wp2_with fail;clear hHeld;refine hK.out _ _ (by exact⟨eC.cell s0,eC.cell s1,eC.cell s2,eC.cell s3,eC.cell t0,eC.cell t1,eC.cell t2,eC.cell t3,eC.cell a2,eC.cell q0,eC.cell q1,eC.cell q2,eC.cell q3⟩) fun hHeld=>?_
   clear hK K;try simp only [nr]
   refine stepL_only (i:=9) rfl (by kernel_rfl) (fun K hK=>?_);go_simp;refine (l34_mul (x:=p a) (y:=vv a*vv a) (by exact (RatV.mk hb5 g5 g6).ext eC) (by exact h6) HS2.out HS3.out).mono ?_;rintro e w7 ⟨v7,rfl,h7,e7⟩;replace eC:=eC.trans e7;go_wp2_with fail;clear hHeld;refine hK.out _ _ (by exact⟨eC.cell s0,eC.cell s1,eC.cell s2,eC.cell s3,eC.cell t0,eC.cell t1,eC.cell t2,eC.cell t3,eC.cell a2,eC.cell q0,eC.cell q1,eC.cell q2,eC.cell q3⟩) fun hHeld=>?_
   clear hK K;try simp only [nr]
   refine stepL_only (i:=10) rfl (by kernel_rfl) (fun K hK=>?_);go_simp;refine (l34_add (x:=sum a (fun i=>p i*(vv i*vv i))) (y:=p a*(vv a*vv a)) (by exact (RatV.mk hb3 g3 g4).ext eC) (by exact h7) HS5.out HS4.out).mono ?_;intro e w8 hh;obtain⟨b9,A15,k15,c15,A16,k16,c16,rfl,hb9,g9,g10,e8⟩:=hh.form;replace eC:=eC.trans e8;have D0:=eC.block BS;obtain⟨u0,u1,u2,u3,u4,u5,u6,u7⟩:=cells4 D0;go_wp2_with fail;clear hHeld;refine hK.out _ _ (by exact⟨eC.cell s0,eC.cell s1,eC.cell s2,eC.cell s3,eC.cell t0,eC.cell t1,eC.cell t2,eC.cell t3,eC.cell a2,eC.cell q0,eC.cell q1,eC.cell q2,eC.cell q3⟩) fun hHeld=>?_
   clear hK K;try simp only [nr]
   refine stepL_late (i:=11) rfl (by kernel_rfl) (by kernel_rfl) (fun K hK=>?_);go_simp;refine hK.out _ _ ?_;clear hK K;try simp only [nr]
   refine stepL_done (by kernel_rfl) ?_ _;clear hHeld;obtain⟨w9,E9,hB9,K9,hs9⟩:=boxSet (q:=sum (a+1) (fun i=>p i*(vv i*vv i))) D0 (by have:=hE.size; omega) hb9 g9 g10;rw [E9];have hC9:=(hC5.trans (eC.chg _ _)).trans K9;have hs10:w2.heap.size < w9.heap.size:=by have:=eC.size; omega
   clear E9 K9 D0 s0 s1 s2 s3 t0 t1 t2 t3 u0 u1 u2 u3 u4 u5 u6 u7 BS g1 g2 g3 g4 g9 g10 hb1 hb3 hb9 hb5 g5 g6 q0 q1 q2 q3 a2;go_wp2;go_roundw
   case rel=>exact⟨a+1,by omega,by go_num,hC9,hs10,hB9⟩
   case measure=>simp [intOf]; omega
  ·obtain rfl:m=a:=by omega
   obtain⟨b3,A9,k9,c9,A10,k10,c10,BS,hb3,g3,g4⟩:=hBx;have HSX:Hid (sum m (fun i=>p i*(vv i*vv i))=S):=hS.out.symm;rw [HSX.out] at hb3 g3 g4;obtain⟨s0,s1,s2,s3,-⟩:=cells4 BS;obtain⟨t0,t1,t2,t3,t4,t5,t6,t7⟩:=cells4 B1r;go_wp2;exact fin_rat rfl rfl rfl (hE.trans e3) B1r (by omega) hN g3 g4 hb3
end Go.Proofs.YtccepmpebioeiaaGreat
namespace Go.Proofs.YtccepmpebioeiaaGreat
structure Mn where
 p:Value→World→Prop
 mono:∀ {v:Value} {w w':World},Ext w w'→p v w→p v w'
def Mn.any:Mn:=⟨fun _ _=>True,fun _ _=>trivial⟩
def Mn.eq (x:Value):Mn:=⟨fun v _=>v=x,fun _ h=>h⟩
def putAll:List (Option Tmp)→List Bool→(Nat→Value)→Nat→Act→Act
 | d :: ds,b :: bs,vals,i,a=>putAll ds bs vals (i+1) (if b=true then a.put d (vals i) else a)
 | _,_,_,_,a=>a
def nodupB:List (Option Tmp)→Bool
 | []=>true
 | none :: l=>nodupB l
 | some t :: l=>!l.contains (some t) && nodupB l
def updV (vals:Nat→Value) (i:Nat) (v:Value) (j:Nat):Value:=if j=i then v else vals j
theorem put_comm (a:Act) (d d':Option Tmp) (v v':Value) (h:∀ t,d=some t→d'≠some t):(a.put d v).put d' v'=(a.put d' v').put d v:=by
 cases d with
 | none=>rfl
 | some t =>
  cases d' with
  | none=>rfl
  | some t' =>
   have hne:t≠t':=fun e=>h t rfl (by rw [e])
   show ({ a with tmps:=_ }:Act)={ a with tmps:=_ }
   congr 1
   exact Array.setIfInBounds_comm _ _ hne
theorem put_size (a:Act) (d:Option Tmp) (v:Value):(a.put d v).tmps.size=a.tmps.size:=by
 cases d with
 | none=>rfl
 | some t=>simp [Act.put]
theorem put_other (a:Act) (d:Option Tmp) (v:Value) {t:Nat} (h:d≠some t):(a.put d v).tmps[t]?=a.tmps[t]?:=by
 cases d with
 | none=>rfl
 | some t' =>
  have hne:t'≠t:=fun e=>h (by rw [e])
  simp [Act.put,Array.getElem?_setIfInBounds,hne]
theorem putAll_put {d:Option Tmp} {v:Value}:∀ (ds:List (Option Tmp)) (bs:List Bool) (vals:Nat→Value) (k:Nat) (a:Act),(∀ t,d=some t→ds.contains (some t)=false)→putAll ds bs vals k (a.put d v)=(putAll ds bs vals k a).put d v
 | [],_,_,_,_,_=>by unfold putAll; rfl
 | _ :: _,[],_,_,_,_=>rfl
 | d0 :: ds,b :: bs,vals,k,a,h=>by
  have h1:∀ t,d=some t→d0≠some t∧ds.contains (some t)=false:=fun t ht=>by
   have:=h t ht;simp only [List.contains_cons,Bool.or_eq_false_iff,beq_eq_false_iff_ne] at this;exact⟨fun e=>this.1 e.symm,this.2⟩
  show putAll ds bs vals (k+1) (if b=true then (a.put d v).put d0 (vals k) else a.put d v)=_
  show _=(putAll ds bs vals (k+1) (if b=true then a.put d0 (vals k) else a)).put d v
  rw [←putAll_put ds bs vals (k+1) _ (fun t ht=>(h1 t ht).2)];cases b with
  | false=>rfl
  | true =>
   simp only [if_true];rw [put_comm a d d0 v (vals k) (fun t ht=>(h1 t ht).1)]
theorem putAll_congr {vals vals':Nat→Value}:∀ (ds:List (Option Tmp)) (bs:List Bool) (k:Nat) (a:Act),(∀ j,k≤j→vals j=vals' j)→putAll ds bs vals k a=putAll ds bs vals' k a
 | [],_,_,_,_=>by unfold putAll; rfl
 | _ :: _,[],_,_,_=>rfl
 | d0 :: ds,b :: bs,k,a,h=>by
  show putAll ds bs vals (k+1) (if b=true then a.put d0 (vals k) else a)=putAll ds bs vals' (k+1) (if b=true then a.put d0 (vals' k) else a)
  rw [h k (Nat.le_refl _)];exact putAll_congr ds bs (k+1) _ (fun j hj=>h j (by omega))
theorem nodup_tail {d:Option Tmp} {ds:List (Option Tmp)} (h:nodupB (d :: ds)=true):nodupB ds=true∧∀ t,d=some t→ds.contains (some t)=false:=by
 cases d with
 | none=>exact⟨h,fun t ht=>by cases ht⟩
 | some t0 =>
  unfold nodupB at h;rw [Bool.and_eq_true] at h;exact⟨h.2,fun t ht=>by injection ht with ht; subst ht; simpa using h.1⟩
theorem putAll_set {d:Option Tmp} {v:Value}:∀ (ds:List (Option Tmp)) (bs:List Bool) (vals:Nat→Value) (k i:Nat) (a:Act),nodupB ds=true→bs[i]?=some false→ds[i]?=some d→putAll ds (bs.set i true) (updV vals (k+i) v) k a=(putAll ds bs vals k a).put d v
 | [],_,_,_,_,_,_,_,hd=>by simp at hd
 | _ :: _,[],_,_,_,_,_,hb,_=>by simp at hb
 | d0 :: ds,b :: bs,vals,k,0,a,hn,hb,hd=>by
  simp only [List.getElem?_cons_zero,Option.some.injEq] at hb hd;subst hb hd;have hn':=nodup_tail hn
  show putAll ds bs (updV vals (k+0) v) (k+1) (a.put d0 (updV vals (k+0) v k))=(putAll ds bs vals (k+1) a).put d0 v
  rw [putAll_put _ _ _ _ _ hn'.2];have h1:updV vals (k+0) v k=v:=by simp [updV]
  rw [h1,putAll_congr (vals':=vals) ds bs (k+1) a (fun j hj=>by unfold updV; rw [if_neg (by omega)])]
 | d0 :: ds,b :: bs,vals,k,i+1,a,hn,hb,hd=>by
  have hn':=nodup_tail hn;simp only [List.getElem?_cons_succ] at hb hd
  show putAll ds (bs.set i true) (updV vals (k+(i+1)) v) (k+1) (if b=true then a.put d0 (updV vals (k+(i+1)) v k) else a)=(putAll ds bs vals (k+1) (if b=true then a.put d0 (vals k) else a)).put d v
  have h1:updV vals (k+(i+1)) v k=vals k:=by unfold updV; rw [if_neg (by omega)]
  have h2:k+(i+1)=k+1+i:=by omega
  rw [h1,h2];exact putAll_set ds bs vals (k+1) i _ hn'.1 hb hd
theorem putAll_old {t:Nat}:∀ (ds:List (Option Tmp)) (bs:List Bool) (vals:Nat→Value) (k:Nat) (a:Act),ds.contains (some t)=false→(putAll ds bs vals k a).tmps[t]?=a.tmps[t]?
 | [],_,_,_,_,_=>by unfold putAll; rfl
 | _ :: _,[],_,_,_,_=>rfl
 | d0 :: ds,b :: bs,vals,k,a,h=>by
  simp only [List.contains_cons,Bool.or_eq_false_iff,beq_eq_false_iff_ne] at h
  show (putAll ds bs vals (k+1) (if b=true then a.put d0 (vals k) else a)).tmps[t]?=_
  rw [putAll_old ds bs vals (k+1) _ h.2];cases b with
  | false=>rfl
  | true=>exact put_other a d0 _ (fun e=>h.1 e.symm)
theorem putAll_new {t:Nat}:∀ (ds:List (Option Tmp)) (bs:List Bool) (vals:Nat→Value) (k i:Nat) (a:Act),nodupB ds=true→bs[i]?=some true→ds[i]?=some (some t)→t < a.tmps.size→(putAll ds bs vals k a).tmps[t]?=some (vals (k+i))
 | [],_,_,_,_,_,_,_,hd,_=>by simp at hd
 | _ :: _,[],_,_,_,_,_,hb,_,_=>by simp at hb
 | d0 :: ds,b :: bs,vals,k,0,a,hn,hb,hd,ht=>by
  simp only [List.getElem?_cons_zero,Option.some.injEq] at hb hd;subst hb hd;have hn':=nodup_tail hn
  show (putAll ds bs vals (k+1) (a.put (some t) (vals k))).tmps[t]?=_
  rw [putAll_old ds bs vals (k+1) _ (hn'.2 t rfl)];simp [Act.put,ht]
 | d0 :: ds,b :: bs,vals,k,i+1,a,hn,hb,hd,ht=>by
  have hn':=nodup_tail hn;simp only [List.getElem?_cons_succ] at hb hd
  show (putAll ds bs vals (k+1) (if b=true then a.put d0 (vals k) else a)).tmps[t]?=_
  have h2:k+(i+1)=k+1+i:=by omega
  rw [h2];refine putAll_new ds bs vals (k+1) i _ hn'.1 hb hd ?_
  split
  ·rw [put_size]; exact ht
  ·exact ht
theorem fz {p:Nat→Prop}:∀ i,i < 0→p i:=fun i hi=>absurd hi (Nat.not_lt_zero i)
theorem fs {p:Nat→Prop} {n:Nat} (h:∀ i,i < n→p i) (hn:p n):∀ i,i < n+1→p i:=fun i hi=>by
 rcases Nat.lt_succ_iff_lt_or_eq.1 hi with h1 | h1
 ·exact h i h1
 ·rw [h1]; exact hn
theorem oOf {T:Array Value} {l:List Value} {t:Nat} {v:Value} (h:T[t]?=l.toArray[t]?) (hv:l[t]?=some v):T[t]?=some v:=by
 rw [h,List.getElem?_toArray]; exact hv
theorem pr:(∀ (d:Option Tmp) (ds:List (Option Tmp)) (bs:List Bool) (vals:Nat→Value) (i:Nat) (a:Act),putAll (d :: ds) (true :: bs) vals i a=putAll ds bs vals (i+1) (a.put d (vals i)))∧(∀ (d:Option Tmp) (ds:List (Option Tmp)) (bs:List Bool) (vals:Nat→Value) (i:Nat) (a:Act),putAll (d :: ds) (false :: bs) vals i a=putAll ds bs vals (i+1) a)∧(∀ (bs:List Bool) (vals:Nat→Value) (i:Nat) (a:Act),putAll [] bs vals i a=a) ∧
  (∀ (a:Act) (d:Tmp) (v:Value),a.put (some d) v={ a with tmps:=a.tmps.setIfInBounds d v })∧(∀ (a:Act) (v:Value),a.put none v=a)∧(∀ (l:List Value) (i:Nat) (v:Value),l.toArray.setIfInBounds i v=(l.set i v).toArray)∧(∀ (x:Value) (l:List Value) (v:Value),(x :: l).set 0 v=v :: l)∧(∀ (x:Value) (l:List Value) (i:Nat) (v:Value),(x :: l).set (i+1) v=x :: l.set i v) :=
 ⟨fun _ _ _ _ _ _=>rfl,fun _ _ _ _ _ _=>rfl,fun _ _ _ _=>by unfold putAll; rfl,nr⟩
section
variable {P:Program} {ops:Array Oper} {Q:Exit→Act→World→Prop} {late:List Nat}
theorem anyL_more {S:World→Prop}:∀ (f:Nat) (listed:Array Bool) (a:Act) (w:World),anyL P ops Q S late f listed a w→anyL P ops Q S late (f+1) listed a w
 | 0,_,_,_,h=>⟨fun _=>h.2,fun i hi=>by rw [h.1] at hi; cases hi⟩
 | f+1,_,_,_,h=>⟨h.1,fun i hi=>wpOp_mono (fun a' w' h'=>⟨h'.1,anyL_more f _ a' w' h'.2⟩) (h.2 i hi)⟩
theorem anyL_ge {S:World→Prop} {f g:Nat} (hfg:f≤g) {listed:Array Bool} {a:Act} {w:World} (h:anyL P ops Q S late f listed a w):anyL P ops Q S late g listed a w:=by
 induction hfg with
 | refl=>exact h
 | step _ ih=>exact anyL_more _ _ _ _ ih
def cnt (listed:Array Bool):Nat→Nat
 | 0=>0
 | n+1=>cnt listed n+if listed.getD n false=true then 0 else 1
theorem cnt_set {listed:Array Bool} {i:Nat} (hi:i < listed.size) (hf:listed.getD i false=false):∀ n,cnt (listed.setIfInBounds i true) n+(if i < n then 1 else 0)=cnt listed n
 | 0=>by simp [cnt]
 | n+1=>by
  have ih:=cnt_set hi hf n;unfold cnt
  by_cases h:i=n
  ·subst h;have h1:(listed.setIfInBounds i true).getD i false=true:=by simp [hi]
   rw [h1,hf,if_pos rfl,if_pos (Nat.lt_succ_self i),if_neg (by decide)];rw [if_neg (Nat.lt_irrefl i)] at ih;omega
  ·rw [Go.getD_set_ne false h]
   have h2:(if i < n+1 then 1 else 0)=if i < n then 1 else 0:=by
    by_cases h3:i < n
    ·rw [if_pos h3,if_pos (by omega)]
    ·rw [if_neg h3,if_neg (by omega)]
   rw [h2];omega
def lowB (ops:Array Oper):Bool:=(List.range ops.size).all fun i=>(preds ops i).all fun j=>decide (j < i)
def lateB (ops:Array Oper) (late:List Nat):Bool:=(List.range ops.size).all fun i=>late.contains i || waitsB ops late i
def fitsB (ds:List (Option Tmp)) (n:Nat):Bool:=ds.all fun d=>match d with | some t=>decide (t < n) | none=>true
def lastB (ops:Array Oper) (late:List Nat):List Bool:=(List.range ops.size).map fun i=>!late.contains i
def oldB (ds:List (Option Tmp)) (late:List Nat) (t:Nat):Bool:=(List.range ds.length).all fun j=>late.contains j || (ds[j]? != some (some t))
theorem putAll_late {t:Nat}:∀ (ds:List (Option Tmp)) (bs:List Bool) (vals:Nat→Value) (k:Nat) (a:Act),(∀ j:Nat,bs[j]?=some true→ds[j]?≠some (some t))→(putAll ds bs vals k a).tmps[t]?=a.tmps[t]?
 | [],_,_,_,_,_=>by unfold putAll; rfl
 | _ :: _,[],_,_,_,_=>rfl
 | d0 :: ds,b :: bs,vals,k,a,h=>by
  show (putAll ds bs vals (k+1) (if b=true then a.put d0 (vals k) else a)).tmps[t]?=_
  rw [putAll_late ds bs vals (k+1) _ (fun j hj=>h (j+1) hj)];cases b with
  | false=>rfl
  | true=>exact put_other a d0 _ (fun e=>h 0 rfl (by rw [e]; rfl))
theorem putAll_oldB {ds:List (Option Tmp)} {late:List Nat} {listed:Array Bool} {n t:Nat} (hl:ds.length=n) (h3:∀ j,late.contains j=true→j < n→listed.getD j false=false) (vals:Nat→Value) (a:Act) (h:oldB ds late t=true):(putAll ds listed.toList vals 0 a).tmps[t]?=a.tmps[t]?:=by
 refine putAll_late _ _ _ _ _ (fun j hj hd9=>?_);have hjl:j < ds.length:=(List.getElem?_eq_some_iff.1 hd9).1;have h1:=List.all_eq_true.1 h j (List.mem_range.2 hjl);rw [Bool.or_eq_true] at h1
 rcases h1 with h1 | h1
 ·have h2:=h3 j h1 (by omega);rw [Array.getElem?_toList] at hj;rw [Array.getD_eq_getD_getElem?,hj] at h2;cases h2
 ·rw [hd9] at h1;simp at h1
def Stp (P:Program) (ops:Array Oper) (Q:Exit→Act→World→Prop) (late:List Nat) (Js:List Mn) (ds:List (Option Tmp)) (a0:Act) (W:World) (i:Nat):Prop :=
 ∀ o,ops.toList[i]?=some o→∀ a w,Ext W w→(∀ t,oldB ds late t=true→a.tmps[t]?=a0.tmps[t]?) →
  (∀ j,(preds ops i).contains j=true→∀ t,ds[j]?=some (some t)→∃ v,a.tmps[t]?=some v∧(Js[j]?.getD Mn.any).p v w) →
  ∀ K:Act→World→Prop,Shut (∀ v w',Ext w w'→(Js[i]?.getD Mn.any).p v w'→K (a.put o.dst v) w')→if Region.wanted o (yielded ops a.tmps)=true then Oper.wp P o a w K Q else K (a.put o.dst undef) w
theorem stp {Js:List Mn} {ds:List (Option Tmp)} {a0:Act} {W:World} {i:Nat} {o:Oper} (hi:ops.toList[i]?=some o)
  (h:∀ a w,Ext W w→(∀ t,oldB ds late t=true→a.tmps[t]?=a0.tmps[t]?) →
   (∀ j,(preds ops i).contains j=true→∀ t,ds[j]?=some (some t)→∃ v,a.tmps[t]?=some v∧(Js[j]?.getD Mn.any).p v w) →
   ∀ K:Act→World→Prop,Shut (∀ v w',Ext w w'→(Js[i]?.getD Mn.any).p v w'→K (a.put o.dst v) w')→if Region.wanted o (yielded ops a.tmps)=true then Oper.wp P o a w K Q else K (a.put o.dst undef) w):Stp P ops Q late Js ds a0 W i:=by
 intro o' ho';rw [hi] at ho';cases ho'
 exact h
theorem ready_low (hlow:lowB ops=true) {listed:Array Bool} (hsz:listed.size=ops.size):∀ n,n≤ops.size→(∀ i,i < n→listed.getD i false=true)→(∃ i,i < ops.size∧listed.getD i false=false)→∃ i,i∈Region.ready .any ops listed:=by
 intro n hn hall hex
 induction h:ops.size - n generalizing n with
 | zero =>
  obtain⟨i,hi,hf⟩:=hex;rw [hall i (by omega)] at hf; cases hf
 | succ k ih =>
  cases hl:listed.getD n false with
  | true=>exact ih (n+1) (by omega) (fun i hi=>by
    by_cases e:i=n
    ·rw [e]; exact hl
    ·exact hall i (by omega)) (by omega)
  | false =>
   refine⟨n,mem_ready.2 ⟨?_,?_⟩⟩
   ·have:n < listed.size:=by omega
    simp [this] at hl ⊢; exact hl
   ·have hlt:n < ops.size:=by omega
    refine⟨ops[n],by simp [hlt],fun e he hb=>?_⟩
    have h1:=List.all_eq_true.1 (List.all_eq_true.1 hlow n (by simpa using hlt)) e.on (by
     unfold preds;rw [Array.getElem?_eq_getElem hlt];simp only [List.mem_map,List.mem_filter]
     exact⟨e,⟨by simpa using he,hb⟩,rfl⟩)
    exact hall e.on (by simpa using h1)
theorem inv_go {Js:List Mn} {ds:List (Option Tmp)} {a0:Act} {W:World} (hd:ops.toList.map (·.dst)=ds) (hnd:nodupB ds=true) (hsz:fitsB ds a0.tmps.size=true) (hlow:lowB ops=true) (hlate:lateB ops late=true)
  (hstep:∀ i,i < ops.size→late.contains i=false→Stp P ops Q late Js ds a0 W i) {k:Nat} (hk:cnt (lastB ops late).toArray ops.size=k)
  (hdone:∀ vals w,Ext W w→(∀ j,j < ops.size→late.contains j=false→(Js[j]?.getD Mn.any).p (vals j) w)→stepL P ops Q (fun _=>True) late k (lastB ops late).toArray (putAll ds (lastB ops late) vals 0 a0) w) :
  ∀ (fuel:Nat) (listed:Array Bool) (vals:Nat→Value) (w:World),listed.size=ops.size→Closed ops listed→(∀ t,late.contains t=true→t < ops.size→listed.getD t false=false)→cnt listed ops.size≤fuel→Ext W w →
   (∀ j,listed.getD j false=true→(Js[j]?.getD Mn.any).p (vals j) w)→anyL P ops Q (fun _=>True) late fuel listed (putAll ds listed.toList vals 0 a0) w:=by
 intro fuel
 induction fuel with
 | zero =>
  intro listed vals w h1 h2 h3 h4 h5 h6
  by_cases hall:∀ i,i < ops.size→late.contains i=false→listed.getD i false=true
  ·have hL:listed=(lastB ops late).toArray:=by
    apply Array.ext
    ·simp [lastB,h1]
    ·intro i hi _;have hio:i < ops.size:=by omega
     have e1:listed[i]=listed.getD i false:=by simp [hi]
     rw [e1];simp only [lastB,List.getElem_toArray,List.getElem_map,List.getElem_range];cases hc:late.contains i with
     | false=>exact hall i hio hc
     | true=>exact h3 i hc hio
   subst hL;have:=hdone vals w h5 (fun j hj hc=>h6 j (hall j hj hc)) h2;rw [hk] at h4;exact anyL_ge h4 this
  ·exfalso
   apply hall
   intro i hi _
   have hz:∀ n,n≤ops.size→cnt listed n=0→∀ i,i < n→listed.getD i false=true:=by
    intro n
    induction n with
    | zero=>intro _ _ i hi; omega
    | succ n ih =>
     intro hn hc i hi;unfold cnt at hc
     by_cases e:i=n
     ·subst e
      by_cases hg:listed.getD i false=true
      ·exact hg
      ·rw [if_neg hg] at hc; omega
     ·exact ih (by omega) (by omega) i (by omega)
   exact hz ops.size (Nat.le_refl _) (by omega) i hi
 | succ fuel ih =>
  intro listed vals w h1 h2 h3 h4 h5 h6
  by_cases hall:∀ i,i < ops.size→late.contains i=false→listed.getD i false=true
  ·have hL:listed=(lastB ops late).toArray:=by
    apply Array.ext
    ·simp [lastB,h1]
    ·intro i hi _;have hio:i < ops.size:=by omega
     have e1:listed[i]=listed.getD i false:=by simp [hi]
     rw [e1];simp only [lastB,List.getElem_toArray,List.getElem_map,List.getElem_range];cases hc:late.contains i with
     | false=>exact hall i hio hc
     | true=>exact h3 i hc hio
   subst hL;have:=hdone vals w h5 (fun j hj hc=>h6 j (hall j hj hc)) h2;rw [hk] at h4;exact anyL_ge h4 this
  ·have hex:∃ i,i < ops.size∧late.contains i=false∧listed.getD i false=false:=by
    apply Classical.byContradiction
    intro hno
    apply hall
    intro i hi hc;cases hl:listed.getD i false with
    | true=>rfl
    | false=>exact absurd ⟨i,hi,hc,hl⟩ hno
   obtain⟨u,hu,huc,hul⟩:=hex;have hne:=ready_low hlow h1 0 (Nat.zero_le _) (fun i hi=>by omega) ⟨u,hu,hul⟩;refine⟨fun h0=>?_,fun i hi=>?_⟩
   ·obtain⟨i,hi⟩:=hne; rw [h0] at hi; cases hi
   ·have hun:=ready_not hi;obtain⟨hun2,o,ho,-⟩:=mem_ready.1 hi;have hio:i < ops.size:=(Array.getElem?_eq_some_iff.1 ho).1
    have hic:late.contains i=false:=by
     cases hc:late.contains i with
     | false=>rfl
     | true =>
      have hw:=List.all_eq_true.1 hlate u (by simpa using hu);rw [huc,Bool.false_or] at hw;have:=late_listed hw h2 hi hc;rw [hul] at this; cases this
    have ho':ops.toList[i]?=some o:=by rw [Array.getElem?_toList]; exact ho
    have hdi:ds[i]?=some o.dst:=by rw [←hd,List.getElem?_map,ho']; rfl
    have hbi:listed.toList[i]?=some false:=by
     rw [Array.getElem?_toList];have:i < listed.size:=by omega
     simp [this] at hun ⊢; exact hun
    refine wpOp_step ho (fun K' hK=>?_);refine hstep i hio hic o ho' _ w h5 (fun t ht=>putAll_oldB (by rw [←hd]; simp) h3 vals a0 ht) (fun j hj t ht=>?_) K' (fun v w' e hJ=>hK _ _ ⟨fun _ _=>trivial,?_⟩)
    ·have hjl:=preds_ready hi j (by simpa using hj);refine⟨vals j,?_,h6 j hjl⟩
     have hjs:j < listed.size:=by
      rcases Nat.lt_or_ge j listed.size with h | h
      ·exact h
      ·simp [Array.getElem?_eq_none h] at hjl
     have:=putAll_new ds listed.toList vals 0 j a0 hnd (by rw [Array.getElem?_toList]; simp [hjs] at hjl ⊢; exact hjl) ht (by
      have:=List.all_eq_true.1 hsz (some t) (List.mem_of_getElem? ht)
      simpa using this)
     rw [Nat.zero_add] at this;exact this
    ·have hc:=cnt_set (by omega:i < listed.size) hun ops.size;rw [if_pos hio] at hc;have hps:=putAll_set (v:=v) ds listed.toList vals 0 i a0 hnd hbi hdi;rw [Nat.zero_add] at hps;rw [←hps,←Array.toList_setIfInBounds];refine ih (listed.setIfInBounds i true) (updV vals i v) w' (by simpa using h1) (h2.set hi) (fun t htl htn=>?_) (by omega) (h5.trans e) (fun j hj=>?_)
     ·rw [Go.getD_set_ne false (fun e=>by subst e; rw [hic] at htl; cases htl)];exact h3 t htl htn
     ·by_cases hji:i=j
      ·subst hji;have:updV vals i v i=v:=by simp [updV]
       rw [this]; exact hJ
      ·rw [Go.getD_set_ne false hji] at hj;have:updV vals i v j=vals j:=by unfold updV; rw [if_neg (fun e=>hji e.symm)]
       rw [this];exact (Js[j]?.getD Mn.any).mono e (h6 j hj)
theorem region_inv (Js:List Mn) (ds:List (Option Tmp)) (late:List Nat) (bs:List Bool) (k:Nat) {id:Nat} {a0:Act} {W:World} (hm:P.follows .mixedOrders=true) (hd:ops.toList.map (·.dst)=ds) (hnd:nodupB ds=true) (hsz:fitsB ds a0.tmps.size=true) (hlow:lowB ops=true) (hlate:lateB ops late=true)
  (hb:lastB ops late=bs) (hk:cnt bs.toArray ops.size=k) (hstep:∀ i,i < ops.size→late.contains i=false→Stp P ops Q late Js ds a0 W i)
  (hdone:∀ vals w,Ext W w→(∀ j,j < ops.size→late.contains j=false→(Js[j]?.getD Mn.any).p (vals j) w)→stepL P ops Q (fun _=>True) late k bs.toArray (putAll ds bs vals 0 a0) w) :
  (Code.region id ops true).wp P Q a0 W:=by
 subst hb
 have h0:∀ n,putAll ds (Array.replicate n false).toList (fun _=>undef) 0 a0=a0:=by
  intro n;simp only [Array.toList_replicate]
  have:∀ (ds:List (Option Tmp)) (n k:Nat),putAll ds (List.replicate n false) (fun _=>undef) k a0=a0:=by
   intro ds
   induction ds with
   | nil=>intro n k; unfold putAll; rfl
   | cons d ds ih =>
    intro n k;cases n with
    | zero=>rfl
    | succ n=>exact ih n (k+1)
  exact this ds n 0
 have hc0:∀ (n:Nat) (l:Array Bool),cnt l n≤n:=by
  intro n l
  induction n with
  | zero=>exact Nat.le_refl _
  | succ n ih=>unfold cnt; split <;> omega
 have hf0:∀ j,(Array.replicate ops.size false).getD j false=false:=fun j=>by
  rw [Array.getD_eq_getD_getElem?,Array.getElem?_replicate]; split <;> rfl
 have:=inv_go (P:=P) (Q:=Q) (late:=late) hd hnd hsz hlow hlate hstep hk hdone ops.size (Array.replicate ops.size false) (fun _=>undef) W.drew (by simp) (Closed.start _) (fun t _ _=>hf0 t) (hc0 _ _) (Ext.refl W).drew (fun j hj=>by rw [hf0 j] at hj; cases hj);rw [h0] at this;exact wp_region_any hm (any_of_anyL _ _ _ _ this)
def invB (P:Program) (ops:Array Oper) (ds:List (Option Tmp)) (late:List Nat) (bs:List Bool) (k n:Nat):Bool :=
 P.follows .mixedOrders && (decide (ops.toList.map (·.dst)=ds) && (nodupB ds && (fitsB ds n && (lowB ops && (lateB ops late && (decide (lastB ops late=bs) && decide (cnt bs.toArray ops.size=k)))))))
theorem regI (Js:List Mn) (ds:List (Option Tmp)) (late:List Nat) (bs:List Bool) (k:Nat) {id:Nat} {a0:Act} {W:World} (h:invB P ops ds late bs k a0.tmps.size=true) (hstep:∀ i,i < ops.size→late.contains i=false→Stp P ops Q late Js ds a0 W i)
  (hdone:∀ vals w,Ext W w→(∀ j,j < ops.size→late.contains j=false→(Js[j]?.getD Mn.any).p (vals j) w)→stepL P ops Q (fun _=>True) late k bs.toArray (putAll ds bs vals 0 a0) w) :
  (Code.region id ops true).wp P Q a0 W:=by
 unfold invB at h;simp only [Bool.and_eq_true,decide_eq_true_eq] at h;obtain⟨h1,h2,h3,h4,h5,h6,h7,h8⟩:=h;exact region_inv Js ds late bs k h1 h2 h3 h4 h5 h6 h7 h8 hstep hdone
end
end Go.Proofs.YtccepmpebioeiaaGreat
namespace Go.Proofs.YtccepmpebioeiaaGreat
open Go.RowKit
def Mn.rat (N:Nat) (q:Rat):Mn:=⟨fun v w=>RatV N w v q,fun e h=>h.ext e⟩
def Mn.ls (N n:Nat) (x:Nat→Rat):Mn:=⟨fun v w=>LsV N 0 w.heap.size w v n x,fun e h=>LsR.wide (h.ext e) (Nat.le_refl _) e.size (Nat.le_refl _)⟩
def Mn.mt (N m n:Nat) (X:Nat→Nat→Rat):Mn:=⟨fun v w=>MtV N 0 w.heap.size w v m n X,fun e h=>MtR.wide (h.ext e) (Nat.le_refl _) e.size (Nat.le_refl _)⟩
def Mn.blk (lo:Nat) (o:Obj):Mn:=⟨fun v w=>∃ g,v=.pointer (some ⟨g,0,none⟩)∧lo≤g∧w.heap[g]?=some o,fun e h=>by
  obtain⟨g,h0,h1,h2⟩:=h
  exact⟨g,h0,h1,e.block h2⟩⟩
theorem LsR.upd0 {N lo hi g:Nat} {w w':World} {v:Value} {n:Nat} {R:Nat→Raw} (h:LsR N lo hi w v n R) (U:Upd g w w') (hg:N≤g) (hT:NoU w g) (hc:∀ o b,w.cell? ⟨g,o,none⟩≠some (.bool b)):LsR N lo hi w' v n R:=by
 have hC:=U.chg hT;obtain⟨h1,h2,A,c,hv,h3,h4,h5⟩:=h;refine⟨Nat.le_trans h1 hC.size,Nat.le_trans h2 hC.size,A,c,hv,h3,h4,fun h0=>?_⟩;obtain⟨b,off,hA,hl,hh,hx⟩:=h5 h0;refine⟨b,off,hA,hl,hh,fun i hi=>?_⟩
 have hne:b≠g:=by
  rintro rfl;obtain⟨s,t,k0,-⟩:=hx i hi;exact hc _ _ k0
 exact (hx i hi).chg hC hg (by omega)
theorem MtR.upd0 {N lo hi g:Nat} {w w':World} {v:Value} {m:Nat} {L:Nat→Nat} {R:Nat→Nat→Raw} (h:MtR N lo hi w v m L R) (U:Upd g w w') (hg:N≤g) (hT:NoU w g) (hc:∀ o b,w.cell? ⟨g,o,none⟩≠some (.bool b)) (hc2:∀ o A k c,0 < k→w.cell? ⟨g,o,none⟩≠some (.slice A k c)) (hL:∀ i,i < m→0 < L i):MtR N lo hi w' v m L R:=by
 have hC:=U.chg hT;obtain⟨h1,h2,A,c,hv,h3,h4,h5⟩:=h;refine⟨Nat.le_trans h1 hC.size,Nat.le_trans h2 hC.size,A,c,hv,h3,h4,fun h0=>?_⟩;obtain⟨b,off,hA,hl,hh,hx⟩:=h5 h0;refine⟨b,off,hA,hl,hh,fun i hi=>?_⟩;obtain⟨u,k0,k1⟩:=hx i hi
 have hne:b≠g:=by
  rintro rfl;obtain⟨A',c',rfl,-⟩:=k1.form;exact hc2 _ _ _ _ (hL i hi) k0
 exact⟨u,hC.cell k0 (by show b < g∨g+1≤b; omega),k1.upd0 U hg hT hc⟩
end Go.Proofs.YtccepmpebioeiaaGreat
