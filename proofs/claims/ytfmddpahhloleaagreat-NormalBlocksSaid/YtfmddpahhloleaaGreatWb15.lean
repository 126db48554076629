import Derived.Test.YtfmddpahhloleaaGreatWb14
set_option linter.all false
set_option maxHeartbeats 8000000
namespace Go.Proofs.YtfmddpahhloleaaGreat
open Go.RowKit
variable {w w':World} {N n lo hi k g m c b j:Nat} {v:Value} {R:Raw} {A:Option Addr}
def shB (most n:Nat) (R:Nat->Raw):Bool:=decide (n<=most) && allB n (fun i=>kJ (R i))
def q3s (w:World) (R:Raw) (e:Ending) (w':World):Prop:=∃ z:Int,e=.returned (.int .i64 z)/\Hid (kJ R=true->z<=6)/\Ext w w'
theorem WO (h:jM N w v R) :
  Calls Tryz.prog 121 #[v] w (q3s w R):=by
 obtain⟨A1,n1,c1,A2,n2,c2,rfl,g1,g2⟩:=h.parts;obtain⟨_,_,_,e1,h1,hc1,hm1⟩:=g1.form;injection e1 with e1 e1' e1''
 subst e1 e1' e1'';obtain⟨_,_,_,e2,h2,hc2,hm2⟩:=g2.form;injection e2 with e2 e2' e2''
 subst e2 e2' e2''
 have HB:Hid (kJ R=true->n1<=1/\n2<=1):=fun hb=>by
  unfold kJ at hb;simp only [Bool.and_eq_true,decide_eq_true_eq] at hb;obtain⟨⟨⟨b1,b2⟩,-⟩,-⟩:=hb;rw [h1.out] at b1;rw [h2.out] at b2;exact⟨b1,b2⟩
 obtain⟨Rf,hRf⟩:=qc (q3s w R);rw [<-hRf.out];clear g1 g2 h h1 h2;go_enter Tryz.func121,Tryz.ntmps121;go_upto_region 1 with (fail);refine qo ?_;intro W hE hsz B0;obtain⟨a0,a1,a2,a3,-⟩:=cells4 B0;go_wp2
 first | go_ret | skip
 rw [hRf.out];refine⟨_,rfl,q_h (fun hb=>?_),hE⟩;obtain⟨b1,b2⟩:=HB.out hb;unfold wrap64;omega
theorem ZU {R:Nat->Raw} (h:LsR N lo hi w v n R) (most:Nat) {mz:Int} (hmz:mz=(most:Int)) (hmo:most < 1000) :
  Calls Tryz.prog 50 #[v,.int .i64 mz,.int .i64 6] w (zL w (.bool (shB most n R))):=by
 subst hmz;obtain⟨r,hr⟩:=qc (shB most n R);rw [<-hr.out];obtain⟨A,c,rfl,hnc,hcm⟩:=h.form;unfold maxLen at hcm;have hI:=h;clear h;go_enter Tryz.func50,Tryz.ntmps50
 by_cases hn:n<=most
 ·have HR:Hid (r=allB n (fun i=>kJ (R i))):=by rw [Hid,hr.out]; unfold shB; rw [q_t hn,Bool.true_and]
  have hd1:decide (most < n)=false:=by simp; omega
  have hd2:¬ most < n:=by omega
  clear hr;go_wp2
  go_loopw [7] (fun i wr=>∃ k:Nat,k<=n/\i=.int .i64 k/\Hid (∀ j,j < k->kJ (R j)=true)/\Ext w wr) (fun i _=>n - (intOf i).toNat)
  case atStart=>exact⟨0,Nat.zero_le _,rfl,fun j hj=>absurd hj (by omega),Ext.refl w⟩
  case round =>
   obtain⟨k,hk,rfl,HA,hE⟩:=hrel
   by_cases hlt:k < n
   ·obtain⟨b,off,rfl,-,-,hx⟩:=(hI.ext hE).addr (by omega);obtain⟨A1,n1,c1,A2,n2,c2,p0,p1,p2,p3,hv⟩:=(hx k hlt).val;clear hx;go_wp2_with (go_at_call 121; refine q_o ?_);refine (WO hv).mono ?_;rintro e w1 ⟨z,rfl,hz,e1⟩;replace hE:=hE.trans e1;obtain⟨o,ho⟩:=qc (kJ (R k));have HZ:Hid (o=true->z<=6):=fun h9=>hz.out (by rw [<-ho.out]; exact h9)
    clear hz
    by_cases hz6:z<=6
    ·replace p0:=e1.cell p0;replace p1:=e1.cell p1;replace p2:=e1.cell p2;replace p3:=e1.cell p3;go_wp2_with (go_at_call 122; refine q_o ?_);refine (q1J (hv.ext e1)).mono ?_;rintro e w2 ⟨rfl,e2⟩;rw [<-ho.out];replace hE:=hE.trans e2;clear p0 p1 p2 p3 e1 e2 HZ;cases ho':o with
     | true =>
      subst ho';go_wp2;go_roundw
      case rel=>exact⟨k+1,by omega,by go_num,zF HA.out ho.out.symm,hE⟩
      case measure=>simp [intOf]; omega
     | false =>
      subst ho';have HF:Hid (r=false):=by rw [Hid,HR.out]; exact qL hlt ho.out.symm
      go_wp2;go_ret;exact⟨qw HF.out.symm,hE⟩
    ·have HO:Hid (o=false):=by
      cases ho':o with
      | true=>exact absurd (HZ.out ho') hz6
      | false=>rfl
     have HF:Hid (r=false):=by rw [Hid,HR.out]; exact qL hlt (by rw [<-ho.out]; exact HO.out)
     clear p0 p1 p2 p3 e1 HZ HO;go_wp2;go_ret;exact⟨qw HF.out.symm,hE⟩
   ·have HF:Hid (r=true):=by rw [Hid,HR.out]; exact qg.2 (fun j hj=>HA.out j (by omega))
    go_wp2;go_ret;exact⟨qw HF.out.symm,hE⟩
 ·have HF:Hid (r=false):=by rw [Hid,hr.out]; unfold shB; rw [q_f hn]; rfl
  go_wp2;go_ret;exact⟨qw HF.out.symm,Ext.refl w⟩
def VB (rows cols:Nat) (Z:Lin):Bool:=decide (Z.m<=rows) && (shB rows Z.nl Z.l && (shB rows Z.np Z.p && allB Z.m (fun i=>shB cols (Z.L i) (Z.A i))))
theorem l34_few {Z:Lin} (h:q1p N lo hi w v Z) (rows cols:Nat) {rz cz:Int} (hrz:rz=(rows:Int)) (hcz:cz=(cols:Int)) (hr1:rows < 1000) (hc1:cols < 1000) :
  Calls Tryz.prog 10 #[v,.int .i64 rz,.int .i64 cz] w (zL w (.bool (VB rows cols Z))):=by
 subst hrz hcz;obtain⟨r,hr⟩:=qc (VB rows cols Z);rw [<-hr.out];obtain⟨A1,c1,A2,c2,A3,c3,rfl,h1,h2,h3,hm,hnl,hnp⟩:=h.parts;obtain⟨m,L,A,nl,l,np,p⟩:=Z
 dsimp only at h1 h2 h3 hm hnl hnp ⊢
 have hcm1:c1<=9223372036854775807:=by obtain⟨_,_,e9,-,h9⟩:=h1.form; injection e9 with _ _ e9; subst e9; unfold maxLen at h9; exact h9
 obtain⟨s2,hs2⟩:=qc (shB rows nl l);obtain⟨s3,hs3⟩:=qc (shB rows np p);have HR:Hid (r=(decide (m<=rows) && (s2 && (s3 && allB m (fun i=>shB cols (L i) (A i)))))):=by rw [Hid,hr.out,hs2.out,hs3.out]; rfl
 clear hr h;go_enter Tryz.func10,Tryz.ntmps10;go_upto_region 1 with (fail);refine qo ?_;intro W hE hsz B0;obtain⟨a0,a1,a2,-⟩:=cells3 B0
 by_cases hmr:m<=rows
 case neg =>
  have HF:Hid (r=false):=by rw [Hid,HR.out,q_f hmr]; rfl
  go_wp2;go_ret;exact⟨qw HF.out.symm,hE⟩
 case pos =>
 go_wp2_with (go_at_call 50; refine q_o ?_);refine (ZU (h2.ext hE) rows rfl hr1).mono ?_;rintro e w1 ⟨rfl,e1⟩;rw [<-hs2.out];replace hE:=hE.trans e1;replace B0:=e1.block B0;clear a0 a1 a2 e1;obtain⟨a0,a1,a2,-⟩:=cells3 B0;cases hs2':s2 with
 | false =>
  subst hs2';have HF:Hid (r=false):=by rw [Hid,HR.out,q_t hmr]; rfl
  go_wp2;go_ret;exact⟨qw HF.out.symm,hE⟩
 | true =>
 subst hs2';go_wp2_with (go_at_call 50; refine q_o ?_);refine (ZU (h3.ext hE) rows rfl hr1).mono ?_;rintro e w2 ⟨rfl,e2⟩;rw [<-hs3.out];replace hE:=hE.trans e2;replace B0:=e2.block B0;clear a0 a1 a2 e2;obtain⟨a0,a1,a2,-⟩:=cells3 B0;cases hs3':s3 with
 | false =>
  subst hs3';have HF:Hid (r=false):=by rw [Hid,HR.out,q_t hmr]; rfl
  go_wp2;go_ret;exact⟨qw HF.out.symm,hE⟩
 | true =>
 subst hs3';have HR2:Hid (r=allB m (fun i=>shB cols (L i) (A i))):=by rw [Hid,HR.out,q_t hmr]; rfl
 clear HR;have hd1:decide (rows < m)=false:=by simp; omega
 have hd2:¬ rows < m:=by omega
 go_wp2;clear a0 a1 a2
 go_loopw [31] (fun i wr=>∃ k:Nat,k<=m/\i=.int .i64 k/\Hid (∀ j,j < k->shB cols (L j) (A j)=true)/\Ext w wr) (fun i _=>m - (intOf i).toNat)
 case atStart=>exact⟨0,Nat.zero_le _,rfl,fun j hj=>absurd hj (by omega),hE⟩
 case round =>
  obtain⟨k,hk,rfl,HA,hE⟩:=hrel
  by_cases hlt:k < m
  ·obtain⟨b,off,rfl,-,-,hx⟩:=(h1.ext hE).addr (by omega);obtain⟨Ak,ck,p0,-,-,hv⟩:=hx k hlt;obtain⟨Lk,hLk⟩:=qc (L k);rw [<-hLk.out] at p0 hv;clear hx;go_wp2_with (go_at_call 50; refine q_o ?_);refine (ZU hv cols rfl hc1).mono ?_;rintro e w3 ⟨rfl,e3⟩;replace hE:=hE.trans e3;obtain⟨o,ho⟩:=qc (shB cols Lk (A k));have HO:Hid (shB cols (L k) (A k)=o):=by rw [Hid,ho.out,hLk.out]
   rw [<-ho.out];clear p0 e3;cases ho':o with
   | true =>
    subst ho';go_wp2;go_roundw
    case rel=>exact⟨k+1,by omega,by go_num,zF (p:=fun j=>shB cols (L j) (A j)=true) HA.out HO.out,hE⟩
    case measure=>simp [intOf]; omega
   | false =>
    subst ho';have HF:Hid (r=false):=by rw [Hid,HR2.out]; exact qL hlt HO.out
    go_wp2;go_ret;exact⟨qw HF.out.symm,hE⟩
  ·have HF:Hid (r=true):=by rw [Hid,HR2.out]; exact qg.2 (fun j hj=>HA.out j (by omega))
   go_wp2;go_ret;exact⟨qw HF.out.symm,hE⟩
set_option maxRecDepth 100000 in
theorem q4h {Z:Lin} (h:q1p N lo hi w v Z) (hs:q1h Z) (hp:∀ i,i < Z.np->q61 (Z.p i)) :
  Calls Tryz.prog 11 #[v] w (zL w (.int .i64 (codeOf Z))):=by
 obtain⟨r,hr⟩:=qc (codeOf Z);rw [<-hr.out];obtain⟨A1,c1,A2,c2,A3,c3,rfl,h1,h2,h3,hm,hnl,hnp⟩:=h.parts;obtain⟨m,L,A,nl,l,np,p⟩:=Z
 dsimp only at h1 h2 h3 hm hnl hnp ⊢
 have HS:=q_h hs;have HP:=q_h hp;have HR:Hid (r=if jK ⟨m,L,A,nl,l,np,p⟩=false then 1 else if zW ⟨m,L,A,nl,l,np,p⟩=false then 3 else if vJ ⟨m,L,A,nl,l,np,p⟩=false then 4 else if allB np (fun i=>QF (p i))=false then 2 else 0):=hr;have hcm1:c1<=9223372036854775807:=by obtain⟨_,_,e9,-,h9⟩:=h1.form; injection e9 with _ _ e9; subst e9; unfold maxLen at h9; exact h9
 clear h hr hs hp;obtain⟨s2,hs2⟩:=qc (allB nl (fun i=>okR (l i)));obtain⟨s3,hs3⟩:=qc (allB np (fun i=>okR (p i)));have HCA:Hid (jK ⟨m,L,A,nl,l,np,p⟩=(allB m (fun i=>allB (L i) (fun j=>okR (A i j))) && (s2 && s3))):=by rw [hs2.out,hs3.out]; rfl
 go_enter Tryz.func11,Tryz.ntmps11;go_upto_region 1 with (fail);refine qo ?_;intro W hE hsz B0;obtain⟨a0,a1,a2,-⟩:=cells3 B0;go_wp2;clear a0 a1 a2
 go_loopw [12,4] (fun i _ wr=>∃ k:Nat,k<=m/\i=.int .i64 k/\Hid (∀ j,j < k->allB (L j) (fun t=>okR (A j t))=true)/\Ext W wr) (fun i _ _=>m - (intOf i).toNat)
 case atStart=>exact⟨0,Nat.zero_le _,rfl,fun j hj=>absurd hj (by omega),Ext.refl W⟩
 case round =>
  obtain⟨k,hk,rfl,HA,eW⟩:=hrel;have hEr:=hE.trans eW
  by_cases hlt:k < m
  ·obtain⟨b,off,rfl,-,-,hx⟩:=(h1.ext hEr).addr (by omega);obtain⟨Ak,ck,p0,-,-,hv⟩:=hx k hlt;obtain⟨Lk,hLk⟩:=qc (L k);rw [<-hLk.out] at p0 hv;clear hx;go_wp2_with (go_at_call 27; refine q_o ?_);refine (jE hv (fun i hi=>HS.out.1 k hlt i (by show i < L k; rw [<-hLk.out]; exact hi))).mono ?_;rintro e w1 ⟨rfl,e1⟩;replace eW:=eW.trans e1;obtain⟨o,ho⟩:=qc (allB Lk (fun i=>okR (A k i)));have HO:Hid (allB (L k) (fun t=>okR (A k t))=o):=by rw [Hid,ho.out,hLk.out]
   rw [<-ho.out];clear p0 e1;cases ho':o with
   | true =>
    subst ho';go_wp2;go_roundw
    case rel=>exact⟨k+1,by omega,by go_num,zF (p:=fun j=>allB (L j) (fun t=>okR (A j t))=true) HA.out HO.out,eW⟩
    case measure=>simp [intOf]; omega
   | false =>
    subst ho';have HF:Hid (r=1):=by rw [Hid,HR.out,HCA.out,qL hlt HO.out]; rfl
    go_wp2;go_ret;exact⟨qB HF.out.symm,hE.trans eW⟩
  ·have HAA:Hid (allB m (fun i=>allB (L i) (fun j=>okR (A i j)))=true):=qg.2 (fun j hj=>HA.out j (by omega));clear HA;replace B0:=eW.block B0;obtain⟨a0,a1,a2,-⟩:=cells3 B0;clear hE eW;go_wp2_with (go_at_call 27; refine q_o ?_);refine (jE (h2.ext hEr) HS.out.2.1).mono ?_;rintro e w2 ⟨rfl,e2⟩;rw [<-hs2.out];replace hEr:=hEr.trans e2;replace B0:=e2.block B0;clear a0 a1 a2 e2;obtain⟨a0,a1,a2,-⟩:=cells3 B0;cases hs2':s2 with
   | false =>
    subst hs2';have HF:Hid (r=1):=by rw [Hid,HR.out,HCA.out,HAA.out]; rfl
    go_wp2;go_ret;exact⟨qB HF.out.symm,hEr⟩
   | true =>
   subst hs2';go_wp2_with (go_at_call 27; refine q_o ?_);refine (jE (h3.ext hEr) HS.out.2.2).mono ?_;rintro e w3 ⟨rfl,e3⟩;rw [<-hs3.out];replace hEr:=hEr.trans e3;replace B0:=e3.block B0;clear a0 a1 a2 e3;obtain⟨a0,a1,a2,-⟩:=cells3 B0;cases hs3':s3 with
   | false =>
    subst hs3';have HF:Hid (r=1):=by rw [Hid,HR.out,HCA.out,HAA.out]; rfl
    go_wp2;go_ret;exact⟨qB HF.out.symm,hEr⟩
   | true =>
   subst hs3';have HR2:Hid (r=if zW ⟨m,L,A,nl,l,np,p⟩=false then 3 else if vJ ⟨m,L,A,nl,l,np,p⟩=false then 4 else if allB np (fun i=>QF (p i))=false then 2 else 0):=by rw [Hid,HR.out,HCA.out,HAA.out]; rfl
   have HOKP:Hid (∀ i,i < np->okR (p i)=true):=qg.1 hs3.out.symm;clear HR HAA HCA
   by_cases hm1:1<=m
   case neg =>
    have HF:Hid (r=3):=by
     have:zW ⟨m,L,A,nl,l,np,p⟩=false:=by
      unfold zW; simp only [Bool.and_eq_false_iff,decide_eq_false_iff_not]; omega
     rw [Hid,HR2.out,this]; rfl
    go_wp2;go_ret;exact⟨qB HF.out.symm,hEr⟩
   case pos =>
   by_cases hm2:m<=64
   case neg =>
    have HF:Hid (r=3):=by
     have:zW ⟨m,L,A,nl,l,np,p⟩=false:=by
      unfold zW; simp only [Bool.and_eq_false_iff,decide_eq_false_iff_not]; omega
     rw [Hid,HR2.out,this]; rfl
    go_wp2;go_ret;exact⟨qB HF.out.symm,hEr⟩
   case pos =>
   have h1':=h1.ext hEr;obtain⟨b,off,rfl,-,-,hx⟩:=h1'.addr (by omega);obtain⟨AL,cL,p0,hLc,hcL,-⟩:=hx 0 (by omega);rw [Nat.add_zero] at p0;obtain⟨L0,hL0⟩:=qc (L 0);rw [<-hL0.out] at p0 hLc;unfold maxLen at hcL;clear hx
   by_cases hL1:1<=L0
   case neg =>
    have HF:Hid (r=3):=by
     have:zW ⟨m,L,A,nl,l,np,p⟩=false:=by
      unfold zW; simp only [Bool.and_eq_false_iff,decide_eq_false_iff_not]; have:=hL0.out; omega
     rw [Hid,HR2.out,this]; rfl
    go_wp2;go_ret;exact⟨qB HF.out.symm,hEr⟩
   case pos =>
   by_cases hL2:L0<=24
   case neg =>
    have HF:Hid (r=3):=by
     have:zW ⟨m,L,A,nl,l,np,p⟩=false:=by
      unfold zW; simp only [Bool.and_eq_false_iff,decide_eq_false_iff_not]; have:=hL0.out; omega
     rw [Hid,HR2.out,this]; rfl
    go_wp2;go_ret;exact⟨qB HF.out.symm,hEr⟩
   case pos =>
   have HR3:Hid (r=if vJ ⟨m,L,A,nl,l,np,p⟩=false then 4 else if allB np (fun i=>QF (p i))=false then 2 else 0):=by
    have:zW ⟨m,L,A,nl,l,np,p⟩=true:=by
     unfold zW; simp only [Bool.and_eq_true,decide_eq_true_eq]; have:=hL0.out; omega
    rw [Hid,HR2.out,this]; rfl
   clear HR2;go_wp2
   go_loop [59,6] (fun i _=>∃ k:Nat,k<=m/\i=.int .i64 k/\Hid (∀ j,j < k->L j=L 0)) (fun i _=>m - (intOf i).toNat)
   case atStart=>exact⟨0,Nat.zero_le _,rfl,fun j hj=>absurd hj (by omega)⟩
   case round =>
    obtain⟨k,hk,rfl,HA⟩:=hrel
    by_cases hlt:k < m
    ·obtain⟨b',off',hA,-,-,hx⟩:=h1'.addr (by omega);obtain⟨rfl,rfl⟩:b=b'/\off=off':=by injection hA with hA; injection hA with e1 e2; exact⟨e1,e2⟩
     obtain⟨Ak,ck,q0,hkc,hck,-⟩:=hx k hlt;obtain⟨Lk,hLk⟩:=qc (L k);rw [<-hLk.out] at q0 hkc;unfold maxLen at hck;clear hx hA
     by_cases heq:Lk=L0
     ·subst heq;have heq1:((Lk:Int) != (Lk:Int))=false:=by simp
      go_wp2
      go_round
      case rel=>exact⟨k+1,by omega,by go_num,zF (p:=fun j=>L j=L 0) HA.out (by rw [<-hLk.out,hL0.out])⟩
      case measure=>simp [intOf]; omega
     ·have HF:Hid (r=4):=by
       have h9:vJ ⟨m,L,A,nl,l,np,p⟩=false:=by
        have:JV ⟨m,L,A,nl,l,np,p⟩=false:=qL (i:=k) hlt (by simp only [decide_eq_false_iff_not]; rw [<-hLk.out,<-hL0.out]; exact heq);unfold vJ; rw [this]; rfl
       rw [Hid,HR3.out,h9]; rfl
      have hne:((Lk:Int) == (L0:Int))=false:=beq_eq_false_iff_ne.2 (by omega);have hne1:((Lk:Int) != (L0:Int))=true:=by rw [bne_iff_ne]; omega
      go_wp2;go_ret;exact⟨qB HF.out.symm,hEr⟩
    ·have HE:Hid (JV ⟨m,L,A,nl,l,np,p⟩=true):=qg.2 (fun j hj=>by simp only [decide_eq_true_eq]; exact HA.out j (by have:j < m:=hj; omega));clear HA
     by_cases hnlm:nl=m
     case neg =>
      have HF:Hid (r=4):=by
       have:vJ ⟨m,L,A,nl,l,np,p⟩=false:=by unfold vJ; simp [hnlm]
       rw [Hid,HR3.out,this]; rfl
      have t1:((nl:Int) != (m:Int))=true:=by rw [bne_iff_ne]; omega
      clear hnlm;go_wp2;go_ret;exact⟨qB HF.out.symm,hEr⟩
     case pos =>
     by_cases hnpm:np=m
     case neg =>
      have HF:Hid (r=4):=by
       have:vJ ⟨m,L,A,nl,l,np,p⟩=false:=by unfold vJ; simp [hnpm]
       rw [Hid,HR3.out,this]; rfl
      have t1:((nl:Int) != (m:Int))=false:=by rw [hnlm]; simp
      have t2:((np:Int) != (m:Int))=true:=by rw [bne_iff_ne]; omega
      clear hnlm hnpm;go_wp2;go_ret;exact⟨qB HF.out.symm,hEr⟩
     case pos =>
     have HR4:Hid (r=if allB np (fun i=>QF (p i))=false then 2 else 0):=by
      have:vJ ⟨m,L,A,nl,l,np,p⟩=true:=by unfold vJ; rw [HE.out]; simp [hnlm,hnpm]
      rw [Hid,HR3.out,this]; rfl
     have t1:((nl:Int) != (m:Int))=false:=by rw [hnlm]; simp
     have t2:((np:Int) != (m:Int))=false:=by rw [hnpm]; simp
     clear HR3 hnlm hnpm;go_wp2
     go_loopw [91,8] (fun i _ wr=>∃ k:Nat,k<=np/\i=.int .i64 k/\Hid (∀ j,j < k->QF (p j)=true)/\Ext w wr) (fun i _ _=>np - (intOf i).toNat)
     case atStart=>exact⟨0,Nat.zero_le _,rfl,fun j hj=>absurd hj (by omega),hEr⟩
     case round =>
      clear hEr p0 a0 a1 a2 B0 h1';obtain⟨k,hk,rfl,HA,hE⟩:=hrel
      by_cases hlt:k < np
      ·obtain⟨b2,off2,rfl,-,-,hx⟩:=(h3.ext hE).addr (by omega);obtain⟨A4,n4,c4,A5,n5,c5,q0,q1,q2,q3,hv⟩:=(hx k hlt).val;obtain⟨q,hq,hvq⟩:=Yf hv (HOKP.out k hlt);obtain⟨s,hs⟩:=qc q.num.sign;have HZ:Hid (Sz q):=by have:=HP.out k hlt; rw [hq] at this; exact this
       have HQ:=q_h hq;clear hx hq hv;go_wp2_with (go_at_call 51; refine q_o ?_);refine qJ ?_;intro W4 e4 hsz4 B4;refine (WM (hvq.ext e4) HZ.out).mono ?_;rintro e w5 ⟨rfl,e5⟩;rw [<-hs.out];replace hE:=(hE.trans e4).trans e5;clear q0 q1 q2 q3 B4 e4 e5 hvq
       by_cases hpos:0 < s
       ·have HPk:Hid (QF (p k)=true):=by
         rw [Hid,HQ.out,jR,decide_eq_true_eq];rw [hs.out] at hpos;exact Int.sign_pos_iff.1 hpos
        clear hs;go_wp2;go_roundw
        case rel=>exact⟨k+1,by omega,by go_num,zF (p:=fun j=>QF (p j)=true) HA.out HPk.out,hE⟩
        case measure=>simp [intOf]; omega
       ·have HF:Hid (r=2):=by
         have h9:QF (p k)=false:=by
          rw [HQ.out,jR,decide_eq_false_iff_not];rw [hs.out] at hpos;intro h8; exact hpos (Int.sign_pos_iff.2 h8)
         rw [Hid,HR4.out,qL hlt h9]; rfl
        clear hs;go_wp2;go_ret;exact⟨qB HF.out.symm,hE⟩
      ·have HF:Hid (r=0):=by
        rw [Hid,HR4.out,qg.2 (fun j hj=>HA.out j (by omega))]; rfl
       go_wp2;go_ret;exact⟨qB HF.out.symm,hE⟩
end Go.Proofs.YtfmddpahhloleaaGreat
namespace Go.Proofs.YtfmddpahhloleaaGreat
variable {w w':World} {N n lo hi k g m c b j:Nat} {v:Value} {R:Raw} {A:Option Addr}
def av (n:Nat) (A:Nat->Nat->Rat) (x:Nat->Rat) (i:Nat):Rat:=sum n (fun c=>A i c*x c)
def obj (m:Nat) (P v:Nat->Rat):Rat:=sum m (fun i=>P i*(v i*v i))
def nm (m:Nat) (A:Nat->Nat->Rat) (P:Nat->Rat) (a b:Nat):Rat:=sum m (fun k=>A k a*(P k*A k b))
def nb (m:Nat) (A:Nat->Nat->Rat) (P L:Nat->Rat) (a:Nat):Rat:=sum m (fun k=>A k a*(P k*L k))
theorem q43 (m:Nat) (A:Nat->Nat->Rat) (P:Nat->Rat) (a b:Nat):nm m A P a b=nm m A P b a:=qf fun k _=>by grind
theorem q04 (m n:Nat) (A:Nat->Nat->Rat) (P y:Nat->Rat) (a:Nat):sum n (fun b=>nm m A P a b*y b)=sum m (fun k=>A k a*(P k*av n A y k)):=by
 unfold nm av
 have e:∀ b,sum m (fun k=>A k a*(P k*A k b))*y b=sum m (fun k=>A k a*(P k*(A k b*y b))):=by
  intro b; rw [<-qA]; exact qf fun k _=>by grind
 rw [qf (fun b _=>e b),qN];refine qf fun k _=>?_
 rw [qI n (A k a),qI n (P k)]
theorem q0F (m n:Nat) (A:Nat->Nat->Rat) (y g:Nat->Rat):sum n (fun a=>y a*sum m (fun k=>A k a*g k))=sum m (fun k=>av n A y k*g k):=by
 unfold av
 have e:∀ a,y a*sum m (fun k=>A k a*g k)=sum m (fun k=>(A k a*y a)*g k):=by
  intro a; rw [<-qI]; exact qf fun k _=>by grind
 rw [qf (fun a _=>e a),qN];exact qf fun k _=>qA _ _ _
theorem jA (a:Rat):0<=a*a:=by
 rcases Rat.le_total (a:=0) (b:=a) with h | h
 ·exact Rat.mul_nonneg h h
 ·have h1:0<=-a:=by grind
  have h2:=Rat.mul_nonneg h1 h1;have e : -a * -a=a*a:=by grind
  rwa [e] at h2
theorem Wi {a:Rat} (h:a*a=0):a=0:=by grind
theorem Vm {P v:Nat->Rat} (hP:∀ i,i < m->0 < P i):0<=obj m P v :=
 xN fun i hi=>Rat.mul_nonneg (by have:=hP i hi; grind) (jA _)
theorem Yo {P v:Nat->Rat} (hP:∀ i,i < m->0 < P i) (h:obj m P v=0):∀ i,i < m->v i=0:=by
 intro i hi;have h1:=wS (fun k hk=>Rat.mul_nonneg (by have:=hP k hk; grind) (jA (v k))) h i hi;have h2:=hP i hi;refine Wi ?_
 grind
theorem QJ {A:Nat->Nat->Rat} {P y:Nat->Rat} (hP:∀ i,i < m->0 < P i) (h:∀ a,a < n->sum n (fun b=>nm m A P a b*y b)=0):∀ i,i < m->av n A y i=0:=by
 refine Yo hP ?_;have h1:=q0F m n A y (fun k=>P k*av n A y k);rw [qp (fun a ha=>by rw [<-q04,h a ha]; grind)] at h1;unfold obj;rw [h1];exact qf fun k _=>by grind
def q63 (m n:Nat) (A:Nat->Nat->Rat) (P L x:Nat->Rat):Prop:=∀ a,a < n->sum n (fun b=>nm m A P a b*x b)=nb m A P L a
def Orth (m n:Nat) (A:Nat->Nat->Rat) (P v:Nat->Rat):Prop:=∀ a,a < n->sum m (fun k=>A k a*(P k*v k))=0
theorem QH {A:Nat->Nat->Rat} {P L x:Nat->Rat}:q63 m n A P L x↔Orth m n A P (fun k=>av n A x k - L k):=by
 have e:∀ a,sum m (fun k=>A k a*(P k*(av n A x k - L k)))=sum n (fun b=>nm m A P a b*x b) - nb m A P L a:=by
  intro a;rw [q04]; unfold nb; rw [<-xA];exact qf fun k _=>by grind
 constructor
 ·intro h a ha; rw [e,h a ha]; grind
 ·intro h a ha; have:=h a ha; rw [e] at this; grind
theorem q5N (n:Nat) (A:Nat->Nat->Rat) (x y:Nat->Rat) (i:Nat):av n A (fun c=>x c - y c) i=av n A x i - av n A y i:=by
 unfold av; rw [<-xA]; exact qf fun c _=>by grind
theorem VA {A:Nat->Nat->Rat} {P L x y:Nat->Rat} (hP:∀ i,i < m->0 < P i) (h:q63 m n A P L x) (h':q63 m n A P L y):∀ i,i < m->av n A x i=av n A y i:=by
 intro i hi
 have h1:=QJ (A:=A) (y:=fun c=>x c - y c) hP (fun a ha=>by
  have e:∀ b,nm m A P a b*(x b - y b)=nm m A P a b*x b - nm m A P a b*y b:=fun b=>by grind
  rw [qf (fun b _=>e b),xA,h a ha,h' a ha]; grind) i hi
 rw [q5N] at h1
 grind
def bas (A:Nat->Nat->Rat) (p:List Nat) (i s:Nat):Rat:=A i (p[s]?.getD 0)
theorem q4A {A M:Nat->Nat->Rat} {P:Nat->Rat} {p:List Nat} (h:Z7 m n A M p) (hP:∀ i,i < m->0 < P i):Reg p.length (nm m (bas A p) P):=by
 intro x hx;exact QV h (QJ (A:=bas A p) hP hx)
def fits (r:Nat) (B X:Nat->Nat->Rat) (i j:Nat):Rat:=sum r (fun s=>B i s*sum r (fun t=>X s t*B j t))
def coef (m r:Nat) (B X:Nat->Nat->Rat) (P L:Nat->Rat) (s:Nat):Rat:=sum r (fun t=>X s t*nb m B P L t)
theorem q4p (m r:Nat) (B X:Nat->Nat->Rat) (P L:Nat->Rat) (i:Nat):sum m (fun j=>fits r B X i j*P j*L j)=av r B (coef m r B X P L) i:=by
 unfold fits av coef nb
 have e:∀ j,sum r (fun s=>B i s*sum r (fun t=>X s t*B j t))*P j*L j=sum r (fun s=>B i s*sum r (fun t=>X s t*(B j t*(P j*L j)))):=by
  intro j
  have e1:∀ s,B i s*sum r (fun t=>X s t*(B j t*(P j*L j)))=B i s*sum r (fun t=>X s t*B j t)*(P j*L j):=by
   intro s
   have:sum r (fun t=>X s t*(B j t*(P j*L j)))=sum r (fun t=>X s t*B j t)*(P j*L j):=by
    rw [<-qA]; exact qf fun t _=>by grind
   rw [this]; grind
  rw [qf (fun s _=>e1 s),qA]; grind
 rw [qf (fun j _=>e j),qN];refine qf fun s _=>?_
 rw [qI,qN]
 congr 1
 exact qf fun t _=>qI _ _ _
theorem q0K {r:Nat} {B X:Nat->Nat->Rat} {P L:Nat->Rat} (hX:∀ i,i < r->∀ c,c < r->mm r (nm m B P) X i c=dlt i c):q63 m r B P L (coef m r B X P L):=by
 intro a ha;unfold coef
 have e:∀ b,nm m B P a b*sum r (fun t=>X b t*nb m B P L t)=sum r (fun t=>(nm m B P a b*X b t)*nb m B P L t):=by
  intro b; rw [<-qI]; exact qf fun t _=>by grind
 rw [qf (fun b _=>e b),qN];rw [qf (g:=fun t=>dlt a t*nb m B P L t) (fun t ht=>by rw [qA,<-hX a ha t ht]; rfl)];exact qR ha _
def spread (p:List Nat) (z:Nat->Rat) (c:Nat):Rat:=sum p.length (fun s=>dlt (p[s]?.getD 0) c*z s)
theorem vH {A M:Nat->Nat->Rat} {p:List Nat} (h:Z7 m n A M p) (z:Nat->Rat) (i:Nat):av n A (spread p z) i=av p.length (bas A p) z i:=by
 unfold av spread
 have e:∀ c,A i c*sum p.length (fun s=>dlt (p[s]?.getD 0) c*z s)=sum p.length (fun s=>dlt (p[s]?.getD 0) c*(A i c*z s)):=by
  intro c; rw [<-qI]; exact qf fun s _=>by grind
 rw [qf (fun c _=>e c),qN];exact qf fun s hs=>qR (h.low s hs) (fun c=>A i c*z s)
theorem q1Q {A M:Nat->Nat->Rat} {P v:Nat->Rat} {p:List Nat} (h:Z7 m n A M p) (ho:Orth m p.length (bas A p) P v):Orth m n A P v:=by
 intro a ha
 have e:∀ k,k < m->A k a*(P k*v k)=sum p.length (fun s=>M s a*(bas A p k s*(P k*v k))):=by
  intro k hk;rw [vw h hk ha,<-qA];exact qf fun s _=>by unfold bas; grind
 rw [qf e,qN];refine qp fun s hs=>?_
 rw [qI,ho s hs]; grind
theorem q2m {A M X:Nat->Nat->Rat} {P L x:Nat->Rat} {p:List Nat} (h:Z7 m n A M p) (hP:∀ i,i < m->0 < P i)
  (hX:∀ i,i < p.length->∀ c,c < p.length->mm p.length (nm m (bas A p) P) X i c=dlt i c) (hx:q63 m n A P L x) :
  ∀ i,i < m->sum m (fun j=>fits p.length (bas A p) X i j*P j*L j)=av n A x i:=by
 intro i hi;rw [q4p,<-vH h];refine VA hP ?_ hx i hi;rw [QH];refine q1Q h ?_;have h1:=QH.1 (q0K (L:=L) hX);intro a ha;rw [<-h1 a ha];exact qf fun k _=>by simp only [vH h]
theorem Yc {r:Nat} {V U C:Nat->Nat->Rat} (h:∀ s,s < k->∀ i,i < m->V i s=sum r (fun t=>U i t*C t s)) (hk:r < k) :
  ∃ y:Nat->Rat,(∃ s,s < k/\y s≠0)/\∀ i,i < m->sum k (fun s=>V i s*y s)=0:=by
 have hR:=zN r C k;have hl:=hR.len;obtain⟨c,hc,hg⟩:=KJ hR.inc (Nat.lt_of_le_of_lt hl hk);refine⟨nul (qH r C k).1 (qH r C k).2 c,⟨c,hc,by rw [Qh hg]; decide⟩,fun i hi=>?_⟩;have h0:=Qi hR hc
 generalize nul (qH r C k).1 (qH r C k).2 c=y at h0
 have e:∀ s,s < k->V i s*y s=sum r (fun t=>U i t*(C t s*y s)):=by
  intro s hs;rw [h s hs i hi,<-qA];exact qf fun t _=>by grind
 rw [qf e,qN];exact qp fun t ht=>by rw [qI,h0 t ht]; grind
theorem YC {r:Nat} {K X:Nat->Nat->Rat} (hK:∀ i j,K i j=K j i) (h1:∀ i,i < r->∀ c,c < r->mm r K X i c=dlt i c) (h2:∀ i,i < r->∀ c,c < r->mm r X K i c=dlt i c):∀ i,i < r->∀ j,j < r->X i j=X j i:=by
 intro i hi j hj
 have a1:mm r (mm r X K) (fun a b=>X b a) i j=X j i:=by
  rw [kE (a':=dlt) (b':=fun a b=>X b a) (fun k hk=>h2 i hi k hk) (fun _ _=>rfl),Yl _ hi]
 have a2:mm r (mm r X K) (fun a b=>X b a) i j=X i j:=by
  rw [jT,kE (a':=X) (b':=dlt) (fun _ _=>rfl) (fun k hk=>?_),q3e _ hj];have:=h2 j hj k hk
  have hd:dlt k j=dlt j k:=by
   by_cases h:k=j
   ·rw [h]
   ·rw [zZ h,zZ (fun e=>h e.symm)]
  rw [hd,<-this];exact qf fun l _=>by rw [hK k l]; grind
 rw [<-a1,a2]
theorem q0y {r:Nat} {B X:Nat->Nat->Rat} (hX:∀ i,i < r->∀ j,j < r->X i j=X j i) (i j:Nat):fits r B X i j=fits r B X j i:=by
 unfold fits;have e1:∀ s,B i s*sum r (fun t=>X s t*B j t)=sum r (fun t=>B i s*(X s t*B j t)):=fun s=>(qI _ _ _).symm
 have e2:∀ s,B j s*sum r (fun t=>X s t*B i t)=sum r (fun t=>B j s*(X s t*B i t)):=fun s=>(qI _ _ _).symm
 rw [qf (fun s _=>e1 s),qf (fun s _=>e2 s),qN];exact qf fun t ht=>qf fun s hs=>by rw [hX s hs t ht]; grind
structure Model (m n:Nat) (A M X:Nat->Nat->Rat) (P:Nat->Rat) (p:List Nat):Prop where
 rr:Z7 m n A M p
 pos:∀ i,i < m->0 < P i
 kx:∀ i,i < p.length->∀ c,c < p.length->mm p.length (nm m (bas A p) P) X i c=dlt i c
 xk:∀ i,i < p.length->∀ c,c < p.length->mm p.length X (nm m (bas A p) P) i c=dlt i c
variable {m n:Nat} {A M X:Nat->Nat->Rat} {P:Nat->Rat} {p:List Nat}
def gf (A X:Nat->Nat->Rat) (p:List Nat) (i j:Nat):Rat:=fits p.length (bas A p) X i j
theorem Model.symm (h:Model m n A M X P p) (i j:Nat):gf A X p i j=gf A X p j i :=
 q0y (YC (q43 m (bas A p) P) h.kx h.xk) i j
theorem Model.fix (h:Model m n A M X P p) (x:Nat->Rat):∀ i,i < m->sum m (fun j=>gf A X p i j*P j*av n A x j)=av n A x i:=by
 refine q2m h.rr h.pos h.kx (x:=x) ?_;rw [QH];intro a _;exact qp fun k _=>by grind
theorem Model.col (h:Model m n A M X P p) (k:Nat):∃ x:Nat->Rat,∀ i,gf A X p i k=av n A x i:=by
 refine⟨spread p (fun s=>sum p.length (fun t=>X s t*bas A p k t)),fun i=>?_⟩;rw [vH h.rr]
 rfl
theorem Model.idem (h:Model m n A M X P p) (i k:Nat) (hi:i < m):sum m (fun j=>gf A X p i j*P j*gf A X p j k)=gf A X p i k:=by
 obtain⟨x,hx⟩:=h.col k;rw [hx i,<-h.fix x i hi];exact qf fun j _=>by rw [hx j]
theorem Model.sq (h:Model m n A M X P p) (i:Nat) (hi:i < m):gf A X p i i=sum m (fun j=>P j*(gf A X p i j*gf A X p i j)):=by
 rw [<-h.idem i i hi];exact qf fun j _=>by rw [h.symm j i]; grind
def hd (A X:Nat->Nat->Rat) (P:Nat->Rat) (p:List Nat) (i:Nat):Rat:=gf A X p i i*P i
theorem YZ {i:Nat} {f:Nat->Rat} (hi:i < m) (h:∀ k,k < m->0<=f k):f i<=sum m f:=by
 have h1:sum m f=sum m (fun k=>if k=i then f i else 0)+sum m (fun k=>if k=i then 0 else f k):=by
  rw [<-vT];refine qf fun k _=>?_
  by_cases hk:k=i
  ·subst hk; simp <;> grind
  ·simp [hk] <;> grind
 have h2:sum m (fun k=>if k=i then f i else 0)=f i:=by
  rw [kC hi (fun k _ hk=>by simp [hk])]; simp
 have h3:0<=sum m (fun k=>if k=i then 0 else f k):=xN fun k hk=>by
  by_cases hk':k=i
  ·simp [hk'] <;> grind
  ·simp [hk']; exact h k hk
 grind
theorem Model.diag (h:Model m n A M X P p) {i:Nat} (hi:i < m):0<=hd A X P p i/\hd A X P p i<=1:=by
 have h0:∀ k,k < m->0<=P k*(gf A X p i k*gf A X p i k):=fun k hk=>Rat.mul_nonneg (by have:=h.pos k hk; grind) (jA _)
 have h1:=h.sq i hi;have h2:=YZ hi h0;rw [<-h1] at h2;have h3:=xN h0;rw [<-h1] at h3;have hp:=h.pos i hi;unfold hd
 generalize gf A X p i i=g at *
 have h4:0<=g*P i:=Rat.mul_nonneg h3 (by grind);refine⟨h4,?_⟩
 have h5:(g*P i)*(g*P i)<=g*P i:=by
  have:=Rat.mul_le_mul_of_nonneg_right h2 (Rat.le_of_lt hp)
  grind
 rcases Rat.le_total (a:=g*P i) (b:=1) with h6 | h6
 ·exact h6
 ·have h7:=Rat.mul_le_mul_of_nonneg_right h6 h4;rw [Rat.one_mul] at h7;have h8:=Rat.le_antisymm h5 h7;have h9:(g*P i)*(g*P i - 1)=0:=by grind
  rcases Rat.mul_eq_zero.1 h9 with h10 | h10
  ·rw [h10] at h6; exact absurd h6 (by decide)
  ·grind
def skip (i j:Nat):Nat:=if j < i then j else j+1
theorem q3L (i j:Nat):skip i j≠i:=by unfold skip; split <;> omega
theorem Qw {i:Nat} (h:j < m):skip i j < m+1:=by unfold skip; split <;> omega
theorem Xh {i:Nat} (hi:i < m+1) (hk:k < m+1) (hne:k≠i):∃ j,j < m/\skip i j=k:=by
 rcases Nat.lt_or_ge k i with h | h
 ·exact⟨k,by omega,by unfold skip; rw [if_pos h]⟩
 ·exact⟨k - 1,by omega,by unfold skip; rw [if_neg (by omega)]; omega⟩
theorem q1s {i:Nat} (hi:i < m+1) (f:Nat->Rat):sum m (fun j=>f (skip i j))+f i=sum (m+1) f:=by
 induction m with
 | zero =>
  obtain rfl:i=0:=by omega
  simp only [sum]
 | succ m ih =>
  rcases Nat.lt_or_ge i (m+1) with h | h
  ·have h1:=ih h;rw [qP (m+1) f,<-h1,qP];have e:skip i m=m+1:=by unfold skip; rw [if_neg (by omega)]
   rw [e]; grind
  ·obtain rfl:i=m+1:=by omega
   rw [qP (m+1) f,qf (g:=f) (fun j hj=>by unfold skip; rw [if_pos hj])]
variable {m n:Nat} {A M X M':Nat->Nat->Rat} {P:Nat->Rat} {p p':List Nat}
theorem q0B (h:Model (m+1) n A M X P p) {i:Nat} (hi:i < m+1) (h':Z7 m n (fun j c=>A (skip i j) c) M' p') (hlt:p'.length < p.length):hd A X P p i=1:=by
 obtain⟨y,⟨s0,hs0,hy0⟩,hy⟩:=Yc (m:=m) (k:=p.length) (r:=p'.length) (V:=fun j s=>A (skip i j) (p[s]?.getD 0)) (U:=fun j t=>A (skip i j) (p'[t]?.getD 0)) (C:=fun t s=>M' t (p[s]?.getD 0))
  (fun s hs j hj=>vw h' hj (h.rr.low s hs)) hlt
 have hu:∀ k,av n A (spread p y) k=sum p.length (fun s=>A k (p[s]?.getD 0)*y s):=fun k=>vH h.rr y k
 have hz:∀ k,k < m+1->k≠i->av n A (spread p y) k=0:=by
  intro k hk hne;obtain⟨j,hj,rfl⟩:=Xh hi hk hne;rw [hu]; exact hy j hj
 have hnz:av n A (spread p y) i≠0:=by
  intro h0;refine hy0 (QV h.rr (y:=y) (fun k hk=>?_) s0 hs0);rw [<-hu]
  by_cases hne:k=i
  ·rw [hne]; exact h0
  ·exact hz k hk hne
 have h1:=h.fix (spread p y) i hi;rw [kC hi (fun k hk hne=>by rw [hz k hk hne]; grind)] at h1;unfold hd
 generalize av n A (spread p y) i=u at *
 have h2:(gf A X p i i*P i - 1)*u=0:=by grind
 rcases Rat.mul_eq_zero.1 h2 with h3 | h3
 ·grind
 ·exact absurd h3 hnz
theorem q00 (h:Model (m+1) n A M X P p) {i:Nat} (hi:i < m+1) (h':Z7 m n (fun j c=>A (skip i j) c) M' p') (h1:hd A X P p i=1):p'.length < p.length:=by
 rcases Nat.lt_or_ge p'.length p.length with hlt | hge
 ·exact hlt
 ·exfalso
  have hgi:gf A X p i i≠0:=by
   intro h0; unfold hd at h1; rw [h0] at h1; exact absurd h1 (by simp)
  have hz:∀ k,k < m+1->k≠i->gf A X p i k=0:=by
   have h2:=h.sq i hi;rw [<-q1s hi] at h2
   have h3:sum m (fun j=>P (skip i j)*(gf A X p i (skip i j)*gf A X p i (skip i j)))=0:=by
    have:P i*(gf A X p i i*gf A X p i i)=gf A X p i i:=by unfold hd at h1; grind
    grind
   have h4:=wS (fun j hj=>Rat.mul_nonneg (Rat.le_of_lt (h.pos _ (Qw hj))) (jA _)) h3;intro k hk hne;obtain⟨j,hj,rfl⟩:=Xh hi hk hne;have h5:=h4 j hj;have h6:=h.pos _ (Qw (i:=i) hj)
   rcases Rat.mul_eq_zero.1 h5 with h7 | h7
   ·rw [h7] at h6; exact absurd h6 (by decide)
   ·exact Wi h7
  obtain⟨x,hx⟩:=h.col i
  obtain⟨y,⟨s0,hs0,hy0⟩,hy⟩:=Yc (m:=m+1) (k:=p'.length+1) (r:=p.length) (V:=fun k s=>if s < p'.length then A k (p'[s]?.getD 0) else av n A x k) (U:=bas A p)
   (C:=fun t s=>if s < p'.length then M t (p'[s]?.getD 0) else sum n (fun c=>M t c*x c)) (by
    intro s hs k hk
    by_cases hsl:s < p'.length
    ·simp only [hsl,if_true]; exact vw h.rr hk (h'.low s hsl)
    ·simp only [hsl,if_false];unfold av
     have e:∀ c,c < n->A k c*x c=sum p.length (fun t=>bas A p k t*(M t c*x c)):=by
      intro c hc;rw [vw h.rr hk hc,<-qA];exact qf fun t _=>by unfold bas; grind
     rw [qf e,qN]
     exact qf fun t _=>qI _ _ _) (by omega)
  have hsplit:∀ k,sum (p'.length+1) (fun s=>(if s < p'.length then A k (p'[s]?.getD 0) else av n A x k)*y s)=sum p'.length (fun s=>A k (p'[s]?.getD 0)*y s)+av n A x k*y p'.length:=by
   intro k;rw [qP,qf (g:=fun s=>A k (p'[s]?.getD 0)*y s) (fun s hs=>by rw [if_pos hs]),if_neg (Nat.lt_irrefl _)]
  have hys:∀ s,s < p'.length->y s=0:=by
   refine QV h' (fun j hj=>?_);have h2:=hy _ (Qw (i:=i) hj);rw [hsplit,<-hx,h.symm,hz _ (Qw hj) (q3L i j)] at h2
   grind
  have hyl:y p'.length=0:=by
   have h2:=hy i hi;rw [hsplit,<-hx,qp (fun s hs=>by rw [hys s hs]; grind)] at h2
   rcases Rat.mul_eq_zero.1 (show gf A X p i i*y p'.length=0 by grind) with h3 | h3
   ·exact absurd h3 hgi
   ·exact h3
  refine hy0 ?_
  rcases Nat.lt_or_ge s0 p'.length with h2 | h2
  ·exact hys s0 h2
  ·obtain rfl:s0=p'.length:=by omega
   exact hyl
theorem Xi {M:Nat->Nat->Rat} {r:Nat} (hr:r<=m) (h:∀ i,r<=i->i < m->M i j=0):Zf M m j (m - r) r=m:=by
 have s:=jB M m j (m - r) r (q_r) hr
 rcases Nat.lt_or_ge (Zf M m j (m - r) r) m with h1 | h1
 ·exact absurd (h _ s.1 h1) (s.2.2.2 h1)
 ·omega
theorem WB {M:Nat->Nat->Rat} {r a:Nat} (hr:r<=a) (ha:a < m) (h:∀ i,r<=i->i < a->M i j=0) (hn:M a j≠0):Zf M m j (m - r) r=a:=by
 have s:=jB M m j (m - r) r (q_r) (by omega)
 rcases Nat.lt_trichotomy (Zf M m j (m - r) r) a with h1 | h1 | h1
 ·exact absurd (h _ s.1 h1) (s.2.2.2 (by omega))
 ·exact h1
 ·exact absurd (s.2.2.1 a hr h1) hn
theorem Xq {X:Nat->Nat->Rat} (h:Zf (qH m X j).1 m j (m - (qH m X j).2.length) (qH m X j).2.length=m):qH m X (j+1)=qH m X j:=by
 show Jo m (qH m X j) j=_
 unfold Jo;simp only [h,Nat.lt_irrefl,if_false]
theorem Xp {a:Nat} {X:Nat->Nat->Rat} (ha:a < m) (h:Zf (qH m X j).1 m j (m - (qH m X j).2.length) (qH m X j).2.length=a) :
  qH m X (j+1)=(clr (nrm (swp (qH m X j).1 (qH m X j).2.length a) (qH m X j).2.length j) (qH m X j).2.length j,(qH m X j).2 ++ [j]):=by
 show Jo m (qH m X j) j=_
 unfold Jo;simp only [h,ha,if_true]
def QW (M:Nat->Nat->Rat) (r j i:Nat) (i' c:Nat):Rat:=if i' < i then clr M r j i' c else M i' c
theorem Xf (a b:Rat):a=a - 0*b:=by grind
end Go.Proofs.YtfmddpahhloleaaGreat
namespace Go.Proofs.YtfmddpahhloleaaGreat
open Go.RowKit
variable {w w':World} {N n lo hi k g m c b j:Nat} {v:Value} {R:Raw} {A:Option Addr}
def Zc (n:Nat) (M:Nat->Nat->Rat) (p:List Nat) (k c:Nat):Rat:=sum k (fun s=>dlt (p[s]?.getD 0) c*M s n)
theorem V6 {M:Nat->Nat->Rat} {p:List Nat} (hp:∀ s,s < k->p[s]?.getD 0≠p[k]?.getD 0) (c:Nat):Zc n M p (k+1) c=upd (Zc n M p k) (p[k]?.getD 0) (M k n) c:=by
 unfold Zc upd;rw [qP]
 by_cases h:c=p[k]?.getD 0
 ·rw [if_pos h,h,kw,qp (fun s hs=>by rw [zZ (hp s hs)]; grind)]; grind
 ·rw [if_neg h,zZ (fun e=>h e.symm)]; grind
end Go.Proofs.YtfmddpahhloleaaGreat
namespace Go.Proofs.YtfmddpahhloleaaGreat
variable {w w':World} {N n lo hi k g m c b j:Nat} {v:Value} {R:Raw} {A:Option Addr}
structure Mn where
 p:Value->World->Prop
 mono:∀ {v:Value} {w w':World},Ext w w'->p v w->p v w'
def Mn.any:Mn:=⟨fun _ _=>True,fun _ _=>trivial⟩
def Mn.eq (x:Value):Mn:=⟨fun v _=>v=x,fun _ h=>h⟩
def Mn.i (z:Int):Mn:=Mn.eq (.int .i64 z)
def Mn.q (b o:Nat):Mn:=Mn.eq (.pointer (some ⟨b,o,none⟩))
def Mn.t (b:Bool):Mn:=Mn.eq (.bool b)
def sM (l:List Nat):List (Option Tmp):=l.map some
def rF:Nat->List Bool
 | n+1=>false :: rF n
 | 0=>[]
def rQ:Nat->Nat->List Bool
 | m+1,n=>true :: rQ m n
 | 0,n=>rF n
theorem q_k {J Q:Value->World->Prop} (h:Shut (∀ v w',Ext w w'->J v w'->Q v w')) (hj:J v w):Q v w:=h.out _ _ (Ext.refl w) hj
def qO:List (Option Tmp)->List Bool->(Nat->Value)->Nat->Act->Act
 | d :: ds,b :: bs,vals,i,a=>qO ds bs vals (i+1) (if b=true then a.put d (vals i) else a)
 | _,_,_,_,a=>a
def nodupB:List (Option Tmp)->Bool
 | []=>true
 | none :: l=>nodupB l
 | some t :: l=>!l.contains (some t) && nodupB l
def Zj (vals:Nat->Value) (i:Nat) (v:Value) (j:Nat):Value:=if j=i then v else vals j
theorem put_comm (a:Act) (d d':Option Tmp) (v v':Value) (h:∀ t,d=some t->d'≠some t):(a.put d v).put d' v'=(a.put d' v').put d v:=by
 cases d with
 | none=>rfl
 | some t =>
  cases d' with
  | none=>rfl
  | some t' =>
   have hne:t≠t':=fun e=>h t rfl (by rw [e])
   show ({ a with tmps:=_ }:Act)={ a with tmps:=_ }
   congr 1
   exact Array.setIfInBounds_comm _ _ hne
theorem q1N (a:Act) (d:Option Tmp) (v:Value):(a.put d v).tmps.size=a.tmps.size:=by
 cases d with
 | none=>rfl
 | some t=>simp [Act.put]
theorem XB (a:Act) (d:Option Tmp) (v:Value) {t:Nat} (h:d≠some t):(a.put d v).tmps[t]?=a.tmps[t]?:=by
 cases d with
 | none=>rfl
 | some t' =>
  have hne:t'≠t:=fun e=>h (by rw [e])
  simp [Act.put,Array.getElem?_setIfInBounds,hne]
theorem Zr {d:Option Tmp} {v:Value}:∀ (ds:List (Option Tmp)) (bs:List Bool) (vals:Nat->Value) (k:Nat) (a:Act),(∀ t,d=some t->ds.contains (some t)=false)->qO ds bs vals k (a.put d v)=(qO ds bs vals k a).put d v
 | [],_,_,_,_,_=>by unfold qO; rfl
 | _ :: _,[],_,_,_,_=>rfl
 | d0 :: ds,b :: bs,vals,k,a,h=>by
  have h1:∀ t,d=some t->d0≠some t/\ds.contains (some t)=false:=fun t ht=>by
   have:=h t ht;simp only [List.contains_cons,Bool.or_eq_false_iff,beq_eq_false_iff_ne] at this;exact⟨fun e=>this.1 e.symm,this.2⟩
  show qO ds bs vals (k+1) (if b=true then (a.put d v).put d0 (vals k) else a.put d v)=_
  show _=(qO ds bs vals (k+1) (if b=true then a.put d0 (vals k) else a)).put d v
  rw [<-Zr ds bs vals (k+1) _ (fun t ht=>(h1 t ht).2)];cases b with
  | false=>rfl
  | true =>
   simp only [if_true];rw [put_comm a d d0 v (vals k) (fun t ht=>(h1 t ht).1)]
theorem wV {vals vals':Nat->Value}:∀ (ds:List (Option Tmp)) (bs:List Bool) (k:Nat) (a:Act),(∀ j,k<=j->vals j=vals' j)->qO ds bs vals k a=qO ds bs vals' k a
 | [],_,_,_,_=>by unfold qO; rfl
 | _ :: _,[],_,_,_=>rfl
 | d0 :: ds,b :: bs,k,a,h=>by
  show qO ds bs vals (k+1) (if b=true then a.put d0 (vals k) else a)=qO ds bs vals' (k+1) (if b=true then a.put d0 (vals' k) else a)
  rw [h k (q_r)];exact wV ds bs (k+1) _ (fun j hj=>h j (by omega))
theorem jS {d:Option Tmp} {ds:List (Option Tmp)} (h:nodupB (d :: ds)=true):nodupB ds=true/\∀ t,d=some t->ds.contains (some t)=false:=by
 cases d with
 | none=>exact⟨h,fun t ht=>by cases ht⟩
 | some t0 =>
  unfold nodupB at h;rw [Bool.and_eq_true] at h;exact⟨h.2,fun t ht=>by injection ht with ht; subst ht; simpa using h.1⟩
theorem vY {d:Option Tmp} {v:Value}:∀ (ds:List (Option Tmp)) (bs:List Bool) (vals:Nat->Value) (k i:Nat) (a:Act),nodupB ds=true->bs[i]?=some false->ds[i]?=some d->qO ds (bs.set i true) (Zj vals (k+i) v) k a=(qO ds bs vals k a).put d v
 | [],_,_,_,_,_,_,_,hd=>by simp at hd
 | _ :: _,[],_,_,_,_,_,hb,_=>by simp at hb
 | d0 :: ds,b :: bs,vals,k,0,a,hn,hb,hd=>by
  simp only [List.getElem?_cons_zero,Option.some.injEq] at hb hd;subst hb hd;have hn':=jS hn
  show qO ds bs (Zj vals (k+0) v) (k+1) (a.put d0 (Zj vals (k+0) v k))=(qO ds bs vals (k+1) a).put d0 v
  rw [Zr _ _ _ _ _ hn'.2];have h1:Zj vals (k+0) v k=v:=by simp [Zj]
  rw [h1,wV (vals':=vals) ds bs (k+1) a (fun j hj=>by unfold Zj; rw [if_neg (by omega)])]
 | d0 :: ds,b :: bs,vals,k,i+1,a,hn,hb,hd=>by
  have hn':=jS hn;simp only [List.getElem?_cons_succ] at hb hd
  show qO ds (bs.set i true) (Zj vals (k+(i+1)) v) (k+1) (if b=true then a.put d0 (Zj vals (k+(i+1)) v k) else a)=(qO ds bs vals (k+1) (if b=true then a.put d0 (vals k) else a)).put d v
  have h1:Zj vals (k+(i+1)) v k=vals k:=by unfold Zj; rw [if_neg (by omega)]
  have h2:k+(i+1)=k+1+i:=by omega
  rw [h1,h2];exact vY ds bs vals (k+1) i _ hn'.1 hb hd
theorem vZ {t:Nat}:∀ (ds:List (Option Tmp)) (bs:List Bool) (vals:Nat->Value) (k:Nat) (a:Act),ds.contains (some t)=false->(qO ds bs vals k a).tmps[t]?=a.tmps[t]?
 | [],_,_,_,_,_=>by unfold qO; rfl
 | _ :: _,[],_,_,_,_=>rfl
 | d0 :: ds,b :: bs,vals,k,a,h=>by
  simp only [List.contains_cons,Bool.or_eq_false_iff,beq_eq_false_iff_ne] at h
  show (qO ds bs vals (k+1) (if b=true then a.put d0 (vals k) else a)).tmps[t]?=_
  rw [vZ ds bs vals (k+1) _ h.2];cases b with
  | false=>rfl
  | true=>exact XB a d0 _ (fun e=>h.1 e.symm)
theorem wu {t:Nat}:∀ (ds:List (Option Tmp)) (bs:List Bool) (vals:Nat->Value) (k i:Nat) (a:Act),nodupB ds=true->bs[i]?=some true->ds[i]?=some (some t)->t < a.tmps.size->(qO ds bs vals k a).tmps[t]?=some (vals (k+i))
 | [],_,_,_,_,_,_,_,hd,_=>by simp at hd
 | _ :: _,[],_,_,_,_,_,hb,_,_=>by simp at hb
 | d0 :: ds,b :: bs,vals,k,0,a,hn,hb,hd,ht=>by
  simp only [List.getElem?_cons_zero,Option.some.injEq] at hb hd;subst hb hd;have hn':=jS hn
  show (qO ds bs vals (k+1) (a.put (some t) (vals k))).tmps[t]?=_
  rw [vZ ds bs vals (k+1) _ (hn'.2 t rfl)];simp [Act.put,ht]
 | d0 :: ds,b :: bs,vals,k,i+1,a,hn,hb,hd,ht=>by
  have hn':=jS hn;simp only [List.getElem?_cons_succ] at hb hd
  show (qO ds bs vals (k+1) (if b=true then a.put d0 (vals k) else a)).tmps[t]?=_
  have h2:k+(i+1)=k+1+i:=by omega
  rw [h2];refine wu ds bs vals (k+1) i _ hn'.1 hb hd ?_
  split
  ·rw [q1N]; exact ht
  ·exact ht
theorem fz {p:Nat->Prop}:∀ i,i < 0->p i:=fun i hi=>absurd hi (Nat.not_lt_zero i)
theorem fs {p:Nat->Prop} (h:∀ i,i < n->p i) (hn:p n):∀ i,i < n+1->p i:=fun i hi=>by
 rcases Nat.lt_succ_iff_lt_or_eq.1 hi with h1 | h1
 ·exact h i h1
 ·rw [h1]; exact hn
theorem oOf {T:Array Value} {l:List Value} {t:Nat} (h:T[t]?=l.toArray[t]?) (hv:l[t]?=some v):T[t]?=some v:=by
 rw [h,List.getElem?_toArray]; exact hv
theorem pr:(∀ (d:Nat) (ds:List Nat),sM (d :: ds)=some d :: sM ds)/\sM []=[]/\(∀ (m n:Nat),rQ (m+1) n=true :: rQ m n)/\(∀ (n:Nat),rQ 0 (n+1)=false :: rQ 0 n)/\rQ 0 0=[]/\(∀ (d:Option Tmp) (ds:List (Option Tmp)) (bs:List Bool) (vals:Nat->Value) (i:Nat) (a:Act),qO (d :: ds) (true :: bs) vals i a=qO ds bs vals (i+1) (a.put d (vals i)))/\(∀ (d:Option Tmp) (ds:List (Option Tmp)) (bs:List Bool) (vals:Nat->Value) (i:Nat) (a:Act),qO (d :: ds) (false :: bs) vals i a=qO ds bs vals (i+1) a)/\(∀ (bs:List Bool) (vals:Nat->Value) (i:Nat) (a:Act),qO [] bs vals i a=a) /\
  (∀ (a:Act) (d:Tmp) (v:Value),a.put (some d) v={ a with tmps:=a.tmps.setIfInBounds d v })/\(∀ (a:Act) (v:Value),a.put none v=a)/\(∀ (l:List Value) (i:Nat) (v:Value),l.toArray.setIfInBounds i v=(l.set i v).toArray)/\(∀ (x:Value) (l:List Value) (v:Value),(x :: l).set 0 v=v :: l)/\(∀ (x:Value) (l:List Value) (i:Nat) (v:Value),(x :: l).set (i+1) v=x :: l.set i v) :=
 ⟨fun _ _=>rfl,rfl,fun _ _=>rfl,fun _=>rfl,rfl,fun _ _ _ _ _ _=>rfl,fun _ _ _ _ _ _=>rfl,fun _ _ _ _=>by unfold qO; rfl,nr⟩
section
variable {P:Program} {ops:Array Oper} {Q:Exit->Act->World->Prop} {late:List Nat}
theorem J4 {S:World->Prop}:∀ (f:Nat) (listed:Array Bool) (a:Act) (w:World),YV P ops Q S late f listed a w->YV P ops Q S late (f+1) listed a w
 | 0,_,_,_,h=>⟨fun _=>h.2,fun i hi=>by rw [h.1] at hi; cases hi⟩
 | f+1,_,_,_,h=>⟨h.1,fun i hi=>wpOp_mono (fun a' w' h'=>⟨h'.1,J4 f _ a' w' h'.2⟩) (h.2 i hi)⟩
theorem X7 {S:World->Prop} {f:Nat} (hfg:f<=g) {listed:Array Bool} {a:Act} (h:YV P ops Q S late f listed a w):YV P ops Q S late g listed a w:=by
 induction hfg with
 | refl=>exact h
 | step _ ih=>exact J4 _ _ _ _ ih
def cnt (listed:Array Bool):Nat->Nat
 | 0=>0
 | n+1=>cnt listed n+if listed.getD n false=true then 0 else 1
theorem JX {listed:Array Bool} {i:Nat} (hi:i < listed.size) (hf:listed.getD i false=false):∀ n,cnt (listed.setIfInBounds i true) n+(if i < n then 1 else 0)=cnt listed n
 | 0=>by simp [cnt]
 | n+1=>by
  have ih:=JX hi hf n;unfold cnt
  by_cases h:i=n
  ·subst h;have h1:(listed.setIfInBounds i true).getD i false=true:=by simp [hi]
   rw [h1,hf,if_pos rfl,if_pos (Nat.lt_succ_self i),if_neg (by decide)];rw [if_neg (Nat.lt_irrefl i)] at ih;omega
  ·rw [Go.getD_set_ne false h]
   have h2:(if i < n+1 then 1 else 0)=if i < n then 1 else 0:=by
    by_cases h3:i < n
    ·rw [if_pos h3,if_pos (by omega)]
    ·rw [if_neg h3,if_neg (by omega)]
   rw [h2];omega
def q4e (ops:Array Oper):Bool:=(List.range ops.size).all fun i=>(jc ops i).all fun j=>decide (j < i)
def q4g (ops:Array Oper) (late:List Nat):Bool:=(List.range ops.size).all fun i=>late.contains i || yI ops late i
def Vz (ds:List (Option Tmp)) (n:Nat):Bool:=ds.all fun d=>match d with | some t=>decide (t < n) | none=>true
def lastB (ops:Array Oper) (late:List Nat):List Bool:=(List.range ops.size).map fun i=>!late.contains i
def oldB (ds:List (Option Tmp)) (late:List Nat) (t:Nat):Bool:=(List.range ds.length).all fun j=>late.contains j || (ds[j]? != some (some t))
theorem QE {t:Nat}:∀ (ds:List (Option Tmp)) (bs:List Bool) (vals:Nat->Value) (k:Nat) (a:Act),(∀ j:Nat,bs[j]?=some true->ds[j]?≠some (some t))->(qO ds bs vals k a).tmps[t]?=a.tmps[t]?
 | [],_,_,_,_,_=>by unfold qO; rfl
 | _ :: _,[],_,_,_,_=>rfl
 | d0 :: ds,b :: bs,vals,k,a,h=>by
  show (qO ds bs vals (k+1) (if b=true then a.put d0 (vals k) else a)).tmps[t]?=_
  rw [QE ds bs vals (k+1) _ (fun j hj=>h (j+1) hj)];cases b with
  | false=>rfl
  | true=>exact XB a d0 _ (fun e=>h 0 rfl (by rw [e]; rfl))
theorem QD {ds:List (Option Tmp)} {late:List Nat} {listed:Array Bool} {t:Nat} (hl:ds.length=n) (h3:∀ j,late.contains j=true->j < n->listed.getD j false=false) (vals:Nat->Value) (a:Act) (h:oldB ds late t=true):(qO ds listed.toList vals 0 a).tmps[t]?=a.tmps[t]?:=by
 refine QE _ _ _ _ _ (fun j hj hd9=>?_);have hjl:j < ds.length:=(List.getElem?_eq_some_iff.1 hd9).1;have h1:=List.all_eq_true.1 h j (List.mem_range.2 hjl);rw [Bool.or_eq_true] at h1
 rcases h1 with h1 | h1
 ·have h2:=h3 j h1 (by omega);rw [Array.getElem?_toList] at hj;rw [Array.getD_eq_getD_getElem?,hj] at h2;cases h2
 ·rw [hd9] at h1;simp at h1
def Stp (P:Program) (ops:Array Oper) (Q:Exit->Act->World->Prop) (late:List Nat) (Js:List Mn) (ds:List (Option Tmp)) (a0:Act) (W:World) (i:Nat):Prop :=
 ∀ o,ops.toList[i]?=some o->∀ a w,Ext W w->(∀ t,oldB ds late t=true->a.tmps[t]?=a0.tmps[t]?) ->
  (∀ j,(jc ops i).contains j=true->∀ t,ds[j]?=some (some t)->∃ v,a.tmps[t]?=some v/\(Js[j]?.getD Mn.any).p v w) ->
  ∀ K:Act->World->Prop,Shut (∀ v w',Ext w w'->(Js[i]?.getD Mn.any).p v w'->K (a.put o.dst v) w')->if Region.wanted o (yielded ops a.tmps)=true then Oper.wp P o a w K Q else K (a.put o.dst undef) w
theorem stp {Js:List Mn} {ds:List (Option Tmp)} {a0:Act} {W:World} {i:Nat} {o:Oper} (hi:ops.toList[i]?=some o)
  (h:∀ a w,Ext W w->(∀ (t:Nat) (_:oldB ds late t=true:=by kernel_rfl),a.tmps[t]?=a0.tmps[t]?) ->
   (∀ (j t:Nat) (_:(jc ops i).contains j=true:=by kernel_rfl) (_:ds[j]?=some (some t):=by rfl),∃ v,a.tmps[t]?=some v/\(Js[j]?.getD Mn.any).p v w) ->
   ∀ K:Act->World->Prop,Shut (∀ v w',Ext w w'->(Js[i]?.getD Mn.any).p v w'->K (a.put o.dst v) w')->if Region.wanted o (yielded ops a.tmps)=true then Oper.wp P o a w K Q else K (a.put o.dst undef) w):Stp P ops Q late Js ds a0 W i:=by
 intro o' ho';rw [hi] at ho';cases ho'
 exact fun a w e hB hA=>h a w e hB (fun j t h1 h2=>hA j h1 t h2)
theorem Xu (hlow:q4e ops=true) {listed:Array Bool} (hsz:listed.size=ops.size):∀ n,n<=ops.size->(∀ i,i < n->listed.getD i false=true)->(∃ i,i < ops.size/\listed.getD i false=false)->∃ i,i∈Region.ready .any ops listed:=by
 intro n hn hall hex
 induction h:ops.size - n generalizing n with
 | zero =>
  obtain⟨i,hi,hf⟩:=hex;rw [hall i (by omega)] at hf; cases hf
 | succ k ih =>
  cases hl:listed.getD n false with
  | true=>exact ih (n+1) (by omega) (fun i hi=>by
    by_cases e:i=n
    ·rw [e]; exact hl
    ·exact hall i (by omega)) (by omega)
  | false =>
   refine⟨n,mem_ready.2 ⟨?_,?_⟩⟩
   ·have:n < listed.size:=by omega
    simp [this] at hl ⊢; exact hl
   ·have hlt:n < ops.size:=by omega
    refine⟨ops[n],by simp [hlt],fun e he hb=>?_⟩
    have h1:=List.all_eq_true.1 (List.all_eq_true.1 hlow n (by simpa using hlt)) e.on (by
     unfold jc;rw [Array.getElem?_eq_getElem hlt];simp only [List.mem_map,List.mem_filter]
     exact⟨e,⟨by simpa using he,hb⟩,rfl⟩)
    exact hall e.on (by simpa using h1)
theorem q5j {Js:List Mn} {ds:List (Option Tmp)} {a0:Act} {W:World} (hd:ops.toList.map (·.dst)=ds) (hnd:nodupB ds=true) (hsz:Vz ds a0.tmps.size=true) (hlow:q4e ops=true) (hlate:q4g ops late=true)
  (hstep:∀ i,i < ops.size->late.contains i=false->Stp P ops Q late Js ds a0 W i) (hk:cnt (lastB ops late).toArray ops.size=k)
  (hdone:∀ vals w,Ext W w->(∀ j,j < ops.size->late.contains j=false->(Js[j]?.getD Mn.any).p (vals j) w)->x8 P ops Q (fun _=>True) late k (lastB ops late).toArray (qO ds (lastB ops late) vals 0 a0) w) :
  ∀ (fuel:Nat) (listed:Array Bool) (vals:Nat->Value) (w:World),listed.size=ops.size->Closed ops listed->(∀ t,late.contains t=true->t < ops.size->listed.getD t false=false)->cnt listed ops.size<=fuel->Ext W w ->
   (∀ j,listed.getD j false=true->(Js[j]?.getD Mn.any).p (vals j) w)->YV P ops Q (fun _=>True) late fuel listed (qO ds listed.toList vals 0 a0) w:=by
 intro fuel
 induction fuel with
 | zero =>
  intro listed vals w h1 h2 h3 h4 h5 h6
  by_cases hall:∀ i,i < ops.size->late.contains i=false->listed.getD i false=true
  ·have hL:listed=(lastB ops late).toArray:=by
    apply Array.ext
    ·simp [lastB,h1]
    ·intro i hi _;have hio:i < ops.size:=by omega
     have e1:listed[i]=listed.getD i false:=by simp [hi]
     rw [e1];simp only [lastB,List.getElem_toArray,List.getElem_map,List.getElem_range];cases hc:late.contains i with
     | false=>exact hall i hio hc
     | true=>exact h3 i hc hio
   subst hL;have:=hdone vals w h5 (fun j hj hc=>h6 j (hall j hj hc)) h2;rw [hk] at h4;exact X7 h4 this
  ·exfalso
   apply hall
   intro i hi _
   have hz:∀ n,n<=ops.size->cnt listed n=0->∀ i,i < n->listed.getD i false=true:=by
    intro n
    induction n with
    | zero=>intro _ _ i hi; omega
    | succ n ih =>
     intro hn hc i hi;unfold cnt at hc
     by_cases e:i=n
     ·subst e
      by_cases hg:listed.getD i false=true
      ·exact hg
      ·rw [if_neg hg] at hc; omega
     ·exact ih (by omega) (by omega) i (by omega)
   exact hz ops.size (q_r) (by omega) i hi
 | succ fuel ih =>
  intro listed vals w h1 h2 h3 h4 h5 h6
  by_cases hall:∀ i,i < ops.size->late.contains i=false->listed.getD i false=true
  ·have hL:listed=(lastB ops late).toArray:=by
    apply Array.ext
    ·simp [lastB,h1]
    ·intro i hi _;have hio:i < ops.size:=by omega
     have e1:listed[i]=listed.getD i false:=by simp [hi]
     rw [e1];simp only [lastB,List.getElem_toArray,List.getElem_map,List.getElem_range];cases hc:late.contains i with
     | false=>exact hall i hio hc
     | true=>exact h3 i hc hio
   subst hL;have:=hdone vals w h5 (fun j hj hc=>h6 j (hall j hj hc)) h2;rw [hk] at h4;exact X7 h4 this
  ·have hex:∃ i,i < ops.size/\late.contains i=false/\listed.getD i false=false:=by
    apply Classical.byContradiction
    intro hno
    apply hall
    intro i hi hc;cases hl:listed.getD i false with
    | true=>rfl
    | false=>exact absurd ⟨i,hi,hc,hl⟩ hno
   obtain⟨u,hu,huc,hul⟩:=hex;have hne:=Xu hlow h1 0 (Nat.zero_le _) (fun i hi=>by omega) ⟨u,hu,hul⟩;refine⟨fun h0=>?_,fun i hi=>?_⟩
   ·obtain⟨i,hi⟩:=hne; rw [h0] at hi; cases hi
   ·have hun:=yO hi;obtain⟨hun2,o,ho,-⟩:=mem_ready.1 hi;have hio:i < ops.size:=(Array.getElem?_eq_some_iff.1 ho).1
    have hic:late.contains i=false:=by
     cases hc:late.contains i with
     | false=>rfl
     | true =>
      have hw:=List.all_eq_true.1 hlate u (by simpa using hu);rw [huc,Bool.false_or] at hw;have:=jf hw h2 hi hc;rw [hul] at this; cases this
    have ho':ops.toList[i]?=some o:=by rw [Array.getElem?_toList]; exact ho
    have hdi:ds[i]?=some o.dst:=by rw [<-hd,List.getElem?_map,ho']; rfl
    have hbi:listed.toList[i]?=some false:=by
     rw [Array.getElem?_toList];have:i < listed.size:=by omega
     simp [this] at hun ⊢; exact hun
    refine wpOp_step ho (fun K' hK=>?_);refine hstep i hio hic o ho' _ w h5 (fun t ht=>QD (by rw [<-hd]; simp) h3 vals a0 ht) (fun j hj t ht=>?_) K' (fun v w' e hJ=>hK _ _ ⟨fun _ _=>trivial,?_⟩)
    ·have hjl:=x9 hi j (by simpa using hj);refine⟨vals j,?_,h6 j hjl⟩
     have hjs:j < listed.size:=by
      rcases Nat.lt_or_ge j listed.size with h | h
      ·exact h
      ·simp [Array.getElem?_eq_none h] at hjl
     have:=wu ds listed.toList vals 0 j a0 hnd (by rw [Array.getElem?_toList]; simp [hjs] at hjl ⊢; exact hjl) ht (by
      have:=List.all_eq_true.1 hsz (some t) (List.mem_of_getElem? ht)
      simpa using this)
     rw [Nat.zero_add] at this;exact this
    ·have hc:=JX (by omega:i < listed.size) hun ops.size;rw [if_pos hio] at hc;have hps:=vY (v:=v) ds listed.toList vals 0 i a0 hnd hbi hdi;rw [Nat.zero_add] at hps;rw [<-hps,<-Array.toList_setIfInBounds];refine ih (listed.setIfInBounds i true) (Zj vals i v) w' (by simpa using h1) (h2.set hi) (fun t htl htn=>?_) (by omega) (h5.trans e) (fun j hj=>?_)
     ·rw [Go.getD_set_ne false (fun e=>by subst e; rw [hic] at htl; cases htl)];exact h3 t htl htn
     ·by_cases hji:i=j
      ·subst hji;have:Zj vals i v i=v:=by simp [Zj]
       rw [this]; exact hJ
      ·rw [Go.getD_set_ne false hji] at hj;have:Zj vals i v j=vals j:=by unfold Zj; rw [if_neg (fun e=>hji e.symm)]
       rw [this];exact (Js[j]?.getD Mn.any).mono e (h6 j hj)
theorem Ve (Js:List Mn) (ds:List (Option Tmp)) (late:List Nat) (bs:List Bool) (k:Nat) {id:Nat} {a0:Act} {W:World} (hm:P.follows .mixedOrders=true) (hd:ops.toList.map (·.dst)=ds) (hnd:nodupB ds=true) (hsz:Vz ds a0.tmps.size=true) (hlow:q4e ops=true) (hlate:q4g ops late=true)
  (hb:lastB ops late=bs) (hk:cnt bs.toArray ops.size=k) (hstep:∀ i,i < ops.size->late.contains i=false->Stp P ops Q late Js ds a0 W i)
  (hdone:∀ vals w,Ext W w->(∀ j,j < ops.size->late.contains j=false->(Js[j]?.getD Mn.any).p (vals j) w)->x8 P ops Q (fun _=>True) late k bs.toArray (qO ds bs vals 0 a0) w) :
  (Code.region id ops true).wp P Q a0 W:=by
 subst hb
 have h0:∀ n,qO ds (Array.replicate n false).toList (fun _=>undef) 0 a0=a0:=by
  intro n;simp only [Array.toList_replicate]
  have:∀ (ds:List (Option Tmp)) (n k:Nat),qO ds (List.replicate n false) (fun _=>undef) k a0=a0:=by
   intro ds
   induction ds with
   | nil=>intro n k; unfold qO; rfl
   | cons d ds ih =>
    intro n k;cases n with
    | zero=>rfl
    | succ n=>exact ih n (k+1)
  exact this ds n 0
 have hc0:∀ (n:Nat) (l:Array Bool),cnt l n<=n:=by
  intro n l
  induction n with
  | zero=>exact q_r
  | succ n ih=>unfold cnt; split <;> omega
 have hf0:∀ j,(Array.replicate ops.size false).getD j false=false:=fun j=>by
  rw [Array.getD_eq_getD_getElem?,Array.getElem?_replicate]; split <;> rfl
 have:=q5j (P:=P) (Q:=Q) (late:=late) hd hnd hsz hlow hlate hstep hk hdone ops.size (Array.replicate ops.size false) (fun _=>undef) W.drew (by simp) (Closed.start _) (fun t _ _=>hf0 t) (hc0 _ _) (Ext.refl W).drew (fun j hj=>by rw [hf0 j] at hj; cases hj);rw [h0] at this;exact wp_region_any hm (ji _ _ _ _ this)
def invB (P:Program) (ops:Array Oper) (ds:List (Option Tmp)) (late:List Nat) (bs:List Bool) (k n:Nat):Bool :=
 P.follows .mixedOrders && (decide (ops.toList.map (·.dst)=ds) && (nodupB ds && (Vz ds n && (q4e ops && (q4g ops late && (decide (lastB ops late=bs) && decide (cnt bs.toArray ops.size=k)))))))
theorem Je (Js:List Mn) (ds:List (Option Tmp)) (late:List Nat) (bs:List Bool) (k:Nat) {id:Nat} {a0:Act} {W:World} (h:invB P ops ds late bs k a0.tmps.size=true) (hstep:∀ i,i < ops.size->late.contains i=false->Stp P ops Q late Js ds a0 W i)
  (hdone:∀ vals w,Ext W w->(∀ j,j < ops.size->late.contains j=false->(Js[j]?.getD Mn.any).p (vals j) w)->x8 P ops Q (fun _=>True) late k bs.toArray (qO ds bs vals 0 a0) w) :
  (Code.region id ops true).wp P Q a0 W:=by
 unfold invB at h;simp only [Bool.and_eq_true,decide_eq_true_eq] at h;obtain⟨h1,h2,h3,h4,h5,h6,h7,h8⟩:=h;exact Ve Js ds late bs k h1 h2 h3 h4 h5 h6 h7 h8 hstep hdone
end
end Go.Proofs.YtfmddpahhloleaaGreat
namespace Go.Proofs.YtfmddpahhloleaaGreat
open Go.RowKit
variable {w w':World} {N n lo hi k g m c b j:Nat} {v:Value} {R:Raw} {A:Option Addr}
def Mn.rat (N:Nat) (q:Rat):Mn:=⟨fun v w=>qY N w v q,fun e h=>h.ext e⟩
def Mn.ls (N n:Nat) (x:Nat->Rat):Mn:=⟨fun v w=>LsV N 0 w.heap.size w v n x,fun e h=>LsR.wide (h.ext e) (q_r) e.size (q_r)⟩
def Mn.mt (N m n:Nat) (X:Nat->Nat->Rat):Mn:=⟨fun v w=>MtV N 0 w.heap.size w v m n X,fun e h=>MtR.wide (h.ext e) (q_r) e.size (q_r)⟩
def Mn.blk (lo:Nat) (o:Obj):Mn:=⟨fun v w=>∃ g,v=.pointer (some ⟨g,0,none⟩)/\lo<=g/\w.heap[g]?=some o,fun e h=>by
  obtain⟨g,h0,h1,h2⟩:=h
  exact⟨g,h0,h1,e.block h2⟩⟩
theorem LsR.upd0 {R:Nat->Raw} (h:LsR N lo hi w v n R) (U:Upd g w w') (hg:N<=g) (hT:NoU w g) (hc:∀ o b,w.cell? ⟨g,o,none⟩≠some (.bool b)):LsR N lo hi w' v n R:=by
 have hC:=U.chg hT;obtain⟨h1,h2,A,c,hv,h3,h4,h5⟩:=h;refine⟨q_l h1 hC.size,q_l h2 hC.size,A,c,hv,h3,h4,fun h0=>?_⟩;obtain⟨b,off,hA,hl,hh,hx⟩:=h5 h0;refine⟨b,off,hA,hl,hh,fun i hi=>?_⟩
 have hne:b≠g:=by
  rintro rfl;obtain⟨s,t,k0,-⟩:=hx i hi;exact hc _ _ k0
 exact (hx i hi).chg hC hg (by omega)
theorem MtR.upd0 {L:Nat->Nat} {R:Nat->Nat->Raw} (h:MtR N lo hi w v m L R) (U:Upd g w w') (hg:N<=g) (hT:NoU w g) (hc:∀ o b,w.cell? ⟨g,o,none⟩≠some (.bool b)) (hc2:∀ o A k c,0 < k->w.cell? ⟨g,o,none⟩≠some (.slice A k c)) (hL:∀ i,i < m->0 < L i):MtR N lo hi w' v m L R:=by
 have hC:=U.chg hT;obtain⟨h1,h2,A,c,hv,h3,h4,h5⟩:=h;refine⟨q_l h1 hC.size,q_l h2 hC.size,A,c,hv,h3,h4,fun h0=>?_⟩;obtain⟨b,off,hA,hl,hh,hx⟩:=h5 h0;refine⟨b,off,hA,hl,hh,fun i hi=>?_⟩;obtain⟨u,k0,k1⟩:=hx i hi
 have hne:b≠g:=by
  rintro rfl;obtain⟨A',c',rfl,-⟩:=k1.form;exact hc2 _ _ _ _ (hL i hi) k0
 exact⟨u,hC.cell k0 (by show b < g\/g+1<=b; omega),k1.upd0 U hg hT hc⟩
theorem ZM (w:World) (kl kc:IntKind) (n:Nat) (hn:n*24<=281474976710656) :
  ∃ w' cs,(Instr.makeSlice 23 (.int kl n) (.int kc n)).run Tryz.prog w=.ok (.slice (some ⟨w.heap.size,0,none⟩) n n) w'/\w'.heap[w.heap.size]?=some (.cells cs 24 (0,0))/\cs.size=n/\Ext w w':=by
 obtain⟨i0,hi0,hz0,hz1,hz2⟩:=info_parts KI;obtain⟨w',hrun,hown,hgr⟩:=run_make_full (P:=Tryz.prog) w w.heap.size 23 24 i0 _ 1 Tryz.underlying23 hi0 hz0 hz1 kl kc n (by rw [hz2]; omega) (by unfold maxLen; omega) (q_r);have hx:=(Ext.refl w).grown hgr (fun k hk=>by cases hk)
 rcases hown.2 with ⟨h,_⟩ | ⟨g,cap,cur,hv,hg,hh,hnc,hcm,hcs,htk⟩
 ·cases h
 ·have e1:w.heap.size=g:=Option.some.inj (congrArg Value.ownBlock hv);have e3:n=cap:=congrArg (fun v:Value=>match v with | .slice _ _ c=>c | _=>0) hv;subst e1 e3;exact⟨w',cur,hrun,hh,by omega,hx⟩
theorem ZN (w:World) (kl kc:IntKind) (n:Nat) (hn:n*64<=281474976710656) :
  ∃ w' cs,(Instr.makeSlice 24 (.int kl n) (.int kc n)).run Tryz.prog w=.ok (.slice (some ⟨w.heap.size,0,none⟩) n n) w'/\w'.heap[w.heap.size]?=some (.cells cs 58 (0,0))/\cs.size=n*4/\Ext w w':=by
 obtain⟨i0,hi0,hz0,hz1,hz2⟩:=info_parts xw;obtain⟨w',hrun,hown,hgr⟩:=run_make_full (P:=Tryz.prog) w w.heap.size 24 58 i0 _ 4 Tryz.underlying24 hi0 hz0 hz1 kl kc n (by rw [hz2]; omega) (by unfold maxLen; omega) (q_r);have hx:=(Ext.refl w).grown hgr (fun k hk=>by cases hk)
 rcases hown.2 with ⟨h,_⟩ | ⟨g,cap,cur,hv,hg,hh,hnc,hcm,hcs,htk⟩
 ·cases h
 ·have e1:w.heap.size=g:=Option.some.inj (congrArg Value.ownBlock hv);have e3:n=cap:=congrArg (fun v:Value=>match v with | .slice _ _ c=>c | _=>0) hv;subst e1 e3;exact⟨w',cur,hrun,hh,hcs,hx⟩
theorem qV {ops:Array Oper} {rest:List Oper} {o:Oper} {a:Act} {Q:Exit->Act->World->Prop} (hg:o.guard=none) (l c:Operand) (hop:o.op=Op.makeSlice 23 l c)
  (kl kc:IntKind) (L C:Int) (n:Nat) (hl:a.eval l=.int kl L) (hc:a.eval c=.int kc C) (hL:L=(n:Int)) (hC:C=(n:Int)) (hn:n < 1000000)
  (hK:∀ w' cs,w'.heap[w.heap.size]?=some (.cells cs 24 (0,0))->cs.size=n->Ext w w'->wpList Tryz.prog ops Q rest (a.put o.dst (.slice (some ⟨w.heap.size,0,none⟩) n n)) w'):wpList Tryz.prog ops Q (o :: rest) a w:=by
 refine wpList_plain hg fun K hK'=>?_
 obtain⟨w',cs,hrun,r1,r2,r3⟩:=ZM w kl kc n (by omega);subst hL;subst hC;unfold Oper.wp;simp [execOp,hop,hl,hc,hrun,Result.andThen]
 exact hK' _ _ (hK w' cs r1 r2 r3)
theorem qK {ops:Array Oper} {rest:List Oper} {o:Oper} {a:Act} {Q:Exit->Act->World->Prop} (hg:o.guard=none) (l c:Operand) (hop:o.op=Op.makeSlice 24 l c)
  (kl kc:IntKind) (L C:Int) (n:Nat) (hl:a.eval l=.int kl L) (hc:a.eval c=.int kc C) (hL:L=(n:Int)) (hC:C=(n:Int)) (hn:n < 1000000)
  (hK:∀ w' cs,w'.heap[w.heap.size]?=some (.cells cs 58 (0,0))->cs.size=n*4->Ext w w'->wpList Tryz.prog ops Q rest (a.put o.dst (.slice (some ⟨w.heap.size,0,none⟩) n n)) w'):wpList Tryz.prog ops Q (o :: rest) a w:=by
 refine wpList_plain hg fun K hK'=>?_
 obtain⟨w',cs,hrun,r1,r2,r3⟩:=ZN w kl kc n (by omega);subst hL;subst hC;unfold Oper.wp;simp [execOp,hop,hl,hc,hrun,Result.andThen]
 exact hK' _ _ (hK w' cs r1 r2 r3)
theorem zu.more {h:Nat} {β κ:Nat->Nat} {A:Nat->Nat->Rat} (o:zu N lo hi w h k m n β κ A) (hm:m < k) {cap:Nat} {x:Nat->Rat} (hc:w.cell? ⟨h,m,none⟩=some (.slice (some ⟨b,0,none⟩) n cap)) (hr:zC N w b cap n x) (hb:hi<=b) (hcm:cap<=maxLen) :
  zu N lo w.heap.size w h k (m+1) n (fun i=>if i=m then b else β i) (fun i=>if i=m then cap else κ i) (xK A m x):=by
 obtain⟨hs,h1,h2,h3⟩:=o.hh;have hlt:=hr.lt;have hlo:=o.hlo;have hhi:=o.hhi;have his:=o.his;refine⟨o.le,⟨hs,h1,h2,fun i hi'=>?_⟩,by omega,hlo,by omega,q_r,fun i hi'=>?_,fun i hi'=>?_,fun i hi'=>?_,fun i hi'=>?_,fun i j hi' hj' hij=>?_⟩
 ·by_cases e:i=m
  ·subst e; rw [qx h1] at hc; rw [hc]; simp
  ·rw [h3 i (by omega)]; simp [e]
 ·by_cases e:i=m
  ·simp only [e,if_true]; omega
  ·simp only [e,if_false]; exact o.lo_ i (by omega)
 ·by_cases e:i=m
  ·simp only [e,if_true]; exact hlt
  ·simp only [e,if_false]; have:=o.hi_ i (by omega); omega
 ·by_cases e:i=m
  ·simp only [e,if_true]; exact hcm
  ·simp only [e,if_false]; exact o.cap i (by omega)
 ·by_cases e:i=m
  ·simp only [e,if_true]; rw [xJ]; exact hr
  ·simp only [e,if_false]; rw [Jh A x e]; exact o.row i (by omega)
 ·by_cases e:i=m
  ·have e2:j≠m:=by omega
   simp only [e,e2,if_true,if_false]; have:=o.hi_ j (by omega); omega
  ·by_cases e2:j=m
   ·simp only [e,e2,if_true,if_false]; have:=o.hi_ i (by omega); omega
   ·simp only [e,e2,if_false]; exact o.inj i j (by omega) (by omega) hij
theorem zu.start {h:Nat} {cs:Array Value} (hN:N<=lo) (hl:lo<=h) (hb:w.heap[h]?=some (.cells cs 24 (0,0))) (hk:cs.size=k) (A:Nat->Nat->Rat) (h1:h < hi) (h2:hi<=w.heap.size):zu N lo hi w h k 0 n (fun _=>0) (fun _=>0) A :=
 ⟨hN,⟨cs,hb,hk,fun i hi=>by omega⟩,by omega,hl,h1,h2,fun i hi=>by omega,fun i hi=>by omega,fun i hi=>by omega,fun i hi=>by omega,fun i j hi=>by omega⟩
theorem zu.setHead {h:Nat} {β κ:Nat->Nat} {A:Nat->Nat->Rat} (o:zu N lo hi w h k m n β κ A) {i:Nat} (hi':m<=i) (hik:i < k) (v:Value) :
  ∃ w',w.setCell ⟨h,i,none⟩ v=w'/\Chg h (h+1) w w'/\w'.heap.size=w.heap.size/\w'.cell? ⟨h,i,none⟩=some v/\zu N lo hi w' h k m n β κ A:=by
 obtain⟨hs,h1,h2,h3⟩:=o.hh;have b1:=heap_set h1 i v;have U:Upd h w (w.setCell ⟨h,i,none⟩ v):=(Upd.refl h w).set i v;have c:=U.chg o.noU;have hlo:=o.hlo;have hN:=o.le;refine⟨_,rfl,c,U.size,?_,o.le,⟨_,b1,by simp [h2],fun j hj=>?_⟩,o.mle,o.hlo,o.hhi,q_l o.his c.size,o.lo_,o.hi_,o.cap,fun j hj=>(o.row j hj).chg c (by omega) (by have:=o.ne hj; omega),o.inj⟩
 ·rw [qx b1,Array.getElem?_setIfInBounds_self_of_lt (by omega)]
 ·rw [Array.getElem?_setIfInBounds_ne (by omega)]; exact h3 j hj
theorem zu.hthere {h:Nat} {β κ:Nat->Nat} {A:Nat->Nat->Rat} (o:zu N lo hi w h k m n β κ A) {i:Nat} (hi':i < k):∃ u,w.cell? ⟨h,i,none⟩=some u:=by
 obtain⟨hs,h1,h2,-⟩:=o.hh;rw [qx h1]; exact⟨_,Array.getElem?_eq_getElem (by omega)⟩
theorem Ky (hN:N<=w.heap.size) (m n:Nat) {M' N':Int} (hM':M'=(m:Int)) (hN':N'=(n:Int)) (hm:m < 1000000) (hn:n < 1000000) (X:Nat->Nat->Rat) {gb:Nat}
  (hf:∀ i,i < m->∀ j,j < n->∀ w',Ext w w'->Calls Tryz.prog 242 #[.int .i64 (i:Int),.int .i64 (j:Int),.pointer (some ⟨gb,0,none⟩)] w' (jm N w' (X i j))) :
  Calls Tryz.prog 136 #[.int .i64 M',.int .i64 N',.func (.func 242) #[] #[.pointer (some ⟨gb,0,none⟩)]] w (kU N w m n X):=by
 subst hM' hN';have HF:=q_h hf;clear hf;go_enter Tryz.func136,Tryz.ntmps136;go_wp2_with (at_make; refine q_o ?_);refine qV rfl _ _ rfl .i64 .i64 _ _ m rfl rfl rfl rfl hm ?_;intro w1 cs B0 hcs e1;have ho:zu N w.heap.size w1.heap.size w1 w.heap.size m 0 n (fun _=>0) (fun _=>0) X:=zu.start hN (q_r) B0 hcs X (qG B0) (q_r);have hs1:w.heap.size < w1.heap.size:=qG B0;clear B0;have HCS:=q_h hcs;clear hcs;go_wp2
 go_loopw [14] (fun i wr=>∃ k:Nat,k<=m/\i=.int .i64 k/\Ext w wr/\∃ β κ,zu N w.heap.size wr.heap.size wr w.heap.size m k n β κ X) (fun i _=>m - (intOf i).toNat)
 case atStart=>exact⟨0,Nat.zero_le _,rfl,e1,_,_,ho⟩
 case round =>
  clear ho e1;obtain⟨k,hk,rfl,hE,β,κ,ho⟩:=hrel;have hsr:w.heap.size < wr.heap.size:=by have:=ho.hhi; omega
  by_cases hlt:k < m
  ·go_wp2_with (at_make; refine q_o ?_);refine qK rfl _ _ rfl .i64 .i64 _ _ n rfl rfl rfl rfl hn ?_;intro w2 cs2 B2 hcs2 e2;have ho2:=ho.ext e2;have hR:zC N w2 wr.heap.size n 0 (X k):=⟨by omega,Nat.zero_le _,⟨cs2,B2,hcs2⟩,fun j hj=>by omega⟩
   obtain⟨u0,z0⟩:=ho2.hthere hlt;have z1:=ho2.hfrozen k;have hs2:wr.heap.size < w2.heap.size:=qG B2;have HCS2:=q_h hcs2;clear B2 hcs2 ho;go_upto_region 6 with (fail);obtain⟨w3,E3,C3,hs3,y0,ho3⟩:=ho2.setHead (Nat.le_refl k) hlt (.slice (some ⟨wr.heap.size,0,none⟩) n n);rw [E3];replace hE:=C3.ext (hE.trans e2) (q_r);replace hR:=hR.chg C3 (by omega) (by omega);have hs4:wr.heap.size < w3.heap.size:=by omega
   generalize hgr:wr.heap.size=gr at *
   clear hgr E3 C3 hs3 ho2 z0 z1 e2 hs2;have Y0:=y0;go_wp2
   go_loopw [27] (fun i ws=>∃ j:Nat,j<=n/\i=.int .i64 j/\Ext w ws/\gr < ws.heap.size/\ws.cell? ⟨w.heap.size,k,none⟩=some (.slice (some ⟨gr,0,none⟩) n n)/\zu N w.heap.size gr ws w.heap.size m k n β κ X/\zC N ws gr n j (X k)) (fun i _=>n - (intOf i).toNat)
   case atStart=>exact⟨0,Nat.zero_le _,rfl,hE,hs4,y0,ho3,hR⟩
   case round =>
    clear hE y0 ho3 hR hs4 Y0;obtain⟨j,hj,rfl,hE,hs4,y0,ho3,hR⟩:=hrel
    by_cases hlt':j < n
    ·go_upto_region 9 with (fail);have eC:=(Ext.refl wr).drew;refine qm (fun w'=>w'.cell? ⟨w.heap.size,k,none⟩=some (.slice (some ⟨gr,0,none⟩) n n)) [10] (by kernel_rfl) (by exact eC.cell y0) (fun hHeld=>?_);refine sP 0 (h:=?_);try simp only [nr]
     refine sP 1 (h:=?_);try simp only [nr]
     refine sP 2 (h:=?_);try simp only [nr]
     refine sT 3 (h:=?_);try simp only [nr]
     refine sP 4 (h:=?_);try simp only [nr]
     refine sP 5 (h:=?_);try simp only [nr]
     refine sP 6 (h:=?_);try simp only [nr]
     refine sP 7 (h:=?_);try simp only [nr]
     refine qj (i:=8) rfl (by kernel_rfl) (fun K hK=>?_);go_simp;refine (HF.out k hlt j hlt' _ (hE.trans eC)).mono ?_;intro e w5 hh;obtain⟨b9,A9,k9,c9,A10,k10,c10,rfl,hb9,g9,g10,e5⟩:=hh.form;replace eC:=eC.trans e5;have hR5:=hR.ext eC;obtain⟨x0,v0⟩:=hR5.there (o:=j*4) (by omega);obtain⟨x1,v1⟩:=hR5.there (o:=j*4+1) (by omega);obtain⟨x2,v2⟩:=hR5.there (o:=j*4+2) (by omega);obtain⟨x3,v3⟩:=hR5.there (o:=j*4+3) (by omega);have f0:=hR5.frozen (j*4);have f1:=hR5.frozen (j*4+1);have f2:=hR5.frozen (j*4+2);have f3:=hR5.frozen (j*4+3);go_wp2_with fail;clear hHeld;refine hK.out _ _ (by exact eC.cell y0) fun hHeld=>?_
     clear hK K;try simp only [nr]
     refine sP 9 (h:=?_);try simp only [nr]
     refine ql (i:=10) rfl (by kernel_rfl) (by kernel_rfl) (fun K hK=>?_);go_simp;refine hK.out _ _ ?_;clear hK K;try simp only [nr]
     refine qh (by kernel_rfl) ?_ _;clear hHeld;obtain⟨w6,E6,C6,hs6,hr6⟩:=hR5.set (i:=j) (q:=X k j) hlt' (q_r) hb9 g9 g10;rw [E6];replace hE:=C6.ext (hE.trans eC) (by omega);replace ho3:=(ho3.ext eC).chg C6 (by omega) (.inl (q_r));replace y0:=C6.cell (p:=⟨w.heap.size,k,none⟩) (eC.cell y0) (.inl (by simp only; omega));have hr7:=(hr6.less (n':=j+1) (by omega)).congr (y:=X k) (fun c hc=>by unfold upd; split; (rename_i e; rw [e]); rfl);have hs7:gr < w6.heap.size:=by have:=eC.size; omega
     clear E6 C6 hs6 hr6 hR hR5 v0 v1 v2 v3 f0 f1 f2 f3;go_wp2;go_roundw
     case rel=>exact⟨j+1,by omega,by go_num,hE,hs7,y0,ho3,hr7⟩
     case measure=>simp [intOf]; omega
    ·obtain rfl:j=n:=by omega
     have ho4:=(ho3.more hlt y0 hR (q_r) (by unfold maxLen; omega)).congr (B:=X) (fun i _ c _=>by unfold xK; split; (rename_i e; rw [e]); rfl);go_wp2;go_roundw
     case rel=>exact⟨k+1,by omega,by go_num,hE,_,_,ho4⟩
     case measure=>simp [intOf]; omega
  ·obtain rfl:k=m:=by omega
   go_wp2;go_ret;exact⟨_,_,β,κ,rfl,by unfold maxLen; omega,ho,hE⟩
theorem JE (hN:N<=w.heap.size) (m n:Nat) {M' N':Int} (hM':M'=(m:Int)) (hN':N'=(n:Int)) (hm:m < 1000000) (hn:n < 1000000) (X:Nat->Nat->Rat)
  (hf:∀ i,i < m->∀ j,j < n->∀ w',Ext w w'->Calls Tryz.prog 137 #[.int .i64 (i:Int),.int .i64 (j:Int)] w' (jm N w' (X i j))) :
  Calls Tryz.prog 136 #[.int .i64 M',.int .i64 N',.func (.func 137) #[] #[]] w (kU N w m n X):=by
 subst hM' hN';have HF:=q_h hf;clear hf;go_enter Tryz.func136,Tryz.ntmps136;go_wp2_with (at_make; refine q_o ?_);refine qV rfl _ _ rfl .i64 .i64 _ _ m rfl rfl rfl rfl hm ?_;intro w1 cs B0 hcs e1;have ho:zu N w.heap.size w1.heap.size w1 w.heap.size m 0 n (fun _=>0) (fun _=>0) X:=zu.start hN (q_r) B0 hcs X (qG B0) (q_r);have hs1:w.heap.size < w1.heap.size:=qG B0;clear B0;have HCS:=q_h hcs;clear hcs;go_wp2
 go_loopw [14] (fun i wr=>∃ k:Nat,k<=m/\i=.int .i64 k/\Ext w wr/\∃ β κ,zu N w.heap.size wr.heap.size wr w.heap.size m k n β κ X) (fun i _=>m - (intOf i).toNat)
 case atStart=>exact⟨0,Nat.zero_le _,rfl,e1,_,_,ho⟩
 case round =>
  clear ho e1;obtain⟨k,hk,rfl,hE,β,κ,ho⟩:=hrel;have hsr:w.heap.size < wr.heap.size:=by have:=ho.hhi; omega
  by_cases hlt:k < m
  ·go_wp2_with (at_make; refine q_o ?_);refine qK rfl _ _ rfl .i64 .i64 _ _ n rfl rfl rfl rfl hn ?_;intro w2 cs2 B2 hcs2 e2;have ho2:=ho.ext e2;have hR:zC N w2 wr.heap.size n 0 (X k):=⟨by omega,Nat.zero_le _,⟨cs2,B2,hcs2⟩,fun j hj=>by omega⟩
   obtain⟨u0,z0⟩:=ho2.hthere hlt;have z1:=ho2.hfrozen k;have hs2:wr.heap.size < w2.heap.size:=qG B2;have HCS2:=q_h hcs2;clear B2 hcs2 ho;go_upto_region 6 with (fail);obtain⟨w3,E3,C3,hs3,y0,ho3⟩:=ho2.setHead (Nat.le_refl k) hlt (.slice (some ⟨wr.heap.size,0,none⟩) n n);rw [E3];replace hE:=C3.ext (hE.trans e2) (q_r);replace hR:=hR.chg C3 (by omega) (by omega);have hs4:wr.heap.size < w3.heap.size:=by omega
   generalize hgr:wr.heap.size=gr at *
   clear hgr E3 C3 hs3 ho2 z0 z1 e2 hs2;have Y0:=y0;go_wp2
   go_loopw [27] (fun i ws=>∃ j:Nat,j<=n/\i=.int .i64 j/\Ext w ws/\gr < ws.heap.size/\ws.cell? ⟨w.heap.size,k,none⟩=some (.slice (some ⟨gr,0,none⟩) n n)/\zu N w.heap.size gr ws w.heap.size m k n β κ X/\zC N ws gr n j (X k)) (fun i _=>n - (intOf i).toNat)
   case atStart=>exact⟨0,Nat.zero_le _,rfl,hE,hs4,y0,ho3,hR⟩
   case round =>
    clear hE y0 ho3 hR hs4 Y0;obtain⟨j,hj,rfl,hE,hs4,y0,ho3,hR⟩:=hrel
    by_cases hlt':j < n
    ·go_upto_region 9 with (fail);have eC:=(Ext.refl wr).drew;refine qm (fun w'=>w'.cell? ⟨w.heap.size,k,none⟩=some (.slice (some ⟨gr,0,none⟩) n n)) [10] (by kernel_rfl) (by exact eC.cell y0) (fun hHeld=>?_);refine sP 0 (h:=?_);try simp only [nr]
     refine sP 1 (h:=?_);try simp only [nr]
     refine sP 2 (h:=?_);try simp only [nr]
     refine sT 3 (h:=?_);try simp only [nr]
     refine sP 4 (h:=?_);try simp only [nr]
     refine sP 5 (h:=?_);try simp only [nr]
     refine sP 6 (h:=?_);try simp only [nr]
     refine sP 7 (h:=?_);try simp only [nr]
     refine qj (i:=8) rfl (by kernel_rfl) (fun K hK=>?_);go_simp;refine (HF.out k hlt j hlt' _ (hE.trans eC)).mono ?_;intro e w5 hh;obtain⟨b9,A9,k9,c9,A10,k10,c10,rfl,hb9,g9,g10,e5⟩:=hh.form;replace eC:=eC.trans e5;have hR5:=hR.ext eC;obtain⟨x0,v0⟩:=hR5.there (o:=j*4) (by omega);obtain⟨x1,v1⟩:=hR5.there (o:=j*4+1) (by omega);obtain⟨x2,v2⟩:=hR5.there (o:=j*4+2) (by omega);obtain⟨x3,v3⟩:=hR5.there (o:=j*4+3) (by omega);have f0:=hR5.frozen (j*4);have f1:=hR5.frozen (j*4+1);have f2:=hR5.frozen (j*4+2);have f3:=hR5.frozen (j*4+3);go_wp2_with fail;clear hHeld;refine hK.out _ _ (by exact eC.cell y0) fun hHeld=>?_
     clear hK K;try simp only [nr]
     refine sP 9 (h:=?_);try simp only [nr]
     refine ql (i:=10) rfl (by kernel_rfl) (by kernel_rfl) (fun K hK=>?_);go_simp;refine hK.out _ _ ?_;clear hK K;try simp only [nr]
     refine qh (by kernel_rfl) ?_ _;clear hHeld;obtain⟨w6,E6,C6,hs6,hr6⟩:=hR5.set (i:=j) (q:=X k j) hlt' (q_r) hb9 g9 g10;rw [E6];replace hE:=C6.ext (hE.trans eC) (by omega);replace ho3:=(ho3.ext eC).chg C6 (by omega) (.inl (q_r));replace y0:=C6.cell (p:=⟨w.heap.size,k,none⟩) (eC.cell y0) (.inl (by simp only; omega));have hr7:=(hr6.less (n':=j+1) (by omega)).congr (y:=X k) (fun c hc=>by unfold upd; split; (rename_i e; rw [e]); rfl);have hs7:gr < w6.heap.size:=by have:=eC.size; omega
     clear E6 C6 hs6 hr6 hR hR5 v0 v1 v2 v3 f0 f1 f2 f3;go_wp2;go_roundw
     case rel=>exact⟨j+1,by omega,by go_num,hE,hs7,y0,ho3,hr7⟩
     case measure=>simp [intOf]; omega
    ·obtain rfl:j=n:=by omega
     have ho4:=(ho3.more hlt y0 hR (q_r) (by unfold maxLen; omega)).congr (B:=X) (fun i _ c _=>by unfold xK; split; (rename_i e; rw [e]); rfl);go_wp2;go_roundw
     case rel=>exact⟨k+1,by omega,by go_num,hE,_,_,ho4⟩
     case measure=>simp [intOf]; omega
  ·obtain rfl:k=m:=by omega
   go_wp2;go_ret;exact⟨_,_,β,κ,rfl,by unfold maxLen; omega,ho,hE⟩
theorem q0g {gb:Nat} {X:Nat->Nat->Rat} (hb:w.cell? ⟨gb,0,none⟩=some (.slice A m c)) (h:MtV N lo hi w (.slice A m c) m n X) {i:Nat} (hi':i < m) (hj:j < n) (hm:m < 1000000) (hn:n < 1000000) :
  Calls Tryz.prog 242 #[.int .i64 (i:Int),.int .i64 (j:Int),.pointer (some ⟨gb,0,none⟩)] w (jm N w (X i j)):=by
 have hN:=h.le;obtain⟨b,off,rfl,-,-,hx⟩:=h.addr (by omega);obtain⟨A1,c1,p0,-,-,hl⟩:=hx i hi';obtain⟨b2,off2,rfl,-,-,hx⟩:=hl.addr (by omega);obtain⟨n1,A3,k3,c3,A4,k4,c4,q0,q1,q2,q3,hb1,g1,g2⟩:=(hx j hj).open;have l0:=cell_lt hb;have l1:=cell_lt p0;have l2:=cell_lt q0;simp only at l0 l1 l2;obtain⟨q,hq⟩:=qc (X i j);rw [<-hq.out] at hb1 g1 g2 ⊢;clear hx hl h;go_enter Tryz.func242,Tryz.ntmps242;go_wp2;have eA:=(Ext.refl w).alloc (Obj.cells #[Value.bool n1,Value.slice A3 k3 c3,Value.bool false,Value.slice A4 k4 c4] 58);exact Ql rfl rfl rfl eA (kW.mk (heap_alloc_new w _) hb1 (g1.ext eA) (g2.ext eA))
theorem q5a (hN:N<=w.heap.size) (i j:Nat) (hi:i < 1000000) (hj:j < 1000000) :
  Calls Tryz.prog 137 #[.int .i64 (i:Int),.int .i64 (j:Int)] w (jm N w (dlt i j)):=by
 go_enter Tryz.func137,Tryz.ntmps137
 by_cases hij:i=j
 ·subst hij;rw [kw];go_wp2_with (go_at_call 109; refine q_o ?_);refine qJ ?_;intro W hE hsz B0;refine (f_whole (N:=N) (by have:=hE.size; omega) 1 (by omega) (by omega)).mono ?_;intro e w1 hh;obtain⟨b1,A1,k1,c1,A2,k2,c2,rfl,hb1,g1,g2,e1⟩:=hh.form;have B1:=e1.block B0;obtain⟨r0,r1,r2,r3,r4,r5,r6,r7⟩:=cells4 B1;go_wp2;exact zo (q:=1) rfl rfl rfl (hE.trans e1) B1 (by omega) hN g1 g2 hb1
 ·have hne:((i:Int) == (j:Int))=false:=beq_eq_false_iff_ne.2 (by omega);rw [zZ hij];go_wp2_with (go_at_call 109; refine q_o ?_);refine qJ ?_;intro W hE hsz B0;refine (f_whole (N:=N) (by have:=hE.size; omega) 0 (by omega) (by omega)).mono ?_;intro e w1 hh;obtain⟨b1,A1,k1,c1,A2,k2,c2,rfl,hb1,g1,g2,e1⟩:=hh.form;have B1:=e1.block B0;obtain⟨r0,r1,r2,r3,r4,r5,r6,r7⟩:=cells4 B1;go_wp2;exact zo (q:=0) rfl rfl rfl (hE.trans e1) B1 (by omega) hN g1 g2 hb1
end Go.Proofs.YtfmddpahhloleaaGreat
