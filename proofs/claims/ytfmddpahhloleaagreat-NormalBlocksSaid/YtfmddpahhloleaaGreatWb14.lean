import Derived.Test.YtfmddpahhloleaaGreatWb13
set_option linter.all false
set_option maxHeartbeats 8000000
namespace Go.Proofs.YtfmddpahhloleaaGreat
open Go.RowKit
variable {w:World} {N lo hi g m:Nat} {v:Value} {R:Raw}
theorem xg {L:Nat->Nat} {R:Nat->Nat->Raw} (h:MtR N lo hi w v m L R) (hs:∀ i,i < m->∀ j,j < L i->xW (R i j)) :
  Calls Tryz.prog 115 #[v] w (zL w (.bool (allB m (fun i=>allB (L i) (fun j=>okR (R i j)))))):=by
 obtain⟨r,hr⟩:=qc (allB m (fun i=>allB (L i) (fun j=>okR (R i j))));rw [<-hr.out];obtain⟨A,c,rfl,hnc,hcm⟩:=h.form;unfold maxLen at hcm;have hI:=h;have HS:=q_h hs;clear h hs;go_enter Tryz.func115,Tryz.ntmps115;go_wp2
 go_loopw [7] (fun i wr=>∃ k:Nat,k<=m/\i=.int .i64 k/\Hid (∀ j,j < k->allB (L j) (fun t=>okR (R j t))=true)/\Ext w wr) (fun i _=>m - (intOf i).toNat)
 case atStart=>exact⟨0,Nat.zero_le _,rfl,fun j hj=>absurd hj (by omega),Ext.refl w⟩
 case round =>
  obtain⟨k,hk,rfl,HA,hE⟩:=hrel
  by_cases hlt:k < m
  ·obtain⟨b,off,rfl,-,-,hx⟩:=(hI.ext hE).addr (by omega);obtain⟨A1,c1,p0,-,-,hv⟩:=hx k hlt;obtain⟨Lk,hLk⟩:=qc (L k);rw [<-hLk.out] at p0 hv;clear hx;go_wp2_with (go_at_call 126; refine q_o ?_);refine (Wp hv (fun j=>!okR (R k j)) (fun i hi w' u e hu=>q1Y hu (HS.out k hlt i (by rw [<-hLk.out]; exact hi)))).mono ?_;rintro e w1 ⟨rfl,e1⟩;replace hE:=hE.trans e1;obtain⟨o,ho⟩:=qc (jk Lk (fun j=>!okR (R k j)));have HO:Hid (allB (L k) (fun j=>okR (R k j))=!o):=by rw [Hid,ho.out,X8,hLk.out]
   rw [<-ho.out];cases o with
   | false =>
    go_wp2;go_roundw
    case rel=>exact⟨k+1,by omega,by go_num,zF (p:=fun j=>allB (L j) (fun t=>okR (R j t))=true) HA.out HO.out,hE⟩
    case measure=>simp [intOf]; omega
   | true =>
    have HF:Hid (r=false):=by rw [Hid,hr.out]; exact qL hlt HO.out
    go_wp2;go_ret;exact⟨qw HF.out.symm,hE⟩
  ·have HF:Hid (r=true):=by rw [Hid,hr.out]; exact qg.2 (fun j hj=>HA.out j (by omega))
   go_wp2;go_ret;exact⟨qw HF.out.symm,hE⟩
def q0R (Z:Lin):Bool:=allB Z.m (fun i=>allB (Z.L i) (fun j=>okR (Z.A i j)))
def jK (Z:Lin):Bool:=q0R Z && (allB Z.nl (fun i=>okR (Z.l i)) && allB Z.np (fun i=>okR (Z.p i)))
def zW (Z:Lin):Bool:=decide (1<=Z.m) && decide (Z.m<=64) && (decide (1<=Z.L 0) && decide (Z.L 0<=24))
def JV (Z:Lin):Bool:=allB Z.m (fun i=>decide (Z.L i=Z.L 0))
def vJ (Z:Lin):Bool:=JV Z && (decide (Z.nl=Z.m) && decide (Z.np=Z.m))
def QF (R:Raw):Bool:=decide (0 < jZ R.b1 R.l1)
def codeOf (Z:Lin):Int:=if jK Z=false then 1 else if zW Z=false then 3 else if vJ Z=false then 4 else if allB Z.np (fun i=>QF (Z.p i))=false then 2 else 0
def q1h (Z:Lin):Prop:=(∀ i,i < Z.m->∀ j,j < Z.L i->xW (Z.A i j))/\(∀ i,i < Z.nl->xW (Z.l i))/\(∀ i,i < Z.np->xW (Z.p i))
theorem q1r {s1 s2:Value} {n1 n2:Nat} {R1 R2:Nat->Raw} (h1:LsR N lo hi w s1 n1 R1) (h2:LsR N lo hi w s2 n2 R2) (hg:w.heap[g]?=some (.cells #[s1,s2] 24 (0,0))) :
  MtR N 0 w.heap.size w (.slice (some ⟨g,0,none⟩) 2 2) 2 (fun i=>if i=0 then n1 else n2) (fun i=>if i=0 then R1 else R2):=by
 have hl:=qG hg;obtain⟨c0,c1,-⟩:=cells2 hg;refine⟨h1.le,q_r,_,2,rfl,q_r,by unfold maxLen; omega,fun _=>⟨g,0,rfl,Nat.zero_le _,hl,fun i hi=>?_⟩⟩;have hi':i=0\/i=1:=by omega
 rcases hi' with rfl | rfl
 ·exact⟨s1,c0,h1.wide (Nat.zero_le _) (by have:=h1.2.1; omega) (q_r)⟩
 ·exact⟨s2,c1,h2.wide (Nat.zero_le _) (by have:=h2.2.1; omega) (q_r)⟩
theorem Yf (h:jM N w v R) (hk:okR R=true):∃ q:Rat,R=raw q/\qY N w v q:=by
 obtain⟨q,rfl⟩:=Ym hk;exact⟨q,rfl,h⟩
theorem jR (q:Rat):QF (raw q)=decide (0 < q.num):=by unfold QF raw; rw [vN]
def q61 (R:Raw):Prop:=R.l1.length<=1000000000/\R.l2.length<=1000000000
theorem QL {Z:Lin} (h:q1p N lo hi w v Z) (hs:q1h Z) (hp:∀ i,i < Z.np->q61 (Z.p i)) :
  Calls Tryz.prog 52 #[v] w (zL w (.int .i64 (codeOf Z))):=by
 obtain⟨r,hr⟩:=qc (codeOf Z);rw [<-hr.out];obtain⟨A1,c1,A2,c2,A3,c3,rfl,h1,h2,h3,hm,hnl,hnp⟩:=h.parts;obtain⟨m,L,A,nl,l,np,p⟩:=Z
 dsimp only at h1 h2 h3 hm hnl hnp ⊢
 have HS:=q_h hs;have HP:=q_h hp;have HR:Hid (r=if jK ⟨m,L,A,nl,l,np,p⟩=false then 1 else if zW ⟨m,L,A,nl,l,np,p⟩=false then 3 else if vJ ⟨m,L,A,nl,l,np,p⟩=false then 4 else if allB np (fun i=>QF (p i))=false then 2 else 0):=hr;clear h hr hs hp;obtain⟨s1,hs1⟩:=qc (allB m (fun i=>allB (L i) (fun j=>okR (A i j))));obtain⟨s2,hs2⟩:=qc (allB nl (fun i=>okR (l i)) && allB np (fun i=>okR (p i)));have HCA:Hid (jK ⟨m,L,A,nl,l,np,p⟩=(s1 && s2)):=by rw [hs1.out,hs2.out]; rfl
 go_enter Tryz.func52,Tryz.ntmps52;go_wp2_with (go_at_call 115; refine q_o ?_);refine qJ ?_;intro W hE hsz B0;refine (xg (h1.ext hE) HS.out.1).mono ?_;rintro e w1 ⟨rfl,e1⟩;rw [<-hs1.out];replace hE:=hE.trans e1;replace B0:=e1.block B0;replace hsz:=q_l hsz e1.size;obtain⟨a0,a1,a2,-⟩:=cells3 B0;cases hs1':s1 with
 | false =>
  subst hs1';have HF:Hid (r=1):=by rw [Hid,HR.out,HCA.out]; rfl
  go_wp2;go_ret;exact⟨qB HF.out.symm,hE⟩
 | true =>
  subst hs1';go_wp2_with (go_at_call 115; refine q_o ?_);refine qJ ?_;intro W2 e2 hsz2 B2;replace hE:=hE.trans e2;replace B0:=e2.block B0;refine (xg (q1r (h2.ext hE) (h3.ext hE) B2) (fun i hi j hj=>?_)).mono ?_
  ·have hi':i=0\/i=1:=by omega
   rcases hi' with rfl | rfl
   ·exact HS.out.2.1 j hj
   ·exact HS.out.2.2 j hj
  rintro e w3 ⟨rfl,e3⟩
  have HT:Hid (allB 2 (fun i=>allB (if i=0 then nl else np) (fun j=>okR ((if i=0 then l else p) j)))=s2):=by
   rw [Hid,hs2.out]; unfold allB; simp [List.range_succ]
  rw [HT.out];replace hE:=hE.trans e3;replace B0:=e3.block B0;clear a0 a1 a2;obtain⟨a0,a1,a2,-⟩:=cells3 B0;cases hs2':s2 with
  | false =>
   subst hs2';have HF:Hid (r=1):=by rw [Hid,HR.out,HCA.out]; rfl
   go_wp2;go_ret;exact⟨qB HF.out.symm,hE⟩
  | true =>
   subst hs2';have HR2:Hid (r=if zW ⟨m,L,A,nl,l,np,p⟩=false then 3 else if vJ ⟨m,L,A,nl,l,np,p⟩=false then 4 else if allB np (fun i=>QF (p i))=false then 2 else 0):=by rw [Hid,HR.out,HCA.out]; rfl
   have HOKP:Hid (∀ i,i < np->okR (p i)=true):=by
    have:=hs2.out; symm at this; rw [Bool.and_eq_true] at this; exact qg.1 this.2
   clear HR HT hsz2
   by_cases hm1:1<=m
   ·by_cases hm2:m<=64
    ·have h1':=h1.ext hE;obtain⟨b,off,rfl,-,-,hx⟩:=h1'.addr (by omega);obtain⟨AL,cL,p0,hLc,hcL,-⟩:=hx 0 (by omega);rw [Nat.add_zero] at p0;obtain⟨L0,hL0⟩:=qc (L 0);rw [<-hL0.out] at p0 hLc;unfold maxLen at hcL;have hbl:b < w3.heap.size:=cell_lt p0
     by_cases hL1:1<=L0
     ·by_cases hL2:L0<=24
      ·have HR3:Hid (r=if vJ ⟨m,L,A,nl,l,np,p⟩=false then 4 else if allB np (fun i=>QF (p i))=false then 2 else 0):=by
        have:zW ⟨m,L,A,nl,l,np,p⟩=true:=by
         unfold zW; simp only [Bool.and_eq_true,decide_eq_true_eq]; have:=hL0.out; omega
        rw [Hid,HR2.out,this]; rfl
       clear hx HR2;go_wp2
       go_loop [49] (fun i=>∃ k:Nat,k<=m/\i=.int .i64 k/\Hid (∀ j,j < k->L j=L 0)) (fun i=>m - (intOf i).toNat)
       case atStart=>exact⟨0,Nat.zero_le _,rfl,fun j hj=>absurd hj (by omega)⟩
       case round =>
        obtain⟨k,hk,rfl,HA⟩:=hrel
        by_cases hlt:k < m
        ·obtain⟨b',off',hA,-,-,hx⟩:=h1'.addr (by omega);obtain⟨rfl,rfl⟩:b=b'/\off=off':=by injection hA with hA; injection hA with e1 e2; exact⟨e1,e2⟩
         obtain⟨Ak,ck,q0,hkc,hck,-⟩:=hx k hlt;obtain⟨Lk,hLk⟩:=qc (L k);rw [<-hLk.out] at q0 hkc;unfold maxLen at hck;clear hx hA
         by_cases heq:Lk=L0
         ·subst heq;have heq1:((Lk:Int) != (Lk:Int))=false:=by simp
          go_wp2
          go_round
          case rel=>exact⟨k+1,by omega,by go_num,zF (p:=fun j=>L j=L 0) HA.out (by rw [<-hLk.out,hL0.out])⟩
          case measure=>simp [intOf]; omega
         ·have HF:Hid (r=4):=by
           have h9:vJ ⟨m,L,A,nl,l,np,p⟩=false:=by
            have:JV ⟨m,L,A,nl,l,np,p⟩=false:=qL (i:=k) hlt (by simp only [decide_eq_false_iff_not]; rw [<-hLk.out,<-hL0.out]; exact heq);unfold vJ; rw [this]; rfl
           rw [Hid,HR3.out,h9]; rfl
          have hne:((Lk:Int) == (L0:Int))=false:=beq_eq_false_iff_ne.2 (by omega);have hne1:((Lk:Int) != (L0:Int))=true:=by rw [bne_iff_ne]; omega
          go_wp2;go_ret;exact⟨qB HF.out.symm,hE⟩
        ·have HE:Hid (JV ⟨m,L,A,nl,l,np,p⟩=true):=qg.2 (fun j hj=>by simp only [decide_eq_true_eq]; exact HA.out j (by have:j < m:=hj; omega));clear HA
         by_cases hnlm:nl=m
         ·by_cases hnpm:np=m
          ·have HR4:Hid (r=if allB np (fun i=>QF (p i))=false then 2 else 0):=by
            have:vJ ⟨m,L,A,nl,l,np,p⟩=true:=by unfold vJ; rw [HE.out]; simp [hnlm,hnpm]
            rw [Hid,HR3.out,this]; rfl
           have t1:((nl:Int) != (m:Int))=false:=by rw [hnlm]; simp
           have t2:((np:Int) != (m:Int))=false:=by rw [hnpm]; simp
           clear HR3 hnlm hnpm;go_wp2
           go_loopw [81] (fun i wr=>∃ k:Nat,k<=np/\i=.int .i64 k/\Hid (∀ j,j < k->QF (p j)=true)/\Ext w wr) (fun i _=>np - (intOf i).toNat)
           case atStart=>exact⟨0,Nat.zero_le _,rfl,fun j hj=>absurd hj (by omega),hE⟩
           case round =>
            clear hE p0 a0 a1 a2 B0 hbl h1';obtain⟨k,hk,rfl,HA,hE⟩:=hrel
            by_cases hlt:k < np
            ·obtain⟨b2,off2,rfl,-,-,hx⟩:=(h3.ext hE).addr (by omega);obtain⟨A4,n4,c4,A5,n5,c5,q0,q1,q2,q3,hv⟩:=(hx k hlt).val;obtain⟨q,hq,hvq⟩:=Yf hv (HOKP.out k hlt);obtain⟨s,hs⟩:=qc q.num.sign;have HZ:Hid (Sz q):=by have:=HP.out k hlt; rw [hq] at this; exact this
             have HQ:=q_h hq;clear hx hq hv;go_wp2_with (go_at_call 124; refine q_o ?_);refine qJ ?_;intro W4 e4 hsz4 B4;refine (yY (hvq.ext e4) HZ.out).mono ?_;rintro e w5 ⟨rfl,e5⟩;rw [<-hs.out];replace hE:=(hE.trans e4).trans e5;clear q0 q1 q2 q3 B4 e4 e5 hvq
             by_cases hpos:0 < s
             ·have HPk:Hid (QF (p k)=true):=by
               rw [Hid,HQ.out,jR,decide_eq_true_eq];rw [hs.out] at hpos;exact Int.sign_pos_iff.1 hpos
              clear hs;go_wp2;go_roundw
              case rel=>exact⟨k+1,by omega,by go_num,zF (p:=fun j=>QF (p j)=true) HA.out HPk.out,hE⟩
              case measure=>simp [intOf]; omega
             ·have HF:Hid (r=2):=by
               have h9:QF (p k)=false:=by
                rw [HQ.out,jR,decide_eq_false_iff_not];rw [hs.out] at hpos;intro h8; exact hpos (Int.sign_pos_iff.2 h8)
               rw [Hid,HR4.out,qL hlt h9]; rfl
              clear hs;go_wp2;go_ret;exact⟨qB HF.out.symm,hE⟩
            ·have HF:Hid (r=0):=by
              rw [Hid,HR4.out,qg.2 (fun j hj=>HA.out j (by omega))]; rfl
             go_wp2;go_ret;exact⟨qB HF.out.symm,hE⟩
          ·have HF:Hid (r=4):=by
            have:vJ ⟨m,L,A,nl,l,np,p⟩=false:=by unfold vJ; simp [hnpm]
            rw [Hid,HR3.out,this]; rfl
           have t1:((nl:Int) != (m:Int))=false:=by rw [hnlm]; simp
           have t2:((np:Int) != (m:Int))=true:=by rw [bne_iff_ne]; omega
           clear hnlm hnpm;go_wp2;go_ret;exact⟨qB HF.out.symm,hE⟩
         ·have HF:Hid (r=4):=by
           have:vJ ⟨m,L,A,nl,l,np,p⟩=false:=by unfold vJ; simp [hnlm]
           rw [Hid,HR3.out,this]; rfl
          have t1:((nl:Int) != (m:Int))=true:=by rw [bne_iff_ne]; omega
          clear hnlm;go_wp2;go_ret;exact⟨qB HF.out.symm,hE⟩
      ·have HF:Hid (r=3):=by
        have:zW ⟨m,L,A,nl,l,np,p⟩=false:=by
         unfold zW; simp only [Bool.and_eq_false_iff,decide_eq_false_iff_not]; have:=hL0.out; omega
        rw [Hid,HR2.out,this]; rfl
       go_wp2;go_ret;exact⟨qB HF.out.symm,hE⟩
     ·have HF:Hid (r=3):=by
       have:zW ⟨m,L,A,nl,l,np,p⟩=false:=by
        unfold zW; simp only [Bool.and_eq_false_iff,decide_eq_false_iff_not]; have:=hL0.out; omega
       rw [Hid,HR2.out,this]; rfl
      go_wp2;go_ret;exact⟨qB HF.out.symm,hE⟩
    ·have HF:Hid (r=3):=by
      have:zW ⟨m,L,A,nl,l,np,p⟩=false:=by
       unfold zW; simp only [Bool.and_eq_false_iff,decide_eq_false_iff_not]; omega
      rw [Hid,HR2.out,this]; rfl
     go_wp2;go_ret;exact⟨qB HF.out.symm,hE⟩
   ·have HF:Hid (r=3):=by
     have:zW ⟨m,L,A,nl,l,np,p⟩=false:=by
      unfold zW; simp only [Bool.and_eq_false_iff,decide_eq_false_iff_not]; omega
     rw [Hid,HR2.out,this]; rfl
    go_wp2;go_ret;exact⟨qB HF.out.symm,hE⟩
end Go.Proofs.YtfmddpahhloleaaGreat
