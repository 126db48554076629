import Derived.Test.YtpkmjhmmmdkodaaGreatWb30
set_option linter.all false
set_option maxHeartbeats 8000000
set_option maxRecDepth 100000
namespace Go.Proofs.YtpkmjhmmmdkodaaGreat
open Go.RowKit
variable {w w':World} {N n lo hi k i m j:Nat} {v:Value} {l:List Nat}
def Mn.blk (lo:Nat) (o:Obj):Mn:=⟨fun v w=>∃ g,v=.pointer (some ⟨g,0,none⟩)/\lo<=g/\w.heap[g]?=some o,fun e h=>by
  obtain⟨g,h0,h1,h2⟩:=h
  exact⟨g,h0,h1,e.block h2⟩⟩
end Go.Proofs.YtpkmjhmmmdkodaaGreat
namespace Go.Proofs.YtpkmjhmmmdkodaaGreat
variable {w w':World} {N n lo hi k i m j:Nat} {v:Value} {l:List Nat}
theorem q8z{M S:Nat->Nat->Rat}{E K:Nat->Bool}(hsym:∀ u v,u<n->v<n->M u v=M v u) (hf:Fil n M E) (hr:q0A n M E) (hS:q2U n M E S)(hi:i<n) (hj:j<n) (hEi:E i=false) (hEj:E j=false)
  (hKj:∀ u,u<n->E u=true->K u=false->M u j=0) (hKK:∀ u v,u<n->v<n->E u=true->K u=false->E v=true->K v=true->M u v=0)
  (h0:M i j=0) (hiK:∀ u,u<n->E u=true->K u=true->M i u=0):S i j=0:=by
 obtain⟨x,hx,hx0⟩:=hf (dlt j);have hxo:∀ v,v<n->E v=false->v≠j->x v=0:=fun v _ hE hne=>by rw[hx v hE];exact kQ (fun e=>hne e.symm)
 have hout:∀ u,u<n->E u=true->K u=false->x u=0:=by
  have h1:=hr (fun u=>if E u=true/\K u=false then x u else 0) (fun u _ hu=>by simp[hu]) (fun u hu hE=>by
   cases hk:K u with
   | true =>
    refine qy fun v hv=>?_
    by_cases h9:E v=true/\K v=false
    ·have:M u v=0:=by rw[hsym u v hu hv];exact hKK v u hv hu h9.1 h9.2 hE hk
     rw[this];grind
    ·simp only[h9,if_false];grind
   | false =>
    refine Eq.trans (qf fun v hv=>?_) (hx0 u hu hE)
    show M u v*(if E v=true/\K v=false then x v else 0)=M u v*x v
    by_cases h9:E v=true/\K v=false
    ·rw[if_pos h9]
    ·rw[if_neg h9];cases hEv:E v with
     | true =>
      have hKv:K v=true:=by
       cases hk9:K v with
       | true=>rfl
       | false=>exact absurd ⟨hEv,hk9⟩ h9
      rw[hKK u v hu hv hE hk hEv hKv];grind
     | false =>
      by_cases hvj:v=j
      ·rw[hvj,hKj u hu hE hk];grind
      ·rw[hxo v hv hEv hvj])
  intro u hu hE hk;have:=h1 u hu;simpa[hE,hk] using this
 have h2:=hS x hx0 i hi hEi
 have h3:av n M x i=0:=qy fun v hv=>by
  cases hEv:E v with
  | true =>
   cases hk:K v with
   | true=>rw[hiK v hv hEv hk];grind
   | false=>rw[hout v hv hEv hk];grind
  | false =>
   by_cases hvj:v=j
   ·rw[hvj,h0];grind
   ·rw[hxo v hv hEv hvj];grind
 rw[h3,xw hj (fun c hc hne=>by
  cases hEc:E c with
  | true=>rfl
  | false=>simp only[Bool.false_eq_true,if_false];rw[hxo c hc hEc hne];grind)] at h2
 simp only[hEj,Bool.false_eq_true,if_false] at h2;rw[hx j hEj,kX] at h2
 grind
end Go.Proofs.YtpkmjhmmmdkodaaGreat
namespace Go.Proofs.YtpkmjhmmmdkodaaGreat
open Go.RowKit
variable {w w':World} {N n lo hi k i m j:Nat} {v:Value} {l:List Nat}
theorem q8E (M:Nat->Nat->Rat) (E:Nat->Bool) (n a b:Nat):Wp M E n a b=Jo (ww E n) M (enF E n) (enF (xE E) n a) (enF (xE E) n b):=by
 unfold Wp Jo q0B q6i elmX;rw[jZ]
 rfl
section
variable {M:Nat->Nat->Rat}{y:Nat->Rat}{E:Nat->Bool}{n K0:Nat}
end
theorem q8s {lo' hi':Nat}{u:Value}{Z:Sys}(h:wS N lo hi w v Z){nl:Nat}{L:Nat->Int}(hu:IzV N lo' hi' w u nl L) :
  Calls Tryz.prog 11 #[v,u] w (zG w (.int .i64 (q09 L nl Z.ns))):=by
 obtain⟨Q,hQ⟩:=qc (zG w (.int .i64 (q09 L nl Z.ns)));rw[<-hQ.out];have HU:=q_h hu;obtain⟨A1,c1,A2,c2,A3,c3,rfl,s1,s2,s3,k1,k2,k3⟩:=h.parts;obtain⟨A4,c4,rfl,hnc,hcn⟩:=hu.form;unfold maxLen at hcn;obtain⟨m,hm⟩:=qc Z.ns;obtain⟨cd,hcd⟩:=qc (q09 L nl Z.ns);rw[<-hcd.out] at hQ;rw[<-hm.out] at hcd k1 ⊢;clear h s1 s2 s3 hu;go_enter Tryz.func11,Tryz.ntmps11;go_upto_region 1 with (fail);refine qp ?_;intro W hE hsz B0;obtain⟨g0,hg0⟩:=qc w.heap.size;rw[<-hg0.out] at B0 ⊢;have HB0:=q_h B0;have HEW:=q_h hE;clear hg0 B0 hE hsz;obtain⟨w1,hw1⟩:∃ w1,w1=W:=⟨_,rfl⟩
 subst hw1;go_wp2_with fail
 go_loopw [5] (fun iv wr=>∃ i:Nat,i<=nl/\iv=.int .i64 (i:Int)/\Hid (∀ j,j<i->lsC L m j=0)/\Hid (Ext w1 wr)) (fun iv _=>nl - (intOf iv).toNat)
 case atStart=>exact⟨0,Nat.zero_le _,rfl,fun j hj=>absurd hj (Nat.not_lt_zero j),Ext.refl _⟩
 case round =>
  obtain⟨i,hi9,rfl,HA,HE⟩:=hrel;obtain⟨a0,a1,a2,-⟩:=cells3 (HE.out.block HB0.out)
  by_cases hlt:i<nl
  case neg =>
   have t1:decide ((i:Int)<(nl:Int))=false:=q_f (by omega);obtain rfl:nl=i:=by omega
   have HF:Hid (cd=0):=by rw[Hid,hcd.out];exact vV HA.out
   go_wp2
   first | go_ret | skip
   rw[hQ.out,HF.out];exact⟨rfl,HEW.out.trans HE.out⟩
  have t1:decide ((i:Int)<(nl:Int))=true:=q_t (by omega);have t2:(i:Int)<(nl:Int):=by omega
  have HIZ:Hid (IzV N lo' hi' wr (.slice A4 nl c4) nl L):=HU.out.ext (HEW.out.trans HE.out);obtain⟨b,off,rfl,hx⟩:=HIZ.out.addr (by omega);have p0:=hx i hlt
  have HCI:Hid (lsC L m i≠0->cd=lsC L m i):=fun h9=>by
   rw[hcd.out];unfold q09;exact XR hlt HA.out h9
  obtain⟨u,hu⟩:=qc (L i);rw[<-hu.out] at p0
  have HLS:Hid (lsC L m i=if u<0\/(m:Int)<=u then 2 else if xg i (fun t=>decide (L t=u))=true then 7 else 0):=by
   rw[hu.out];rfl
  clear hx;obtain⟨bd,hbd⟩:=qc (decide (u<0)||decide ((m:Int)<=u));go_upto_region 4 with (fail)
  go_cut [26] (fun bv wx=>bv=.bool bd/\Ext wr wx)
  case first =>
   by_cases hu0:u<0
   ·have t3:decide (u<0)=true:=q_t hu0;have HB9:Hid (bd=true):=by rw[Hid,hbd.out,t3];rfl
    clear hu0
    go_quiet (fail)
    go_wp2
    go_meet
    exact⟨by rw[HB9.out],(Ext.refl _).drewN _⟩
   ·have t3:decide (u<0)=false:=q_f hu0;have HB9:Hid (decide ((m:Int)<=u)=bd):=by rw[Hid,hbd.out,t3];rfl
    have t4:=HB9.out;clear hu0
    go_quiet (fail)
    go_wp2
    go_meet
    exact⟨rfl,(Ext.refl _).drewN _⟩
  obtain⟨rfl,hcut⟩:=hcut;cases bd with
  | true =>
   have HF:Hid (cd=2):=by
    have h9:=HLS.out;have h8:=hbd.out.symm;rw[Bool.or_eq_true,decide_eq_true_eq,decide_eq_true_eq] at h8;rw[if_pos h8] at h9;have:=HCI.out (by rw[h9];decide);rw[Hid,this,h9]
   go_wp2
   first | go_ret | skip
   rw[hQ.out,HF.out];exact⟨rfl,(HEW.out.trans HE.out).trans hcut⟩
  | false =>
  have hbad:¬ (u<0\/(m:Int)<=u):=fun h8=>by
   rw[<-decide_eq_true_eq (p:=u<0),<-decide_eq_true_eq (p:=(m:Int)<=u),<-Bool.or_eq_true,<-hbd.out] at h8;cases h8
  replace a0:=hcut.cell a0;replace p0:=hcut.cell p0;have HIZ':=q_h (HIZ.out.ext hcut);have HEC:Hid (Ext w1 wc):=HE.out.trans hcut;clear hcut a1 a2
  have HL2:Hid (lsC L m i=if xg i (fun t=>decide (L t=u))=true then 7 else 0):=by
   have h9:=HLS.out
   rwa [if_neg hbad] at h9
  have hc40:¬ c4=0:=by omega
  have t5:(i:Int)<=(c4:Int):=by omega
  have t6:i<=c4:=by omega
  obtain⟨r,hr⟩:=qc (xg i (fun t=>decide (L t=u)));rw[<-hr.out] at HL2;clear hbad;go_upto_region 6 with (fail);refine jP [Mn.eq (.slice (some ⟨b,off,none⟩) nl c4),Mn.i (i:Int),Mn.eq (.slice (some ⟨b,off,none⟩) i c4),Mn.eq (.slice (some ⟨b,off,none⟩) nl c4),Mn.i (i:Int),Mn.q b (off+i),Mn.i u,Mn.t r] (sM [27,28,29,30,31,32,33,34]) [] (rQ 8 0) 0 (by kernel_rfl) ?_ ?_
  ·show ∀ i,i<8->_
   iterate 8 refine fs ?_ ?_
   ·exact fz
   all_goals intro hl;clear hl;refine stp rfl ?_;intro ac wi eI hB hA K hK
   have o1:=oOf (hB 1) rfl
   rotate_left
   have o5:=oOf (hB 5) rfl
   rotate_left
   obtain⟨_,s27,rfl⟩:=hA 0 27;obtain⟨_,s28,rfl⟩:=hA 1 28
   rotate_left
   have o1:=oOf (hB 1) rfl
   rotate_left
   have o5:=oOf (hB 5) rfl
   rotate_left
   obtain⟨_,s30,rfl⟩:=hA 3 30;obtain⟨_,s31,rfl⟩:=hA 4 31
   rotate_left
   obtain⟨_,s32,rfl⟩:=hA 5 32;have cc0:=eI.cell p0
   rotate_left
   obtain⟨_,s29,rfl⟩:=hA 2 29;obtain⟨_,s33,rfl⟩:=hA 6 33;clear hB hA
   ·go_simp;refine (rf_has (iz_take (lo':=0) (hi':=0) (HIZ'.out.ext eI) (by omega)) u).mono ?_;rw[<-hr.out];rintro e wj ⟨rfl,ej⟩;go_wp2_with fail;exact hK.out _ _ ej rfl
   all_goals clear hB hA;go_simp;exact q_k hK rfl
  intro vals wz eZ hJ;have J34:vals 7=_:=hJ 7 (by decide) (by decide);clear hJ;simp only[pr,Nat.reduceAdd,J34];clear J34;refine qg (by kernel_rfl) ?_ _;cases r with
  | true =>
   have HF:Hid (cd=7):=by
    have h9:=HL2.out;rw[if_pos rfl] at h9;have:=HCI.out (by rw[h9];decide);rw[Hid,this,h9]
   clear a0 p0;go_wp2
   first | go_ret | skip
   rw[hQ.out,HF.out];exact⟨rfl,(HEW.out.trans HEC.out).trans eZ⟩
  | false =>
   have HN:Hid (∀ j,j<i+1->lsC L m j=0):=fun j hj=>by
    by_cases hji:j=i
    ·rw[hji,HL2.out,if_neg (by decide)]
    ·exact HA.out j (by omega)
   have HE3:Hid (Ext w1 wz):=HEC.out.trans eZ;clear a0 p0 eZ;go_wp2;go_roundw
   case rel=>exact⟨i+1,by omega,by go_num,HN,HE3⟩
   case measure=>simp[intOf];omega
theorem q8c {lo' hi':Nat}{u:Value}{Z:Sys}(h:wS N lo hi w v Z){nl:Nat}{L:Nat->Int}(hu:IzV N lo' hi' w u nl L) :
  Calls Tryz.prog 23 #[v,u] w (zG w (.bool (decide (nl=Z.ns)&&decide (q09 L nl Z.ns=0)))):=by
 obtain⟨Q,hQ⟩:=qc (zG w (.bool (decide (nl=Z.ns)&&decide (q09 L nl Z.ns=0))));rw[<-hQ.out];have HLI:=fun (w':World) (e:Ext w w')=>q8s (h.ext e) (hu.ext e)
 obtain⟨A1,c1,A2,c2,A3,c3,rfl,s1,s2,s3,k1,k2,k3⟩:=h.parts;obtain⟨A4,c4,rfl,hnc,hcn⟩:=hu.form;unfold maxLen at hcn;have HLI':=q_h HLI;clear h s1 s2 s3 hu HLI
 by_cases hne:nl=Z.ns
 ·have t1:((nl:Int) == (Z.ns:Int))=true:=by rw[hne];simp
  have HT:Hid (decide (nl=Z.ns)=true):=q_t hne;clear hne;go_enter Tryz.func23,Tryz.ntmps23;go_upto_region 1 with (fail);refine qp ?_;intro W hE hsz B0;obtain⟨a0,a1,a2,-⟩:=cells3 B0;go_wp2_with (go_at_call 11;refine q_o ?_);refine (HLI'.out _ hE).mono ?_;rintro e w3 ⟨rfl,e3⟩;obtain⟨cd,hcd⟩:=qc (q09 L nl Z.ns);rw[<-hcd.out] at hQ ⊢;have HR:Hid (∀ b,(cd == 0)=b->decide (cd=0)=b):=fun b hb=>by rw[<-hb];by_cases h:cd=0 <;> simp[h]
  clear a0 a1 a2
  by_cases h0:cd=0
  ·have t2:(cd == 0)=true:=by simpa using h0
   clear h0;go_wp2
   first | go_ret | skip
   rw[hQ.out,HT.out,HR.out true t2];exact⟨rfl,hE.trans e3⟩
  ·have t2:(cd == 0)=false:=by simpa using h0
   clear h0;go_wp2
   first | go_ret | skip
   rw[hQ.out,HT.out,HR.out false t2];exact⟨rfl,hE.trans e3⟩
 ·have t1:((nl:Int) == (Z.ns:Int))=false:=by simp;omega
  have HT:Hid (decide (nl=Z.ns)=false):=q_f hne;clear hne;go_enter Tryz.func23,Tryz.ntmps23;go_upto_region 1 with (fail);refine qp ?_;intro W hE hsz B0;obtain⟨a0,a1,a2,-⟩:=cells3 B0;go_wp2
  first | go_ret | skip
  rw[hQ.out,HT.out];exact⟨rfl,hE⟩
theorem q8H {f g:Nat->Nat}(hf:∀ i j,i<j->j<n->f i<f j) (hg:∀ i j,i<j->j<m->g i<g j) (h1:∀ i,i<n->∃ k,k<m/\f i=g k) (h2:∀ i,i<m->∃ k,k<n/\g i=f k):n=m/\∀ i,i<n->f i=g i:=by
 have key:∀ i,(i<n->i<m/\f i=g i)/\(i<m->i<n):=by
  intro i
  induction i using Nat.strongRecOn with
  | ind i ih =>
   have fwd:i<n->i<m/\f i=g i:=by
    intro hi;obtain⟨k,hk,hfk⟩:=h1 i hi
    have hki:i<=k:=by
     rcases Nat.lt_or_ge k i with h | h
     ·have h3:=(ih k h).1 (by omega);have h4:=hf k i h hi;omega
     ·exact h
    have him:i<m:=by omega
    obtain⟨k',hk',hgk⟩:=h2 i him
    have hki':i<=k':=by
     rcases Nat.lt_or_ge k' i with h | h
     ·have h3:=(ih k' h).1 (by omega);have h4:=hg k' i h him;omega
     ·exact h
    have a1:g i<=g k:=by
     rcases Nat.lt_or_ge i k with h | h
     ·exact Nat.le_of_lt (hg i k h hk)
     ·have h5:i=k:=by omega
      rw[h5];exact q_r
    have a2:f i<=f k':=by
     rcases Nat.lt_or_ge i k' with h | h
     ·exact Nat.le_of_lt (hf i k' h hk')
     ·have h5:i=k':=by omega
      rw[h5];exact q_r
    exact⟨him,by omega⟩
   refine⟨fwd,fun him=>?_⟩;obtain⟨k,hk,hgk⟩:=h2 i him
   rcases Nat.lt_or_ge k i with h | h
   ·have h3:=(ih k h).1 hk;have h4:=hg k i h him;omega
   ·omega
 refine⟨?_,fun i hi=>((key i).1 hi).2⟩;have a:=(key n).2;have b:=(key m).1;omega
section
variable {Z Z':Sys}{z z':Nat->Nat}{M M':Nat->Nat->Rat}{y y':Nat->Rat}
end
theorem q8l {E:Nat->Bool}:∀ i j,i<j->j<ww E n->enF E n i<enF E n j:=by
 intro i j hij hj;have hj':j<(Jh E n).length:=hj;rw[vW (show i<(Jh E n).length by omega),vW hj'];exact List.pairwise_iff_getElem.1 (V3 E n) i j (by omega) hj' hij
theorem q88 (E:Nat->Bool) (n:Nat):Enm n (ww E n) E (enF E n):=q0i E n
section
variable {M:Nat->Nat->Rat}{y:Nat->Rat}{E:Nat->Bool}{n:Nat}
end
section
variable {z:Nat->Nat}{g:Nat->Bool}{ns:Nat}
theorem q8K {p:Nat}(hp:p<qm (fun a=>z (enF g ns a)) (ww g ns)) :
  enF (fun x=>g (yM z ns x)) (qm z ns) p=qm z (enF g ns (yM (fun a=>z (enF g ns a)) (ww g ns) p))+(p - qm (fun a=>z (enF g ns a)) (yM (fun a=>z (enF g ns a)) (ww g ns) p))/\yM z ns (enF (fun x=>g (yM z ns x)) (qm z ns) p)=enF g ns (yM (fun a=>z (enF g ns a)) (ww g ns) p):=by
 obtain⟨z1,hz1⟩:∃ z1:Nat->Nat,z1=fun a=>z (enF g ns a):=⟨_,rfl⟩
 obtain⟨m,hm⟩:∃ m,m=ww g ns:=⟨_,rfl⟩
 rw[<-hz1,<-hm] at hp ⊢;have er:=q88 g ns;rw[<-hm] at er;have ez:∀ a,z1 a=z (enF g ns a):=fun a=>by rw[hz1]
 have hsz:∀ p,p<qm z1 m->yM z1 m p<m/\qm z1 (yM z1 m p)<=p/\p - qm z1 (yM z1 m p)<z (enF g ns (yM z1 m p)):=fun p hp=>by
  obtain⟨h1,h2,h3⟩:=QA hp;have h4:qm z1 (yM z1 m p+1)=qm z1 (yM z1 m p)+z1 (yM z1 m p):=rfl;rw[ez] at h4;exact⟨h1,h2,by omega⟩
 have hbk:∀ p,p<qm z1 m->yM z ns (qm z (enF g ns (yM z1 m p))+(p - qm z1 (yM z1 m p)))=enF g ns (yM z1 m p):=fun p hp=>by
  obtain⟨h1,h2,h3⟩:=hsz p hp;exact KX (er.low _ h1) (by omega) (by show _<qm z _+z _;omega)
 have hlt:∀ p,p<qm z1 m->qm z (enF g ns (yM z1 m p))+(p - qm z1 (yM z1 m p))<qm z ns:=fun p hp=>by
  obtain⟨h1,h2,h3⟩:=hsz p hp;have h4:=zC z (show enF g ns (yM z1 m p)+1<=ns by have:=er.low _ h1;omega);have h5:qm z (enF g ns (yM z1 m p)+1)=qm z (enF g ns (yM z1 m p))+z (enF g ns (yM z1 m p)):=rfl;omega
 have eU:=q88 (fun x=>g (yM z ns x)) (qm z ns);have hasc:∀ a b,a<b->b<m->enF g ns a<enF g ns b:=by rw[hm];exact q8l
 have key:=q8H (f:=fun p=>qm z (enF g ns (yM z1 m p))+(p - qm z1 (yM z1 m p))) (g:=enF (fun x=>g (yM z ns x)) (qm z ns)) (n:=qm z1 m) (m:=ww (fun x=>g (yM z ns x)) (qm z ns))
  (fun i j hij hj=>by
   obtain⟨h1,h2,h3⟩:=hsz i (by omega);obtain⟨h4,h5,h6⟩:=hsz j hj
   show qm z (enF g ns (yM z1 m i))+(i - qm z1 (yM z1 m i))<qm z (enF g ns (yM z1 m j))+(j - qm z1 (yM z1 m j))
   rcases Nat.lt_trichotomy (yM z1 m i) (yM z1 m j) with h | h | h
   ·have h7:=zC z (show enF g ns (yM z1 m i)+1<=enF g ns (yM z1 m j) from hasc _ _ h h4);have h8:qm z (enF g ns (yM z1 m i)+1)=qm z (enF g ns (yM z1 m i))+z (enF g ns (yM z1 m i)):=rfl;omega
   ·rw[h] at h2 ⊢;omega
   ·have h7:=zC z1 (show yM z1 m j+1<=yM z1 m i by omega);obtain⟨-,-,h9⟩:=QA hj
    omega) q8l
  (fun p hp=>by
   obtain⟨k,hk,e⟩:=eU.onto _ (hlt p hp) (by
    show g (yM z ns _)=true
    rw[hbk p hp]
    exact er.mem _ (hsz p hp).1)
   exact⟨k,hk,e.symm⟩)
  (fun i hi=>by
   have h1:=eU.low i hi;have h2:g (yM z ns (enF (fun x=>g (yM z ns x)) (qm z ns) i))=true:=eU.mem i hi;obtain⟨x,hx⟩:∃ x,x=enF (fun x=>g (yM z ns x)) (qm z ns) i:=⟨_,rfl⟩
   rw[<-hx] at h1 h2 ⊢;obtain⟨b1,b2,b3⟩:=QA h1;obtain⟨a,ha,e⟩:=er.onto _ b1 h2;rw[<-e] at b2 b3;have b4:qm z (enF g ns a+1)=qm z (enF g ns a)+z (enF g ns a):=rfl;have b5:qm z1 (a+1)=qm z1 a+z (enF g ns a):=by show qm z1 a+z1 a=_;rw[ez]
   have b6:=zC z1 (show a+1<=m by omega);have b7:yM z1 m (qm z1 a+(x - qm z (enF g ns a)))=a:=KX ha (by omega) (by omega);refine⟨qm z1 a+(x - qm z (enF g ns a)),by omega,?_⟩
   show x=qm z (enF g ns (yM z1 m _))+(_ - qm z1 (yM z1 m _))
   rw[b7]
   omega)
 have k1:=key.2 p hp;rw[<-k1];exact⟨rfl,hbk p hp⟩
theorem q8v:qm (fun a=>z (enF g ns a)) (ww g ns)=ww (fun x=>g (yM z ns x)) (qm z ns):=by
 have h1:=q0L z g ns;rw[QI (m:=ns) ns (q_r)] at h1;exact h1.symm
end
def q8F (L:Nat->Int):Nat->Nat->Nat
 | 0,_=>0
 | n+1,K=>q8F L n K+(if L n<(K:Int) then 1 else 0)
theorem q8i (L:Nat->Int) (K:Nat):∀ n,(∀ t,t<n->(K:Int)<=L t)->q8F L n K=0
 | 0,_=>rfl
 | n+1,h=>by
  unfold q8F;rw[q8i L K n (fun t ht=>h t (by omega)),if_neg (by have:=h n (by omega);omega)]
theorem q8j (L:Nat->Int) (K:Nat):∀ n,(∀ a b,a<n->b<n->L a=L b->a=b)->q8F L n (K+1)=q8F L n K+(if inL L n K=true then 1 else 0)
 | 0,_=>rfl
 | n+1,h=>by
  have ih:=q8j L K n (fun a b ha hb=>h a b (by omega) (by omega));have hin:inL L (n+1) K=(inL L n K||decide (L n=(K:Int))):=by unfold inL;rw[WI]
  unfold q8F;rw[ih,hin]
  by_cases h1:L n=(K:Int)
  ·have h2:inL L n K=false:=by
    unfold inL
    exact zO.2 fun t ht=>decide_eq_false fun h3=>by
     have:=h t n (by omega) (by omega) (by rw[h3,h1]);omega
   rw[h2,q_t h1,if_pos (show L n<((K+1:Nat):Int) by omega),if_neg (show ¬ L n<(K:Int) by omega)]
   simp
  ·rw[q_f h1,Bool.or_false]
   by_cases h2:L n<(K:Int)
   ·rw[if_pos (show L n<((K+1:Nat):Int) by omega),if_pos h2];omega
   ·rw[if_neg (show ¬ L n<((K+1:Nat):Int) by omega),if_neg h2];omega
theorem q8m {L:Nat->Int}{nl:Nat}(h0:∀ t,t<nl->0<=L t) (hd:∀ a b,a<nl->b<nl->L a=L b->a=b):∀ K,ww (fun k=>!inL L nl k) K+q8F L nl K=K
 | 0=>by rw[q8i L 0 nl (fun t ht=>by have:=h0 t ht;omega)];rfl
 | K+1=>by
  have ih:=q8m h0 hd K;rw[q8j L K nl hd];unfold ww at ih ⊢;rw[q2a];cases h:inL L nl K with
  | true =>
   rw[if_neg (by decide),List.append_nil,if_pos rfl];omega
  | false =>
   rw[if_pos (by decide),List.length_append,if_neg (by decide)]
   show _+1+_=_
   omega
end Go.Proofs.YtpkmjhmmmdkodaaGreat
namespace Go.Proofs.YtpkmjhmmmdkodaaGreat
variable {w w':World} {N n lo hi k i m j:Nat} {v:Value} {l:List Nat}
inductive Way (G:Nat->Nat->Bool) (X:Nat->Bool):Nat->Nat->Prop
 | edge {i j:Nat}(h:G i j=true):Way G X i j
 | step {i u j:Nat}(h:G i u=true) (hu:X u=true) (w:Way G X u j):Way G X i j
theorem q8g {G:Nat->Nat->Bool}{e:Nat}(h:G i j=true) (hi:i≠e) (hj:j≠e):Y6 G e i j=true:=by
 unfold Y6;rw[h];simp[hi,hj]
theorem q8f {G:Nat->Nat->Bool}{e:Nat}(h:G e i=true) (h':G e j=true) (hij:i≠j) (hi:i≠e) (hj:j≠e):Y6 G e i j=true:=by
 unfold Y6;rw[h,h'];simp[hi,hj,hij]
theorem Way.elim {G:Nat->Nat->Bool}{X X':Nat->Bool}{e:Nat}(hG:GrS G) (hX:∀ u,X u=true->u=e\/X' u=true)(w:Way G X i j) :
  j≠e->(i≠e->i=j\/Way (Y6 G e) X' i j)/\(i=e->∀ p,G p e=true->p≠e->p=j\/Way (Y6 G e) X' p j):=by
 intro hj
 induction w with
 | edge h =>
  rename_i i j
  refine⟨fun hi=>?_,fun hi p hp hpe=>?_⟩
  ·exact .inr (.edge (q8g h hi hj))
  ·subst hi
   by_cases hpj:p=j
   ·exact .inl hpj
   ·exact .inr (.edge (q8f (by rw[hG.symm];exact hp) h hpj hpe hj))
 | step h hu w ih =>
  rename_i i u j
  obtain⟨a1,a2⟩:=ih hj;refine⟨fun hi=>?_,fun hi p hp hpe=>?_⟩
  ·by_cases hue:u=e
   ·exact a2 hue i (by rw[<-hue];exact h) hi
   ·have hxu:X' u=true:=(hX u hu).resolve_left hue;have hiu:=q8g h hi hue
    rcases a1 hue with rfl | w'
    ·exact .inr (.edge hiu)
    ·exact .inr (.step hiu hxu w')
  ·subst hi;have hue:u≠i:=fun e9=>by rw[e9,hG.irr] at h;cases h
   have hxu:X' u=true:=(hX u hu).resolve_left hue
   by_cases hpu:p=u
   ·subst hpu;exact a1 hue
   ·have hpp:=q8f (G:=G) (e:=i) (by rw[hG.symm];exact hp) h hpu hpe hue
    rcases a1 hue with rfl | w'
    ·exact .inr (.edge hpp)
    ·exact .inr (.step hpp hxu w')
def q8x (l:List Nat) (u:Nat):Bool:=l.contains u
theorem q8d:∀ (l:List Nat) (G:Nat->Nat->Bool),GrS G->∀ i j,i≠j->l.contains i=false->l.contains j=false->Way G (q8x l) i j->elimL G l i j=true
 | [],G,hG,i,j,hij,_,_,w=>by
  cases w with
  | edge h=>exact h
  | step h hu w=>unfold q8x at hu;simp at hu
 | e :: l,G,hG,i,j,hij,hi,hj,w=>by
  have hi':i≠e/\l.contains i=false:=by simpa using hi
  have hj':j≠e/\l.contains j=false:=by simpa using hj
  have hX:∀ u,q8x (e :: l) u=true->u=e\/q8x l u=true:=fun u hu=>by unfold q8x at hu ⊢;simpa using hu
  rcases (w.elim hG hX hj'.1).1 hi'.1 with h | w'
  ·exact absurd h hij
  ·exact q8d l (Y6 G e) (hG.elim e) i j hij hi'.2 hj'.2 w'
def q8y (G:Nat->Nat->Bool) (e i j:Nat):Bool:=G e i&&G e j&&i != j && !G i j&&(i != e&&j != e)
def q8p (G:Nat->Nat->Bool):List Nat->Nat->Nat->Bool
 | [],_,_=>false
 | e :: l,i,j=>q8y G e i j||q8p (Y6 G e) l i j
theorem q8h:∀ (l:List Nat) (G:Nat->Nat->Bool) (i j:Nat),elimL G l i j=true->G i j=true\/q8p G l i j=true
 | [],_,_,_,h=>.inl h
 | e :: l,G,i,j,h=>by
  rcases q8h l (Y6 G e) i j h with h1 | h1
  ·unfold Y6 at h1;cases hg:G i j with
   | true=>exact .inl rfl
   | false =>
    right
    unfold q8p q8y;rw[hg] at h1 ⊢;rw[Bool.false_or] at h1;rw[Bool.or_eq_true]
    left
    rw[Bool.and_eq_true] at h1;rw[h1.1,h1.2];rfl
  ·right
   unfold q8p;rw[h1,Bool.or_true]
theorem q8b:∀ (l l':List Nat) (G:Nat->Nat->Bool) (i j:Nat),q8p G l i j=true->q8p G (l++l') i j=true
 | [],_,_,_,_,h=>by cases h
 | e :: l,l',G,i,j,h=>by
  unfold q8p at h;rw[Bool.or_eq_true] at h
  show (q8y G e i j||q8p (Y6 G e) (l++l') i j)=true
  rw[Bool.or_eq_true]
  rcases h with h | h
  ·exact .inl h
  ·exact .inr (q8b l l' (Y6 G e) i j h)
end Go.Proofs.YtpkmjhmmmdkodaaGreat
namespace Go.Proofs.YtpkmjhmmmdkodaaGreat
open Go.RowKit
variable {w w':World} {N n lo hi k i m j:Nat} {v:Value} {l:List Nat}
theorem q8k:∀ (l:List Nat) (G:Nat->Nat->Bool) (e i j:Nat),q8p G (l ++ [e]) i j=(q8p G l i j||q8y (elimL G l) e i j)
 | [],G,e,i,j=>by
  show (q8y G e i j||false)=(false||q8y G e i j)
  rw[Bool.or_false,Bool.false_or]
 | x :: l,G,e,i,j=>by
  show (q8y G x i j||q8p (Y6 G x) (l ++ [e]) i j)=((q8y G x i j||q8p (Y6 G x) l i j)||q8y (elimL (Y6 G x) l) e i j)
  rw[q8k l,Bool.or_assoc]
theorem q8J (G:Nat->Nat->Bool) (n:Nat) (r:Nat->Nat):∀ t,(QE G n r t).1=elimL G ((List.range t).map r)
 | 0=>rfl
 | t+1=>by
  rw[q6P,q0j,<-q8J G n r t,<-q75]
  rfl
theorem q8n {G:Nat->Nat->Bool}{k a b:Nat}(hab:a<b) (h1:G k b=true) (h2:G k a=true) (h3:G b a=false):∀ {n},b<n->(a,b)∈vG G k n
 | n+1,hb=>by
  rw[Zg]
  by_cases h:b=n
  ·subst h;rw[if_pos h1];refine List.mem_append_right _ ?_;unfold rowP;exact List.mem_map.2 ⟨a,List.mem_filter.2 ⟨List.mem_range.2 hab,by rw[h2,h3];rfl⟩,rfl⟩
  ·exact List.mem_append_left _ (q8n hab h1 h2 h3 (by omega))
theorem q8o {G:Nat->Nat->Bool}{n:Nat}{r:Nat->Nat}(hG:Gok G n){a b:Nat}(hab:a<b) (hb:b<n):∀ t,q8p G ((List.range t).map r) a b=true->(a,b)∈(QE G n r t).2
 | 0,h=>by cases h
 | t+1,h=>by
  rw[q6P,q8k,Bool.or_eq_true] at h
  show (a,b)∈(QE G n r t).2++vG (QE G n r t).1 (r t) n
  rcases h with h | h
  ·exact List.mem_append_left _ (q8o hG hab hb t h)
  ·refine List.mem_append_right _ ?_;rw[<-q8J G n r t] at h;have hk:=(q29 (r:=r) hG t).1;unfold q8y at h;simp only[Bool.and_eq_true,Bool.not_eq_true'] at h;obtain⟨⟨⟨⟨g1,g2⟩,-⟩,g3⟩,-⟩:=h;exact q8n hab g2 g1 (by rw[hk.sym b a hb (by omega)];exact g3) hb
section
variable {Z:Sys}{z:Nat->Nat}
theorem q8a (h:Okk Z){x y:Nat}(h0:xG Z z x y≠0):yM z Z.ns x=yM z Z.ns y\/jw Z Z.nb (yM z Z.ns x) (yM z Z.ns y)=true:=by
 apply Decidable.byContradiction
 intro hno;rw[not_or] at hno
 apply h0
 unfold xG q6n;refine XU (fun i hi hh=>hno.2 ?_) _ _;unfold jw;refine je hi ?_;unfold edg
 have hne:(Z.b i).r≠(Z.b i).c:=fun e=>by
  rw[hh.1,hh.2] at e
  rcases Nat.le_total x y with h | h
  ·rw[Nat.max_eq_right h,Nat.min_eq_left h] at e;omega
  ·rw[Nat.max_eq_left h,Nat.min_eq_right h] at e;omega
 rw[q_f hne,Bool.not_false,Bool.true_and,Bool.or_eq_true,Bool.and_eq_true,Bool.and_eq_true,decide_eq_true_eq,decide_eq_true_eq,decide_eq_true_eq,decide_eq_true_eq]
 rcases Nat.le_total x y with h | h
 ·rw[Nat.max_eq_right h,Nat.min_eq_left h] at hh;exact .inr hh
 ·rw[Nat.max_eq_left h,Nat.min_eq_right h] at hh;exact .inl hh
theorem q8Q (h:Okk Z){E:Nat->Bool}(hE:∀ x,x<qm z Z.ns->E x=l.contains (yM z Z.ns x)){S:Nat->Nat->Rat}(hf:Fil (qm z Z.ns) (xG Z z) E) (hr:q0A (qm z Z.ns) (xG Z z) E) (hS:q2U (qm z Z.ns) (xG Z z) E S){x y:Nat}(hx:x<qm z Z.ns) (hy:y<qm z Z.ns) (hEx:E x=false) (hEy:E y=false) (hne:yM z Z.ns x≠yM z Z.ns y) (hno:elimL (jw Z Z.nb) l (yM z Z.ns x) (yM z Z.ns y)=false):S x y=0:=by
 have hx':=hE x hx;have hy':=hE y hy;rw[hEx] at hx';rw[hEy] at hy'
 have hW:¬ Way (jw Z Z.nb) (q8x l) (yM z Z.ns x) (yM z Z.ns y):=fun w=>by
  have:=q8d l _ (edg_grs Z Z.nb) _ _ hne hx'.symm hy'.symm w;rw[hno] at this;cases this
 have hnE:∀ u,u<qm z Z.ns->E u=true->∀ v,v<qm z Z.ns->E v=false->yM z Z.ns u≠yM z Z.ns v:=fun u hu h1 v hv h2 e=>by
  rw[hE u hu,e,<-hE v hv,h2] at h1;cases h1
 have hin:∀ u,u<qm z Z.ns->E u=true->q8x l (yM z Z.ns u)=true:=fun u hu h1=>by rw[hE u hu] at h1;exact h1
 obtain⟨K,hK⟩:∃ K:Nat->Bool,∀ u,K u=true↔Way (jw Z Z.nb) (q8x l) (yM z Z.ns u) (yM z Z.ns y):=by
  classical
  exact⟨fun u=>decide (Way (jw Z Z.nb) (q8x l) (yM z Z.ns u) (yM z Z.ns y)),fun u=>decide_eq_true_iff⟩
 have hKf:∀ u,K u=false->¬ Way (jw Z Z.nb) (q8x l) (yM z Z.ns u) (yM z Z.ns y):=fun u hu w=>by
  rw[(hK u).2 w] at hu;cases hu
 refine q8z (K:=K) (fun u v _ _=>Wu Z z u v) hf hr hS hx hy hEx hEy (fun u hu h1 h2=>?_) (fun u v hu hv h1 h2 h3 h4=>?_) ?_ (fun u hu h1 h2=>?_)
 ·apply Decidable.byContradiction
  intro h9
  rcases q8a h h9 with h5 | h5
  ·exact hnE u hu h1 y hy hEy h5
  ·exact hKf u h2 (.edge h5)
 ·apply Decidable.byContradiction
  intro h9
  rcases q8a h h9 with h5 | h5
  ·refine hKf u h2 ?_;rw[h5];exact (hK v).1 h4
  ·exact hKf u h2 (.step h5 (hin v hv h3) ((hK v).1 h4))
 ·apply Decidable.byContradiction
  intro h9
  rcases q8a h h9 with h5 | h5
  ·exact hne h5
  ·exact hW (.edge h5)
 ·apply Decidable.byContradiction
  intro h9
  rcases q8a h h9 with h5 | h5
  ·exact hnE u hu h1 x hx hEx h5.symm
  ·exact hW (.step h5 (hin u hu h1) ((hK u).1 h2))
end
theorem wS.up{Z:Sys}(h:wS N 0 w.heap.size w v Z) (e:Ext w w'):wS N 0 w'.heap.size w' v Z:=by
 obtain⟨v1,v2,v3,hv,h1,⟨A,c,hb0,hb1,hb2,hb3⟩,h3⟩:=h.ext e;refine⟨v1,v2,v3,hv,⟨rfl,h1.2⟩,⟨A,c,hb0,hb1,hb2,fun hn=>?_⟩,LsR.wide h3 (q_r) e.size (q_r)⟩;obtain⟨b,off,hA,hx⟩:=hb3 hn;refine⟨b,off,hA,fun i hi=>?_⟩;obtain⟨a1,a2,A9,c9,a3,a4⟩:=hx i hi;exact⟨a1,a2,A9,c9,a3,MtR.wide a4 (q_r) e.size (q_r)⟩
def ElF (N:Nat) (Z:Sys) (z:Nat->Nat) (L:Nat->Int) (nl:Nat) (y:Nat->Rat) (n:Nat) (v:Value) (c:Int) (w':World):Prop :=
 (c≠0/\(q09 L nl Z.ns=0->0<ww (xE (goE Z z L nl)) n->¬ Reg (ww (goE Z z L nl) n) (xm (xG Z z) (enF (goE Z z L nl) n))/\c=14)) \/
 (c=0/\q09 L nl Z.ns=0/\0<ww (xE (goE Z z L nl)) n/\Reg (ww (goE Z z L nl) n) (xm (xG Z z) (enF (goE Z z L nl) n))/\∃ Z':Sys,wS N 0 w'.heap.size w' v Z'/\Z'.ns=ww (fun k=>!inL L nl k) Z.ns/\Z'.k=ww (xE (goE Z z L nl)) n /\
  q0D Z' (fun a=>z (enF (fun k=>!inL L nl k) Z.ns a)) (Wp (xG Z z) (goE Z z L nl) n) (q2Z (xG Z z) y (goE Z z L nl) n)/\NzB Z'.b Z'.nb)
def q8U (N:Nat) (w:World) (Z:Sys) (z:Nat->Nat) (L:Nat->Int) (nl:Nat) (y:Nat->Rat) (n:Nat) (e:Ending) (w':World):Prop :=
 ∃ (x1 x2 x3:Value) (c:Int),e=.returned (.tuple #[.agg #[x1,x2,x3],.int .i64 c])/\Ext w w'/\ElF N Z z L nl y n (.agg #[x1,x2,x3]) c w'
theorem q8D{Z:Sys}{z:Nat->Nat}{L:Nat->Int}{nl:Nat}{y:Nat->Rat}{e:Ending}(h:KY N w Z z L nl (xG Z z) y (goE Z z L nl) n e w'):q8U N w Z z L nl y n e w':=by
 obtain⟨e1,h⟩:=h
 rcases h with ⟨h1,rfl⟩ | ⟨h1,h2,rfl⟩ | ⟨h1,h2,h3,rfl⟩ | ⟨h1,h2,h3,v,Z',rfl,h4,h5,h6,h7,h8⟩
 ·exact⟨_,_,_,_,rfl,e1,.inl ⟨h1,fun h9=>absurd h9 h1⟩⟩
 ·exact⟨_,_,_,_,rfl,e1,.inl ⟨by decide,fun _ h9=>by omega⟩⟩
 ·exact⟨_,_,_,_,rfl,e1,.inl ⟨by decide,fun _ _=>⟨h3,rfl⟩⟩⟩
 ·obtain⟨v1,v2,v3,rfl,-⟩:=id h4;exact⟨v1,v2,v3,0,rfl,e1,.inr ⟨rfl,h1,h2,h3,Z',h4,h5,h6,h7,h8⟩⟩
def q8r (Z:Sys) (i:Nat):Rat:=zh (Z.R i)
theorem q8I {Z:Sys}(h:Okk Z):∀ i,i<Z.k->Z.R i=raw (q8r Z i):=fun i hi=>by
 have h1:=h.can;unfold ZH at h1;rw[Bool.and_eq_true,ql,ql] at h1;exact vI (h1.2 i hi)
theorem gk17:∀ k,k<=7->5*(5 ^ k*(17+1))<=29000000000/\gK k 17<=29000000000:=fun k hk=>by
 rcases (by omega:k=0\/k=1\/k=2\/k=3\/k=4\/k=5\/k=6\/k=7) with rfl | rfl | rfl | rfl | rfl | rfl | rfl | rfl <;> decide
theorem q8u {Z:Sys}(hf:FewF Z) (h0:yO Z=0):HtL (qm (zN Z) Z.ns) 17 (q8r Z):=fun i hi=>by
 have hok:=ZZ h0;have hk:(Z.k:Int)=xZ Z.z Z.ns:=hok.len;rw[kw (zN_ok hok)] at hk;exact q2C (hf.kb i (by omega))
theorem q8S {lo' hi':Nat}{u:Value}{Z:Sys}(h:wS N lo hi w v Z) (hf:FewF Z) (h0:yO Z=0){nl:Nat}{L:Nat->Int}(hu:IzV N lo' hi' w u nl L) (hl:nl<1000) :
  Calls Tryz.prog 13 #[v,u] w (q8U N w Z (zN Z) L nl (q8r Z) (qm (zN Z) Z.ns)):=by
 have hok:=ZZ h0;refine (Vq h hf.bz hf.kz h0 (zN_ok hok) hu hl rfl (q8I hok) (K0:=17) (den_htm hok (zN_ok hok) hf.br) (q8u hf h0) (fun k hk=>gk17 k (q_l hk (hf.n7 h0)))).mono ?_;intro e w' hh;exact q8D hh
theorem q8q{l:List (Nat×Nat)}(h:PrV w v l) (a c:Nat) :
  Calls Tryz.prog 81 #[v,.agg #[.int .i64 (a:Int),.int .i64 (c:Int)]] w (WM w (decide ((a,c)∈l))):=by
 obtain⟨r,hr⟩:=qc (decide ((a,c)∈l));rw[<-hr.out];have HI:=q_h h;obtain⟨A1,c1,rfl,k1,k2,-⟩:=h;unfold maxLen at k2;obtain⟨n,hn⟩:=qc l.length;rw[<-hn.out] at k1 HI ⊢;go_enter Tryz.func81,Tryz.ntmps81;go_upto_region 1 with (fail);refine qp ?_;intro W hE hsz B0;obtain⟨g0,hg0⟩:=qc w.heap.size;rw[<-hg0.out] at B0 ⊢;have HB0:=q_h B0;have HEW:=q_h hE;clear hg0 B0 hE hsz;obtain⟨w1,hw1⟩:∃ w1,w1=W:=⟨_,rfl⟩
 subst hw1;go_wp2_with fail
 go_loopw [8] (fun iv wr=>∃ i:Nat,i<=n/\iv=.int .i64 (i:Int)/\Hid (∀ j,j<i->l[j]?.getD (0,0)≠(a,c))/\Hid (Ext w1 wr)) (fun iv _=>n - (intOf iv).toNat)
 case atStart=>exact⟨0,Nat.zero_le _,rfl,fun j hj=>absurd hj (Nat.not_lt_zero j),Ext.refl _⟩
 case round =>
  obtain⟨i,hi9,rfl,HA,HE⟩:=hrel
  by_cases hlt:i<n
  case neg =>
   have t1:decide ((i:Int)<(n:Int))=false:=q_f (by omega);obtain rfl:n=i:=by omega
   have HT:Hid (r=false):=by
    rw[Hid,hr.out];refine decide_eq_false fun h9=>?_
    obtain⟨t,ht,e⟩:=List.getElem_of_mem h9;exact HA.out t (by rw[hn.out];exact ht) (by rw[List.getElem?_eq_getElem ht,Option.getD_some,e])
   go_wp2
   first | go_ret | skip
   exact⟨_,rfl,by rw[Hid,HT.out];rfl,HEW.out.trans HE.out⟩
  have t1:decide ((i:Int)<(n:Int))=true:=q_t (by omega);have t2:(i:Int)<(n:Int):=by omega
  have hP9:=HI.out;rw[hn.out] at hP9;obtain⟨g,c9,hv9,hc9,p0,p1⟩:=PrV.at2 (hP9.ext (HEW.out.trans HE.out)) (i:=i) (by rw[<-hn.out];exact hlt);simp only[Value.slice.injEq] at hv9;obtain⟨rfl,-,rfl⟩:=hv9;obtain⟨x,hx⟩:=qc (l[i]?.getD (0,0)).1;obtain⟨y,hy⟩:=qc (l[i]?.getD (0,0)).2;rw[<-hx.out] at p0;rw[<-hy.out] at p1;obtain⟨a0,a1,-⟩:=cells2 (HE.out.block HB0.out);obtain⟨b9,hb9⟩:=qc (decide ((a:Int)=(x:Int)/\(c:Int)=(y:Int)));obtain⟨wq,hwq⟩:∃ wq,wq=wr:=⟨_,rfl⟩
  subst hwq;clear hP9;go_upto_region 4 with (fail);refine jP [Mn.eq (.agg #[.int .i64 (a:Int),.int .i64 (c:Int)]),Mn.eq (.slice (some ⟨g,0,none⟩) n c1),Mn.i (i:Int),Mn.q g (i*2),Mn.eq (.agg #[.int .i64 (x:Int),.int .i64 (y:Int)]),Mn.t b9] (sM [11,12,13,14,15,16]) [] (rQ 6 0) 0 (by kernel_rfl) ?_ ?_
  ·show ∀ i,i<6->_
   iterate 6 refine fs ?_ ?_
   ·exact fz
   all_goals intro hl;clear hl;refine stp rfl ?_;intro ac wi eI hB hA K hK
   have o3:=oOf (hB 3) rfl;clear hB hA
   ·have b0:=eI.cell a0;have b1:=eI.cell a1;go_simp;exact q_k hK rfl
   have o0:=oOf (hB 0) rfl
   rotate_left
   have o5:=oOf (hB 5) rfl
   rotate_left
   obtain⟨_,s12,rfl⟩:=hA 1 12;obtain⟨_,s13,rfl⟩:=hA 2 13
   rotate_left
   obtain⟨_,s14,rfl⟩:=hA 3 14;clear hB hA
   ·have b0:=eI.cell p0;have b1:=eI.cell p1;go_simp;exact q_k hK rfl
   obtain⟨_,s11,rfl⟩:=hA 0 11;obtain⟨_,s15,rfl⟩:=hA 4 15;clear hB hA
   ·have t9:=q5t wi a c x y;rw[<-hb9.out] at t9;go_simp;exact q_k hK rfl
   all_goals clear hB hA;go_simp;exact q_k hK rfl
  intro vals wz eZ hJ;have J16:vals 5=_:=hJ 5 (by decide) (by decide);clear hJ;simp only[pr,Nat.reduceAdd,J16];clear J16;refine qg (by kernel_rfl) ?_ _;have HX2:Hid (Ext w1 wz):=HE.out.trans eZ;clear p0 p1 a0 a1 eZ;cases b9 with
  | true =>
   have HT:Hid (r=true):=by
    have h9:=of_decide_eq_true hb9.out.symm;rw[Hid,hr.out];refine decide_eq_true ?_;have hil:i<l.length:=by rw[<-hn.out];exact hlt
    have h8:l[i]?.getD (0,0)=(a,c):=Prod.ext (by have:=hx.out;show _=a;omega) (by have:=hy.out;show _=c;omega);rw[List.getElem?_eq_getElem hil,Option.getD_some] at h8;rw[<-h8];exact List.getElem_mem hil
   go_wp2
   first | go_ret | skip
   exact⟨_,rfl,by rw[Hid,HT.out];symm;simp,HEW.out.trans HX2.out⟩
  | false =>
   have HN:Hid (∀ j,j<i+1->l[j]?.getD (0,0)≠(a,c)):=fun j hj=>by
    by_cases hji:j=i
    ·subst hji;intro h9;have h8:=of_decide_eq_false hb9.out.symm
     apply h8
     rw[hx.out,hy.out,h9];exact⟨rfl,rfl⟩
    ·exact HA.out j (by omega)
   go_wp2;go_roundw
   case rel=>exact⟨i+1,by omega,by go_num,HN,HX2⟩
   case measure=>simp[intOf];omega
theorem q8e{l:List (Nat×Nat)}(h:PrV w v l) (a c:Nat) :
  Calls Tryz.prog 29 #[v,.agg #[.int .i64 (a:Int),.int .i64 (c:Int)]] w (zG w (.bool (decide ((a,c)∈l)))):=by
 obtain⟨r,hr⟩:=qc (decide ((a,c)∈l));rw[<-hr.out];have HI:=q_h h;obtain⟨A1,c1,rfl,k1,k2,-⟩:=h;go_enter Tryz.func29,Tryz.ntmps29;go_upto_region 1 with (fail);refine qp ?_;intro W hE hsz B0;obtain⟨a0,a1,-⟩:=cells2 B0;go_wp2_with (go_at_call 81;refine q_o ?_);refine (q8q (HI.out.ext hE) a c).mono ?_;rintro e w1 ⟨q,rfl,hq,e1⟩;rw[<-hr.out] at hq;clear a0 a1;go_wp2
 first | go_ret | skip
 exact q1g hq.out.symm (hE.trans e1)
theorem q8P {L:Nat->Int}{nl:Nat}:inL L nl k=true↔∃ t,t<nl/\L t=(k:Int):=by
 unfold inL xg;simp only[List.any_eq_true,List.mem_range,decide_eq_true_eq]
theorem q8C {Z Z':Sys}(h0:yO Z=0){o:Nat->Int}(hp:vN o n Z.ns=true){kk:Nat}(hk:kk<=Z.ns){g:Nat->Bool}(hg:g=fun k=>!inL o kk k){z:Nat->Nat}{yy:Nat->Rat}
  (hreg:Reg (ww (goE Z z o kk) (qm z Z.ns)) (xm (xG Z z) (enF (goE Z z o kk) (qm z Z.ns))))
  (hS:q0D Z' (fun a=>z (enF g Z.ns a)) (Wp (xG Z z) (goE Z z o kk) (qm z Z.ns)) yy) (hns:Z'.ns=ww g Z.ns) (hnz:NzB Z'.b Z'.nb){q:Nat}(hq:q<Z'.nb) :
  ∃ R C:Nat,(Z'.b q).r=(R:Int)/\(Z'.b q).c=(C:Int)/\R<Z'.ns/\C<Z'.ns/\(enF g Z.ns C≠enF g Z.ns R->jw Z Z.nb (enF g Z.ns C) (enF g Z.ns R)=true\/(enF g Z.ns C,enF g Z.ns R)∈q7w Z o):=by
 have hok:=ZZ h0;obtain⟨hnn,hpr,hpi⟩:=JJ hp;obtain⟨R,C,hCR,hRn,e1,e2,e3,e4,e5⟩:=hS.bk q hq;refine⟨R,C,e1,e2,hRn,by omega,fun hne=>?_⟩;obtain⟨a,ha,e,he,hz0⟩:=hnz q hq;rw[e3] at ha;rw[e4 a ha] at he;rw[e5 a ha e he,xy] at hz0;obtain⟨z',hz'⟩:∃ z':Nat->Nat,z'=fun a=>z (enF g Z.ns a):=⟨_,rfl⟩
 have ha':a<z' R:=by rw[hz'];exact ha
 have he':e<z' C:=by rw[hz'];exact he
 have hz0':Wp (xG Z z) (goE Z z o kk) (qm z Z.ns) (qm z' R+a) (qm z' C+e)≠0:=by rw[hz'];exact hz0
 have hR1:qm z' (R+1)=qm z' R+z' R:=rfl;have hC1:qm z' (C+1)=qm z' C+z' C:=rfl;have hR2:=zC z' (show R+1<=ww g Z.ns by omega);have hC2:=zC z' (show C+1<=ww g Z.ns by omega);have hpR:qm z' R+a<qm z' (ww g Z.ns):=by omega
 have hpC:qm z' C+e<qm z' (ww g Z.ns):=by omega
 have hbR:yM z' (ww g Z.ns) (qm z' R+a)=R:=KX (by omega) (by omega) (by omega);have hbC:yM z' (ww g Z.ns) (qm z' C+e)=C:=KX (by omega) (by omega) (by omega)
 have hn1:qm z' (ww g Z.ns)=ww (xE (goE Z z o kk)) (qm z Z.ns):=by
  rw[hz',q8v,hg]
  rfl
 have eX:=q8K (z:=z) (g:=g) (ns:=Z.ns) (p:=qm z' R+a) (by rw[<-hz'];exact hpR);have eY:=q8K (z:=z) (g:=g) (ns:=Z.ns) (p:=qm z' C+e) (by rw[<-hz'];exact hpC);rw[<-hz',hbR] at eX;rw[<-hz',hbC] at eY;have hNB:(fun x=>g (yM z Z.ns x))=xE (goE Z z o kk):=by rw[hg];rfl
 rw[hNB] at eX eY;obtain⟨X,hX⟩:∃ X,X=enF (xE (goE Z z o kk)) (qm z Z.ns) (qm z' R+a):=⟨_,rfl⟩
 obtain⟨Y,hY⟩:∃ Y,Y=enF (xE (goE Z z o kk)) (qm z Z.ns) (qm z' C+e):=⟨_,rfl⟩
 rw[q8E,<-hX,<-hY] at hz0';rw[<-hX] at eX;rw[<-hY] at eY;have en:=q88 (xE (goE Z z o kk)) (qm z Z.ns);have hXl:X<qm z Z.ns:=by rw[hX];exact en.low _ (by omega)
 have hYl:Y<qm z Z.ns:=by rw[hY];exact en.low _ (by omega)
 have hXE:goE Z z o kk X=false:=by
  have:(!goE Z z o kk X)=true:=by rw[hX];exact en.mem _ (by omega)
  simpa using this
 have hYE:goE Z z o kk Y=false:=by
  have:(!goE Z z o kk Y)=true:=by rw[hY];exact en.mem _ (by omega)
  simpa using this
 have hro:=q88 g Z.ns;have hrC:=hro.low C (by omega);have hrR:=hro.low R (by omega)
 have hlt:enF g Z.ns C<enF g Z.ns R:=by
  rcases Nat.lt_or_ge C R with h | h
  ·exact q8l C R h (by omega)
  ·have:C=R:=by omega
   rw[this] at hne;exact absurd rfl hne
 have hin:∀ k,k<Z.ns->inL o kk k=((List.range kk).map (fun t=>(o t).toNat)).contains k:=fun k hk9=>by
  rw[Bool.eq_iff_iff,q8P,List.contains_iff_mem,List.mem_map]
  constructor
  ·rintro⟨t,ht,h⟩;exact⟨t,List.mem_range.2 ht,by omega⟩
  ·rintro⟨t,ht,h⟩;have ht':=List.mem_range.1 ht;have:=(hpr t (by omega)).1;exact⟨t,ht',by omega⟩
 apply Decidable.byContradiction
 intro hno;rw[not_or] at hno;obtain⟨hf,hs⟩:=q5q (q88 (goE Z z o kk) (qm z Z.ns)) (q1i (q88 (goE Z z o kk) (qm z Z.ns)) hreg)
 apply hz0'
 refine q8Q hok (l:=(List.range kk).map (fun t=>(o t).toNat)) (fun x hx=>?_) hf (q1i (q88 (goE Z z o kk) (qm z Z.ns)) hreg) hs hXl hYl hXE hYE (by rw[eX.2,eY.2];omega) ?_
 ·unfold goE;exact hin _ (QA hx).1
 ·rw[eX.2,eY.2];cases hel:elimL (jw Z Z.nb) ((List.range kk).map (fun t=>(o t).toNat)) (enF g Z.ns R) (enF g Z.ns C) with
  | false=>rfl
  | true =>
   rw[(GrS.elimL _ (edg_grs Z Z.nb)).symm] at hel
   rcases q8h _ _ _ _ hel with h1 | h1
   ·exact absurd h1 hno.1
   ·have h2:(List.range Z.ns).map (fun t=>(o t).toNat)=(List.range kk).map (fun t=>(o t).toNat)++((List.range (Z.ns - kk)).map (fun t=>kk+t)).map (fun t=>(o t).toNat):=by
     rw[<-List.map_append,<-List.range_add,show kk+(Z.ns - kk)=Z.ns by omega]
    have h3:=q8b _ (((List.range (Z.ns - kk)).map (fun t=>kk+t)).map (fun t=>(o t).toNat)) _ _ _ h1;rw[<-h2] at h3;refine absurd ?_ hno.2;unfold q7w;rw[mem_srtP];exact q8o Ws hlt hrR _ h3
def SyL (Z:Sys) (z:Nat->Nat) (L:Nat->Int) (nl:Nat) (y:Nat->Rat) (n:Nat) (Z':Sys):Prop :=
 Z'.ns=ww (fun k=>!inL L nl k) Z.ns/\Z'.k=ww (xE (goE Z z L nl)) n/\q0D Z' (fun a=>z (enF (fun k=>!inL L nl k) Z.ns a)) (Wp (xG Z z) (goE Z z L nl) n) (q2Z (xG Z z) y (goE Z z L nl) n)/\NzB Z'.b Z'.nb
def Mn.sy (N:Nat) (F:Sys->Prop):Mn:=⟨fun v w=>∃ x1 x2 x3,v=.agg #[x1,x2,x3]/\∃ Z',wS N 0 w.heap.size w v Z'/\F Z',fun e h=>by
 obtain⟨x1,x2,x3,hv,Z',h1,h2⟩:=h
 exact⟨x1,x2,x3,hv,Z',h1.up e,h2⟩⟩
def Mn.syt (N:Nat) (F:Sys->Prop):Mn:=⟨fun v w=>∃ x1 x2 x3,v=.tuple #[.agg #[x1,x2,x3],.int .i64 0]/\∃ Z',wS N 0 w.heap.size w (.agg #[x1,x2,x3]) Z'/\F Z',fun e h=>by
 obtain⟨x1,x2,x3,hv,Z',h1,h2⟩:=h
 exact⟨x1,x2,x3,hv,Z',h1.up e,h2⟩⟩
def q8T (N:Nat) (w:World) (F:Sys->Prop) (e:Ending) (w':World):Prop:=∃ x1 x2 x3,e=.returned (.tuple #[.agg #[x1,x2,x3],.int .i64 0])/\(∃ Z',wS N 0 w'.heap.size w' (.agg #[x1,x2,x3]) Z'/\F Z')/\Ext w w'
theorem q8w {N lo hi lo' hi':Nat}{w:World}{v u:Value}{Z:Sys}(h:wS N lo hi w v Z) (hf:FewF Z) (h0:yO Z=0){nl:Nat}{L:Nat->Int}(hu:IzV N lo' hi' w u nl L) (hl:nl<1000) (hc:q09 L nl Z.ns=0) (hn:0<ww (xE (goE Z (zN Z) L nl)) (qm (zN Z) Z.ns))
  (hr:Reg (ww (goE Z (zN Z) L nl) (qm (zN Z) Z.ns)) (xm (xG Z (zN Z)) (enF (goE Z (zN Z) L nl) (qm (zN Z) Z.ns)))) :
  Calls Tryz.prog 13 #[v,u] w (q8T N w (SyL Z (zN Z) L nl (q8r Z) (qm (zN Z) Z.ns))):=by
 refine (q8S h hf h0 hu hl).mono ?_;rintro e w' ⟨x1,x2,x3,c,rfl,e1,⟨h1,h2⟩ | ⟨rfl,h2,h3,h4,Z',h5,h6⟩⟩
 ·exact absurd hr (h2 hc hn).1
 ·exact⟨x1,x2,x3,rfl,⟨Z',h5,h6⟩,e1⟩
theorem q8G {N lo hi lo' hi':Nat}{w:World}{v u:Value}{Z:Sys}(h:wS N lo hi w v Z) (hf:FewF Z) (h0:yO Z=0){nl:Nat}{L:Nat->Int}(hu:IzV N lo' hi' w u nl L) (hl:nl<1000) (hc:q09 L nl Z.ns=0) (hn:0<ww (xE (goE Z (zN Z) L nl)) (qm (zN Z) Z.ns))
  (hr:¬ Reg (ww (goE Z (zN Z) L nl) (qm (zN Z) Z.ns)) (xm (xG Z (zN Z)) (enF (goE Z (zN Z) L nl) (qm (zN Z) Z.ns)))) :
  Calls Tryz.prog 13 #[v,u] w (zG w (.tuple #[q3I,.int .i64 14])):=by
 have hok:=ZZ h0;refine (Vq h hf.bz hf.kz h0 (zN_ok hok) hu hl rfl (q8I hok) (K0:=17) (den_htm hok (zN_ok hok) hf.br) (q8u hf h0) (fun k hk=>gk17 k (q_l hk (hf.n7 h0)))).mono ?_;rintro e w' ⟨e1,⟨h1,-⟩ | ⟨-,h2,-⟩ | ⟨-,-,-,rfl⟩ | ⟨-,-,h3,-⟩⟩
 ·exact absurd hc h1
 ·omega
 ·exact⟨rfl,e1⟩
 ·exact absurd h3 hr
theorem q89 {L:Nat->Int}(h:q09 L n m=0):∀ i,i<n->0<=L i/\L i<(m:Int)/\∀ j,j<i->L j≠L i:=fun i hi=>by
 have h1:=q3Z h i hi;unfold lsC at h1
 by_cases h2:L i<0\/(m:Int)<=L i
 ·rw[if_pos h2] at h1;cases h1
 ·rw[if_neg h2] at h1;cases h3:xg i (fun t=>decide (L t=L i)) with
  | true=>rw[h3,if_pos rfl] at h1;cases h1
  | false =>
   have h4:=zO.1 h3;exact⟨by omega,by omega,fun j hj=>of_decide_eq_false (h4 j hj)⟩
theorem q8R {L:Nat->Int}(h:∀ i,i<n->0<=L i/\L i<(m:Int)/\∀ j,j<i->L j≠L i):q09 L n m=0:=by
 unfold q09;refine vV fun i hi=>?_
 obtain⟨h1,h2,h3⟩:=h i hi;unfold lsC
 rw[if_neg (by omega),if_neg (by
  rw[zO.2 (fun j hj=>q_f (h3 j hj))]
  decide)]
theorem q8N {L:Nat->Int}(h:q09 L n m=0) (hk:k<=n):q09 L k m=0:=q8R fun i hi=>q89 h i (by omega)
theorem q8O {L:Nat->Int}(h:q09 L n m=0):∀ a b,a<n->b<n->L a=L b->a=b:=fun a b ha hb e=>by
 rcases Nat.lt_trichotomy a b with h1 | h1 | h1
 ·exact absurd e ((q89 h b hb).2.2 a h1)
 ·exact h1
 ·exact absurd e.symm ((q89 h a ha).2.2 b h1)
theorem q8L {L:Nat->Int}(hn:n=m) (h:q09 L n m=0):vN L n m=true:=by
 unfold vN;rw[q_t hn,Bool.true_and,ql];intro i hi;obtain⟨h1,h2,h3⟩:=q89 h i hi;rw[q_t h1,q_t h2,Bool.true_and,Bool.true_and,ql];intro j hj;rw[q_f (h3 j hj)]
 rfl
theorem q8A {Z:Sys}(h0:yO Z=0){L:Nat->Int}{nl:Nat}(hc:q09 L nl Z.ns=0) (hl:nl<Z.ns):0<ww (fun k=>!inL L nl k) Z.ns/\0<ww (xE (goE Z (zN Z) L nl)) (qm (zN Z) Z.ns):=by
 have hok:=ZZ h0;have h1:=q8m (fun t ht=>(q89 hc t ht).1) (q8O hc) Z.ns
 have h2:q8F L nl Z.ns<=nl:=by
  clear h1 hl hc
  induction nl with
  | zero=>exact q_r
  | succ n ih=>unfold q8F;split <;> omega
 have h3:0<ww (fun k=>!inL L nl k) Z.ns:=by omega
 refine⟨h3,?_⟩;have h4:ww (xE (goE Z (zN Z) L nl)) (qm (zN Z) Z.ns)=qm (fun a=>zN Z (enF (fun k=>!inL L nl k) Z.ns a)) (ww (fun k=>!inL L nl k) Z.ns):=(q8v (z:=zN Z) (g:=fun k=>!inL L nl k) (ns:=Z.ns)).symm;rw[h4]
 have h5:(ww (fun k=>!inL L nl k) Z.ns)<=qm (fun a=>zN Z (enF (fun k=>!inL L nl k) Z.ns a)) (ww (fun k=>!inL L nl k) Z.ns):=q1D fun i hi=>by
  have h6:=(q88 (fun k=>!inL L nl k) Z.ns).low i hi;have h7:=zS.1 (hok.szs _ h6);have h8:=zN_ok hok _ h6;omega
 omega
theorem q8B {lo' hi':Nat}{u:Value}{Z:Sys}(h:wS N lo hi w v Z){o:Nat->Int}(hu:IzV N lo' hi' w u n o) (kv:Int) :
  Calls Tryz.prog 5 #[v,u,.int .i64 kv] w (zG w (.bool true)):=by
 have HFW:=q_h fun (w':World) (e:Ext w w')=>rf_Few (h.ext e)
 have HCK:=q_h fun (hf:FewF Z) (w':World) (e:Ext w w')=>rf_Check (h.ext e) hf.br hf.kb
 have HPM:=q_h fun (w':World) (e:Ext w w')=>q8c (h.ext e) (hu.ext e)
 have HBF:=q_h fun (hf:FewF Z) (w':World) (e:Ext w w')=>q7O (h.ext e) hf.bz hf.kz (hu.ext e)
 have HEY:=q_h fun (hf:FewF Z) (h0:yO Z=0) (w':World) (e:Ext w w')=>@q8w N lo hi 0 0 w' v
 have HEN:=q_h fun (hf:FewF Z) (h0:yO Z=0) (w':World) (e:Ext w w')=>@q8G N lo hi 0 0 w' v
 have HSY:=q_h fun (w':World) (e:Ext w w')=>h.ext e
 have HED:Hid (∀ w',Ext w w'->∀ a c:Nat,Calls Tryz.prog 28 #[v,.int .i64 (a:Int),.int .i64 (c:Int)] w' (zG w' (.bool (jw Z Z.nb a c)))):=fun w' e a c=>rf_Edges (h.ext e) a c
 obtain⟨A1,c1,A2,c2,A3,c3,rfl,s1,s2,s3,k1,k2,k3⟩:=h.parts;have hNw:=LsR.le s3;have HU:=q_h hu;obtain⟨A4,c4,rfl,hnc,hcn⟩:=hu.form;unfold maxLen at hcn;clear h s1 s2 s3 hu;go_enter Tryz.func5,Tryz.ntmps5;go_upto_region 1 with (fail);refine qp ?_;intro W hE hsz B0;obtain⟨g0,hg0⟩:=qc w.heap.size;have hgw:w.heap.size<=g0:=by rw[hg0.out];exact q_r
 rw[<-hg0.out] at B0 ⊢;clear hsz hg0;obtain⟨a0,a1,a2,-⟩:=cells3 B0;go_wp2_with (go_at_call 8;refine q_o ?_);refine (q7n _).mono ?_;rintro e w1 ⟨rfl,e1⟩;replace hE:=hE.trans e1;replace B0:=e1.block B0;clear a0 a1 a2 e1;obtain⟨a0,a1,a2,-⟩:=cells3 B0;obtain⟨cd,hcd⟩:=qc (yO Z);obtain⟨fw,hfw⟩:=qc (q64 Z);obtain⟨pm,hpm⟩:=qc (decide (n=Z.ns)&&decide (q09 o n Z.ns=0));obtain⟨bad,hbad⟩:=qc (!fw||(decide (20<n)||(decide (cd≠0)||(!pm||(decide (kv<1)||decide ((n:Int)<=kv))))));have HB0:=q_h B0;have HE0:=q_h hE;clear B0 hE;go_upto_region 3 with (fail)
 go_cut [47] (fun bv wx=>bv=.bool bad/\Ext w1 wx)
 case first =>
  go_wp2_with (go_at_call 9;refine q_o ?_);refine (HFW.out _ HE0.out).mono ?_;rintro e w2 ⟨rfl,e2⟩;rw[<-hfw.out];cases fw with
  | false =>
   have HX:Hid (bad=true):=by rw[Hid,hbad.out];rfl
   go_wp2
   go_meet
   exact⟨by rw[HX.out],e2⟩
  | true =>
  have HF:=q_h (few_sys hfw.out.symm);rw[Bool.not_true,Bool.false_or] at hbad
  by_cases h20:20<n
  ·have t1:decide ((20:Int)<(n:Int))=true:=q_t (by omega);have t1':decide (20<n)=true:=q_t h20;have HX:Hid (bad=true):=by rw[Hid,hbad.out,t1'];rfl
   clear h20;go_wp2
   go_meet
   exact⟨by rw[HX.out],e2⟩
  have t1:decide ((20:Int)<(n:Int))=false:=q_f (by omega);have t1':decide (20<n)=false:=q_f h20;have HB2:Hid (bad=(decide (cd≠0)||(!pm||(decide (kv<1)||decide ((n:Int)<=kv))))):=by rw[Hid,hbad.out,t1'];rfl
  clear h20 hbad;have hE:=HE0.out.trans e2;replace a0:=e2.cell a0;replace a1:=e2.cell a1;replace a2:=e2.cell a2;go_wp2_with (go_at_call 10;refine q_o ?_);refine (HCK.out HF.out _ hE).mono ?_;rintro e w3 ⟨rfl,e3⟩;rw[<-hcd.out]
  by_cases h0:cd=0
  case neg =>
   have t2:(cd != 0)=true:=by simpa using h0
   have HX:Hid (bad=true):=by rw[Hid,HB2.out,q_t h0];rfl
   clear h0;go_wp2
   go_meet
   exact⟨by rw[HX.out],e2.trans e3⟩
  have t2:(cd != 0)=false:=by simpa using h0
  have HB3:Hid (bad=(!pm||(decide (kv<1)||decide ((n:Int)<=kv)))):=by rw[Hid,HB2.out,q_f (fun h9=>h9 h0)];rfl
  clear h0 HB2;replace hE:=hE.trans e3;replace a0:=e3.cell a0;replace a1:=e3.cell a1;replace a2:=e3.cell a2;go_wp2_with (go_at_call 23;refine q_o ?_);refine (HPM.out _ hE).mono ?_;rintro e w4 ⟨rfl,e4⟩;rw[<-hpm.out];cases pm with
  | false =>
   have HX:Hid (bad=true):=by rw[Hid,HB3.out];rfl
   go_wp2
   go_meet
   exact⟨by rw[HX.out],(e2.trans e3).trans e4⟩
  | true =>
  rw[Bool.not_true,Bool.false_or] at HB3
  by_cases hk1:kv<1
  ·have t3:decide (kv<1)=true:=q_t hk1;have HX:Hid (bad=true):=by rw[Hid,HB3.out,t3];rfl
   clear hk1;go_wp2
   go_meet
   exact⟨by rw[HX.out],(e2.trans e3).trans e4⟩
  have t3:decide (kv<1)=false:=q_f hk1;have HX:Hid (decide ((n:Int)<=kv)=bad):=by rw[Hid,HB3.out,t3];rfl
  have t4:=HX.out;clear hk1;go_wp2
  go_meet
  exact⟨rfl,(e2.trans e3).trans e4⟩
 obtain⟨rfl,hcut⟩:=hcut;obtain⟨w5,hw5⟩:∃ w5,w5=wc:=⟨_,rfl⟩
 subst hw5;have HE5:Hid (Ext w w5):=HE0.out.trans hcut;have HB5:=q_h (hcut.block HB0.out);clear hcut a0 a1 a2;cases bad with
 | true =>
  go_wp2
  first | go_ret | skip
  exact⟨rfl,HE5.out⟩
 | false =>
 have h9:=hbad.out.symm;simp only[Bool.or_eq_false_iff,decide_eq_false_iff_not,Bool.not_eq_false',ne_eq,Decidable.not_not] at h9;obtain⟨hf1,hn20,h0,hp1,hk1,hk2⟩:=h9;have HF:=q_h (few_sys (by rw[<-hfw.out];exact hf1));have HC0:Hid (yO Z=0):=by rw[Hid,<-hcd.out];exact h0
 rw[hpm.out,Bool.and_eq_true,decide_eq_true_eq,decide_eq_true_eq] at hp1;obtain⟨hnn,hlz⟩:=hp1;have HPB:Hid (vN o n Z.ns=true):=q8L hnn hlz;obtain⟨kk,hkk⟩:=qc kv.toNat;have hkv:kv=(kk:Int):=by have:=hkk.out;omega
 subst hkv;have hk0:0<kk:=by omega
 have hkn:kk<n:=by omega
 have HLK:Hid (q09 o kk Z.ns=0):=q8N hlz (by omega);have HLP:Hid (0<ww (fun k=>!inL o kk k) Z.ns/\0<ww (xE (goE Z (zN Z) o kk)) (qm (zN Z) Z.ns)):=q8A HC0.out HLK.out (by omega);have hn12:n<=12:=by have:=(ZZ HC0.out).n2;omega
 have HNN:=q_h hnn;clear hf1 hn20 h0 hk1 hk2 hbad hnn hlz hpm hfw hcd hkk cd;have HIU:Hid (IzV N lo' hi' w5 (.slice A4 n c4) n o):=HU.out.ext HE5.out;obtain⟨bu,ou,hA4,-⟩:=HIU.out.addr (by omega);subst hA4;have HTK:Hid (IzV N 0 0 w5 (.slice (some ⟨bu,ou,none⟩) kk c4) kk o):=iz_take HIU.out (by omega);obtain⟨a0,a1,a2,-⟩:=cells3 HB5.out;have t5:(kk:Int)<=(c4:Int):=by omega
 have t6:kk<=c4:=by omega
 have t7:¬ c4=0:=by omega
 have hww:w.heap.size<=w5.heap.size:=HE5.out.size;have hg05:g0<w5.heap.size:=qG HB5.out
 by_cases hreg:Reg (ww (goE Z (zN Z) o kk) (qm (zN Z) Z.ns)) (xm (xG Z (zN Z)) (enF (goE Z (zN Z) o kk) (qm (zN Z) Z.ns)))
 case neg =>
  have HRG:=q_h hreg;clear hreg;go_upto_region 5 with (fail);refine q76 [Mn.eq (.agg #[.slice A1 Z.ns c1,.slice A2 Z.nb c2,.slice A3 Z.k c3]),Mn.eq (.slice (some ⟨bu,ou,none⟩) n c4),Mn.i (kk:Int),Mn.eq (.slice (some ⟨bu,ou,none⟩) kk c4),Mn.eq (.tuple #[q3I,.int .i64 14]),Mn.eq (.tuple #[q3I,.int .i64 14]),Mn.eq (q3I),Mn.i 14,Mn.blk w5.heap.size (.cells #[.slice none 0 0,.slice none 0 0,.slice none 0 0] 26 (0,0)),Mn.any,Mn.any] [some 49,some 50,some 51,some 52,some 53,some 48,some 54,some 55,some 7,none,some 8] [9,10] [7] (rQ 9 2) 2 (by kernel_rfl) ?_ ?_ ?_
  ·show ∀ i,i<11->_
   iterate 11 refine fs ?_ ?_
   ·exact fz
   all_goals intro hl hs;first | exact absurd hl (by decide) | exact absurd hs (by decide) | (clear hl hs;refine stp rfl ?_;intro ac wi eI hB hA K hK)
   have o3:=oOf (hB 3) rfl;have cc0:=eI.cell a0;have cc1:=eI.cell a1;have cc2:=eI.cell a2
   rotate_left
   have o1:=oOf (hB 1) rfl
   rotate_left
   have o2:=oOf (hB 2) rfl
   rotate_left
   obtain⟨_,s50,rfl⟩:=hA 1 50;obtain⟨_,s51,rfl⟩:=hA 2 51
   rotate_left
   obtain⟨_,s49,rfl⟩:=hA 0 49;obtain⟨_,s52,rfl⟩:=hA 3 52;clear hB hA
   ·go_simp;refine (HEN.out HF.out HC0.out _ (HE5.out.trans eI) (HSY.out _ (HE5.out.trans eI)) HF.out HC0.out (HTK.out.ext eI) (by omega) HLK.out HLP.out.2 HRG.out).mono ?_;rintro e wj ⟨rfl,ej⟩;go_wp2_with fail;exact hK.out _ _ ej rfl
   obtain⟨_,s53,rfl⟩:=hA 4 53
   rotate_left
   obtain⟨_,s48,rfl⟩:=hA 5 48
   rotate_left
   clear hB hA
   ·go_simp;refine qp ?_;intro wj ej hszj BJ;exact hK.out _ _ ej ⟨_,rfl,eI.size,BJ⟩
   all_goals clear hB hA;go_simp;exact q_k hK rfl
  ·intro i hs;have hi':i=7:=by simpa using hs
   clear hs
   rcases hi' with rfl
   ·refine sft rfl (fun _ _ _ _ h=>h) ?_;intro ac wi eI hB hA;obtain⟨_,s48,rfl⟩:=hA 5 48;clear hB hA;refine⟨(.int .i64 14),.inl ⟨rfl,fun w9 _=>?_⟩,rfl⟩;go_simp
  intro vals wz eZ hJ;have J54:vals 6=_:=hJ 6 (by decide) (by decide);have J55:vals 7=_:=hJ 7 (by decide) (by decide);have J7:Mn.p (Mn.blk w5.heap.size (.cells #[.slice none 0 0,.slice none 0 0,.slice none 0 0] 26 (0,0))) (vals 8) wz:=hJ 8 (by decide) (by decide);clear hJ;simp only[pr,Nat.reduceAdd,J54,J55];clear J54 J55
  generalize vals 8=z7 at J7 ⊢
  obtain⟨gT,rfl,hgT,BT⟩:=J7;refine qj (i:=9) rfl (by kernel_rfl) (by kernel_rfl) (fun K hK=>?_);obtain⟨r0,r1,r2,r3,r4,r5⟩:=cells3 BT;unfold q3I;go_simp;obtain⟨w6,E6,B6,U6⟩:=ex3 BT (.slice none 0 0) (.slice none 0 0) (.slice none 0 0);rw[E6];refine hK.out _ _ ?_;clear hK K;try simp only[nr]
  refine qj (i:=10) rfl (by kernel_rfl) (by kernel_rfl) (fun K hK=>?_);go_simp;refine hK.out _ _ ?_;clear hK K;try simp only[nr]
  refine qg (by kernel_rfl) ?_ _;have C6:=U6.chg (NoU.mk BT (by decide));have HE6:Hid (Ext w w6):=C6.ext (HE5.out.trans eZ) (by omega);have HB6:=q_h (C6.blk (eZ.block HB5.out) (.inl (by omega)));clear a0 a1 a2 r0 r1 r2 r3 r4 r5 E6 U6 B6 C6 eZ;obtain⟨a0,a1,a2,-⟩:=cells3 HB6.out;go_wp2_with (go_at_call 26;refine q_o ?_);refine (HBF.out HF.out _ HE6.out).mono ?_;rintro e w7 ⟨e7,⟨h9,-⟩ | ⟨-,h9,-⟩ | ⟨-,-,v7,rfl,hp7⟩⟩
  ·exact absurd HC0.out h9
  ·rw[HPB.out] at h9;cases h9
  clear a0 a1 a2;go_wp2
  first | go_ret | skip
  exact⟨rfl,HE6.out.trans e7⟩
 have HRG:=q_h hreg;clear hreg;go_upto_region 5 with (fail);refine q76 [Mn.eq (.agg #[.slice A1 Z.ns c1,.slice A2 Z.nb c2,.slice A3 Z.k c3]),Mn.eq (.slice (some ⟨bu,ou,none⟩) n c4),Mn.i (kk:Int),Mn.eq (.slice (some ⟨bu,ou,none⟩) kk c4),Mn.syt N (SyL Z (zN Z) o kk (q8r Z) (qm (zN Z) Z.ns)),Mn.syt N (SyL Z (zN Z) o kk (q8r Z) (qm (zN Z) Z.ns)),Mn.sy N (SyL Z (zN Z) o kk (q8r Z) (qm (zN Z) Z.ns)),Mn.i 0,Mn.blk w5.heap.size (.cells #[.slice none 0 0,.slice none 0 0,.slice none 0 0] 26 (0,0)),Mn.any,Mn.any] [some 49,some 50,some 51,some 52,some 53,some 48,some 54,some 55,some 7,none,some 8] [9,10] [7] (rQ 9 2) 2 (by kernel_rfl) ?_ ?_ ?_
 ·show ∀ i,i<11->_
  iterate 11 refine fs ?_ ?_
  ·exact fz
  all_goals intro hl hs;first | exact absurd hl (by decide) | exact absurd hs (by decide) | (clear hl hs;refine stp rfl ?_;intro ac wi eI hB hA K hK)
  have o3:=oOf (hB 3) rfl;have cc0:=eI.cell a0;have cc1:=eI.cell a1;have cc2:=eI.cell a2
  rotate_left
  have o1:=oOf (hB 1) rfl
  rotate_left
  have o2:=oOf (hB 2) rfl
  rotate_left
  obtain⟨_,s50,rfl⟩:=hA 1 50;obtain⟨_,s51,rfl⟩:=hA 2 51
  rotate_left
  obtain⟨_,s49,rfl⟩:=hA 0 49;obtain⟨_,s52,rfl⟩:=hA 3 52;clear hB hA
  ·go_simp;refine (HEY.out HF.out HC0.out _ (HE5.out.trans eI) (HSY.out _ (HE5.out.trans eI)) HF.out HC0.out (HTK.out.ext eI) (by omega) HLK.out HLP.out.2 HRG.out).mono ?_;rintro e wj ⟨x1,x2,x3,rfl,hj,ej⟩;go_wp2_with fail;exact hK.out _ _ ej ⟨x1,x2,x3,rfl,hj⟩
  obtain⟨x53,s53,j53⟩:=hA 4 53;replace j53:Mn.p (Mn.syt N (SyL Z (zN Z) o kk (q8r Z) (qm (zN Z) Z.ns))) x53 wi:=j53;clear hB hA
  ·go_simp;exact q_k hK j53
  obtain⟨x48,s48,j48⟩:=hA 5 48;replace j48:Mn.p (Mn.syt N (SyL Z (zN Z) o kk (q8r Z) (qm (zN Z) Z.ns))) x48 wi:=j48;clear hB hA
  ·obtain⟨x1,x2,x3,rfl,hj⟩:=j48;go_simp;exact q_k hK ⟨x1,x2,x3,rfl,hj⟩
  clear hB hA
  ·go_simp;refine qp ?_;intro wj ej hszj BJ;exact hK.out _ _ ej ⟨_,rfl,eI.size,BJ⟩
  all_goals clear hB hA;go_simp;exact q_k hK rfl
 ·intro i hs;have hi':i=7:=by simpa using hs
  clear hs
  rcases hi' with rfl
  ·refine sft rfl (fun _ _ _ _ h=>h) ?_;intro ac wi eI hB hA;obtain⟨x48,s48,j48⟩:=hA 5 48;replace j48:Mn.p (Mn.syt N (SyL Z (zN Z) o kk (q8r Z) (qm (zN Z) Z.ns))) x48 wi:=j48;clear hB hA;obtain⟨x1,x2,x3,rfl,hj⟩:=j48;refine⟨(.int .i64 0),.inl ⟨rfl,fun w9 _=>?_⟩,rfl⟩;go_simp
 intro vals wz eZ hJ;have J54:Mn.p (Mn.sy N (SyL Z (zN Z) o kk (q8r Z) (qm (zN Z) Z.ns))) (vals 6) wz:=hJ 6 (by decide) (by decide);have J55:vals 7=_:=hJ 7 (by decide) (by decide);have J7:Mn.p (Mn.blk w5.heap.size (.cells #[.slice none 0 0,.slice none 0 0,.slice none 0 0] 26 (0,0))) (vals 8) wz:=hJ 8 (by decide) (by decide);clear hJ;simp only[pr,Nat.reduceAdd,J55];clear J55
 generalize vals 6=z54 at J54 ⊢
 generalize vals 8=z7 at J7 ⊢
 obtain⟨gT,rfl,hgT,BT⟩:=J7;obtain⟨x1,x2,x3,rfl,Z',hsv,hsl⟩:=J54;obtain⟨D1,f1,D2,f2,D3,f3,hvx,-,-,-,j1,j2,j3⟩:=hsv.parts;simp only[Value.agg.injEq,Array.mk.injEq,List.cons.injEq,and_true] at hvx;obtain⟨rfl,rfl,rfl⟩:=hvx;refine qj (i:=9) rfl (by kernel_rfl) (by kernel_rfl) (fun K hK=>?_);obtain⟨r0,r1,r2,r3,r4,r5⟩:=cells3 BT;go_simp;obtain⟨w6,E6,B6,U6⟩:=ex3 BT (.slice D1 Z'.ns f1) (.slice D2 Z'.nb f2) (.slice D3 Z'.k f3);rw[E6];refine hK.out _ _ ?_;clear hK K;try simp only[nr]
 refine qj (i:=10) rfl (by kernel_rfl) (by kernel_rfl) (fun K hK=>?_);go_simp;refine hK.out _ _ ?_;clear hK K;try simp only[nr]
 refine qg (by kernel_rfl) ?_ _;have C6:=U6.chg (NoU.mk BT (by decide));have HE6:Hid (Ext w w6):=C6.ext (HE5.out.trans eZ) (by omega);have HB6:=q_h (C6.blk (eZ.block HB5.out) (.inl (by omega)));have HT6:=q_h B6
 have HFB:Hid (∀ q,q<Z'.nb->∃ R C:Nat,(Z'.b q).r=(R:Int)/\(Z'.b q).c=(C:Int)/\R<Z'.ns/\C<Z'.ns/\(enF (fun k=>!inL o kk k) Z.ns C≠enF (fun k=>!inL o kk k) Z.ns R->jw Z Z.nb (enF (fun k=>!inL o kk k) Z.ns C) (enF (fun k=>!inL o kk k) Z.ns R)=true\/(enF (fun k=>!inL o kk k) Z.ns C,enF (fun k=>!inL o kk k) Z.ns R)∈q7w Z o)):=fun q hq =>
  q8C HC0.out HPB.out (by have:=HNN.out;omega) rfl HRG.out hsl.2.2.1 hsl.1 hsl.2.2.2 hq
 have HZP:Hid (∀ i,i<Z'.ns->1<=zN Z (enF (fun k=>!inL o kk k) Z.ns i)):=fun i hi=>by
  have h6:=(q88 (fun k=>!inL o kk k) Z.ns).low i (by rw[<-hsl.1];exact hi);have h7:=zS.1 ((ZZ HC0.out).szs _ h6);have h8:=zN_ok (ZZ HC0.out) _ h6;omega
 have HS6:=q_h (hsv.off C6 (by omega) (q56.three BT) (hsl.2.2.1.pos HZP.out));have HNS:Hid (Z'.ns=ww (fun k=>!inL o kk k) Z.ns):=hsl.1;clear a0 a1 a2 r0 r1 r2 r3 r4 r5 E6 U6 B6 C6 eZ hsv hsl HZP;obtain⟨g,hg⟩:=qc (fun k=>!inL o kk k);rw[<-hg.out] at HFB HNS HLP;obtain⟨a0,a1,a2,-⟩:=cells3 HB6.out;go_wp2_with (go_at_call 26;refine q_o ?_);refine (HBF.out HF.out _ HE6.out).mono ?_;rintro e w7 ⟨e7,⟨h9,-⟩ | ⟨-,h9,-⟩ | ⟨-,-,v7,rfl,hp7⟩⟩
 ·exact absurd HC0.out h9
 ·rw[HPB.out] at h9;cases h9
 have HP7:=q_h hp7;obtain⟨A7,c7,rfl,-⟩:=hp7;obtain⟨lf,hlf⟩:=qc (q7w Z o);rw[<-hlf.out] at HP7 HFB ⊢;have HE7:Hid (Ext w w7):=HE6.out.trans e7;have HX57:Hid (Ext w w7):=HE7.out;have HB7:=q_h (e7.block HB6.out);have HT7:=q_h (e7.block HT6.out);have HS7:=q_h (HS6.out.ext e7);have HIU7:Hid (IzV N lo' hi' w7 (.slice (some ⟨bu,ou,none⟩) n c4) n o):=HU.out.ext HE7.out;have HTK7:Hid (IzV N 0 0 w7 (.slice (some ⟨bu,ou,none⟩) kk c4) kk o):=iz_take HIU7.out (by omega);have hg07:g0<w7.heap.size:=qG HB7.out;have HG0:Hid (zl 3 w7.heap.size w7 (.slice none (xI g 0).length 0) (ivs (xI g 0))):=zl.nil (q_r);obtain⟨m,hm⟩:=qc Z.ns;have hm12:m<=12:=by have:=HNN.out;have:=hm.out;omega
 clear a0 a1 a2 e7 HB6 HT6 HS6 HTK HIU HB5 HE5;obtain⟨a0,a1,a2,-⟩:=cells3 HB7.out;rw[<-hm.out] at a0 HB7 HFB HNS ⊢;go_wp2_with fail
 go_loopw [71,11] (fun iv ov wr=>∃ (i:Nat) (A:Option Addr) (c:Nat),i<=m/\iv=.int .i64 (i:Int)/\ov=.slice A (xI g i).length c/\Hid (zl 3 w7.heap.size wr (.slice A (xI g i).length c) (ivs (xI g i)))/\Hid (Ext w7 wr)) (fun iv _ _=>m - (intOf iv).toNat)
 case atStart=>exact⟨0,none,0,Nat.zero_le _,rfl,rfl,HG0,Ext.refl _⟩
 case round =>
  clear HG0 a0 a1 a2;obtain⟨i,A,c,hi9,rfl,rfl,HG,HE⟩:=hrel
  by_cases hlt:i<m
  case pos =>
   have t1:decide ((i:Int)<(m:Int))=true:=q_t (by omega);have HTKr:=q_h (HTK7.out.ext HE.out);have hrl:=Vx g i;obtain⟨l,hl⟩:=qc (xI g i);rw[<-hl.out] at HG hrl ⊢;go_wp2_with (go_at_call 27;refine q_o ?_);refine (kD HTKr.out (i:Int)).mono ?_;rintro e w8 ⟨rfl,e8⟩;obtain⟨r,hr⟩:=qc (xg kk (fun t=>decide (o t=(i:Int))));have HGI:Hid (g i=!r):=by rw[Hid,hr.out,hg.out];rfl
   have HRS:Hid (xI g (i+1)=l++(if (!r)=true then [i] else [])):=by rw[Hid,jO,HGI.out,hl.out]
   rw[<-hr.out];have HG8:=q_h (HG.out.ext e8);have HE8:Hid (Ext w7 w8):=HE.out.trans e8;clear HG HE HTKr e8;cases r with
   | true =>
    have HL1:Hid (xI g (i+1)=l):=by rw[Hid,HRS.out];simp
    have HL2:Hid ((xI g (i+1)).length=l.length):=by rw[HL1.out];rfl
    rw[<-HL1.out] at HG8;go_wp2;go_roundw
    case rel=>exact⟨i+1,A,c,by omega,by go_num,by rw[HL2.out],HG8,HE8⟩
    case measure=>simp[intOf];omega
   | false =>
    have HL1:Hid (xI g (i+1)=l ++ [i]):=by rw[Hid,HRS.out];simp
    have HL2:Hid ((xI g (i+1)).length=l.length+1):=by rw[Hid,HL1.out,List.length_append];rfl
    have hivl:(ivs l).length=l.length:=kC l;have hxl1:(ivs l).length+1<=1000000000:=by omega
    go_wp2_with (at_builtin;refine q_o ?_);refine qp ?_;intro w9 e9 hsz9 B9;refine kJ Qd rfl _ _ 22 Tryz.underlying22 rfl (by first | rfl | (rw[hivl])) (HG8.out.ext e9) (m:=1) (c:=1) (news:=[.int .i64 (i:Int)]) (by rfl) rfl (yK B9) (fun x hx=>by rw[List.mem_singleton.1 hx];rfl) (by omega) hxl1 ?_;rintro g18 cap18 w18 hG18 hat18 ⟨g9,hlo,hw9,C9,-⟩;rw[Zm,<-HL1.out] at hG18;rw[hivl] at hG18 ⊢;have HG18:Hid (zl 3 w7.heap.size w18 (.slice (some ⟨g18,0,none⟩) (xI g (i+1)).length cap18) (ivs (xI g (i+1)))):=by rw[HL2.out];exact hG18
    have HE18:Hid (Ext w7 w18):=C9.ext (HE8.out.trans e9) hlo;clear hG18 hat18 hlo hw9 C9 B9 e9 hsz9 hxl1 hivl;go_wp2;go_roundw
    case rel=>exact⟨i+1,_,_,by omega,by go_num,by rw[HL2.out],HG18,HE18⟩
    case measure=>simp[intOf];omega
  have t1:decide ((i:Int)<(m:Int))=false:=q_f (by omega);obtain rfl:m=i:=by omega
  have HIX:Hid (IxV N 0 wr.heap.size wr (.slice A (xI g m).length c) (xI g m).length m (fun a=>enF g m a)):=Qi (N:=N) HG.out (fun x hx=>by
   unfold xI at hx
   exact List.mem_range.1 (List.mem_filter.1 hx).1)
  obtain⟨rl,hrl⟩:=qc (xI g m).length;have HRL:Hid (Z'.ns=rl):=by rw[Hid,HNS.out,hrl.out];rfl
  rw[<-hrl.out] at HIX ⊢;have HT8:=q_h (HE.out.block HT7.out);have HS8:=q_h (HS7.out.ext HE.out);have HP8:=q_h (HP7.out.ext HE.out);have HB8:=q_h (HE.out.block HB7.out);have HE8:Hid (Ext w wr):=HE7.out.trans HE.out;have hrl12:rl<=12:=by rw[hrl.out];exact q_l (Vx g m) hm12
  obtain⟨w8,hw8⟩:∃ w8,w8=wr:=⟨_,rfl⟩
  subst hw8;obtain⟨y0,y1,y2,-⟩:=cells3 HT8.out;clear HG HE hlt hi9 HT7 HS7 HP7 HB7 HTK7 HIU7;obtain⟨nb',hnb'⟩:=qc Z'.nb
  have HBV:Hid (q2V N 0 wz.heap.size w8 (.slice D2 nb' f2) nb' Z'.b):=by
   obtain⟨v1,v2,v3,hv,-,hb,-⟩:=HS8.out;simp only[Value.agg.injEq,Array.mk.injEq,List.cons.injEq,and_true] at hv;obtain⟨-,rfl,-⟩:=hv;rw[hnb'.out];exact hb
  rw[<-hnb'.out] at y1 j2 HFB HT8 ⊢;go_wp2_with fail
  go_loopw [88] (fun iv wr=>∃ q:Nat,q<=nb'/\iv=.int .i64 (q:Int)/\Hid (Ext w8 wr)) (fun iv _=>nb' - (intOf iv).toNat)
  case atStart=>exact⟨0,Nat.zero_le _,rfl,Ext.refl _⟩
  case round =>
   clear y0 y1 y2 t1;obtain⟨q,hq9,rfl,HE⟩:=hrel
   by_cases hlt:q<nb'
   case neg =>
    have t1:decide ((q:Int)<(nb':Int))=false:=q_f (by omega);go_wp2
    first | go_ret | skip
    exact⟨rfl,HE8.out.trans HE.out⟩
   have t1:decide ((q:Int)<(nb':Int))=true:=q_t (by omega);have t2:(q:Int)<(nb':Int):=by omega
   obtain⟨b,off,rfl,hx⟩:=(HBV.out.ext HE.out).addr (by omega);obtain⟨Ab,cb,p0,p1,p2,-,-⟩:=(hx q hlt).box;obtain⟨R,C,hR,hC,hRn,hCn,hfb⟩:=HFB.out q hlt;rw[hR] at p0;rw[hC] at p1;rw[HRL.out] at hRn hCn;obtain⟨I,hI⟩:=qc (enF g m C);obtain⟨J,hJ⟩:=qc (enF g m R);rw[<-hI.out,<-hJ.out] at hfb;have HFX:=q_h hfb;obtain⟨bx,ox,hAx,hxx⟩:=(HIX.out.1.ext HE.out).addr (by omega);have HXC:Hid (wr.cell? ⟨bx,ox+C,none⟩=some (.int .i64 ((enF g m C:Nat):Int))):=hxx C hCn;have HXR:Hid (wr.cell? ⟨bx,ox+R,none⟩=some (.int .i64 ((enF g m R:Nat):Int))):=hxx R hRn;rw[<-hI.out] at HXC;rw[<-hJ.out] at HXR;obtain⟨mq,hmq⟩:=qc (Z'.b q).m;rw[<-hmq.out] at p2;obtain⟨wq,hwq⟩:∃ wq,wq=wr:=⟨_,rfl⟩
   subst hwq;subst hAx;clear hx hxx hfb hR hC;go_upto_region 21 with (fail);refine qp ?_;intro w9 e9 hsz9 B9;obtain⟨g9,hg9⟩:=qc wq.heap.size;rw[<-hg9.out] at B9 ⊢;obtain⟨b0,b1,b2,-⟩:=cells3 B9;have q0:=e9.cell HXC.out;have q1:=e9.cell HXR.out;have HE9:Hid (Ext w8 w9):=HE.out.trans e9;have t3:decide ((R:Int)<0)=false:=q_f (by omega);have t4:decide ((C:Int)<0)=false:=q_f (by omega);have t5':decide ((rl:Int)<=(R:Int))=false:=q_f (by omega);have t6':decide ((rl:Int)<=(C:Int))=false:=q_f (by omega);have t5'':decide (rl<=R)=false:=q_f (by omega);have t6'':decide (rl<=C)=false:=q_f (by omega);have t8:(R:Int)<(rl:Int):=by omega
   have t9:(C:Int)<(rl:Int):=by omega
   clear p0 p1 p2 e9 hsz9 hg9 HE B9;go_upto_region 23 with (fail)
   go_cut [15,16] (fun iv jv wx=>iv=.int .i64 (I:Int)/\jv=.int .i64 (J:Int)/\Ext w9 wx)
   case first =>
    go_quiet (fail)
    go_wp2
    go_meet
    exact⟨rfl,rfl,(Ext.refl _).drewN _⟩
   obtain⟨rfl,rfl,hcut⟩:=hcut;obtain⟨w10,hw10⟩:∃ w10,w10=wc:=⟨_,rfl⟩
   subst hw10;have HE10:Hid (Ext w8 w10):=HE9.out.trans hcut;clear hcut b0 b1 b2 q0 q1 HXC HXR t3 t4 t5' t6' t5'' t6'';obtain⟨a0,a1,a2,-⟩:=cells3 (HE10.out.block HB8.out);go_upto_region 24 with (fail)
   go_cut [141] (fun bv wx=>bv=.bool false/\Ext w10 wx)
   case first =>
    by_cases hij:I=J
    ·have t3:((I:Int) != (J:Int))=false:=by rw[hij];simp
     clear hij;go_wp2
     go_meet
     exact⟨rfl,Ext.refl _⟩
    have t3:((I:Int) != (J:Int))=true:=by simp;omega
    have HOR:=q_h (HFX.out hij);clear hij;go_wp2_with (go_at_call 28;refine q_o ?_);rw[hm.out];refine (HED.out _ (HE8.out.trans HE10.out) I J).mono ?_;rintro e w11 ⟨rfl,e11⟩;rw[<-hm.out];obtain⟨ed,hed⟩:=qc (jw Z Z.nb I J);rw[<-hed.out];clear a0 a1 a2;cases ed with
    | true =>
     go_wp2
     go_meet
     exact⟨rfl,e11⟩
    | false =>
     have HMM:Hid ((I,J)∈lf):=by
      rcases HOR.out with h9 | h9
      ·rw[<-hed.out] at h9;cases h9
      ·exact h9
     go_wp2_with (go_at_call 29;refine q_o ?_);refine (q8e ((HP8.out.ext HE10.out).ext e11) I J).mono ?_;rintro e w12 ⟨rfl,e12⟩;rw[decide_eq_true HMM.out];go_wp2
     go_meet
     exact⟨rfl,e11.trans e12⟩
   obtain⟨rfl,hcut⟩:=hcut;have HE11:Hid (Ext w8 wc):=HE10.out.trans hcut;clear hcut a0 a1 a2;go_wp2;go_roundw
   case rel=>exact⟨q+1,by omega,by go_num,HE11⟩
   case measure=>simp[intOf];omega
end Go.Proofs.YtpkmjhmmmdkodaaGreat
