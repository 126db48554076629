import Derived.Test.YtpkmjhmmmdkodaaGreatWx30
set_option linter.all false
set_option maxHeartbeats 8000000
set_option maxRecDepth 100000
namespace Go.Proofs.YtpkmjhmmmdkodaaGreat
open Go.RowKit
variable {w w':World} {N n lo hi k i m base c b j K:Nat} {v:Value}
theorem q8p {lo' hi':Nat}{v':Value}{x y:q_m}(h:MtV N lo hi w v m n x) (h':MtV N lo' hi' w v' m n y) (hz:∀i,i<m->∀j,j<n->Sz (x i j)) (he:∀i,i<m->∀j,j<n->x i j=y i j) :
  Calls Tryz.prog 36 #[v,v'] w (zI w (.bool true)):=by
 obtain⟨A,c,rfl,hnc,hcm⟩:=h.form;obtain⟨A',c',rfl,hnc',hcm'⟩:=h'.form;unfold maxLen at hcm hcm';have hI:=h;have hI':=h';have HZ:=q_h hz;have HE:=q_h he;clear hz he h h';go_enter Tryz.func36,Tryz.ntmps36;go_wp2
 go_loopw [5] (fun i wr=>∃k:Nat,k<=m/\i=.int .i64 k/\Ext w wr) (fun i _=>m-(intOf i).toNat)
 case atStart=>exact⟨0,Nat.zero_le _,rfl,Ext.refl w⟩
 case round =>
  obtain⟨k,hk,rfl,hE⟩:=hrel
  by_cases hlt:k<m
  ·obtain⟨b,off,rfl,-,-,hx⟩:=(hI.ext hE).addr (by omega);obtain⟨b',off',rfl,-,-,hx'⟩:=(hI'.ext hE).addr (by omega);obtain⟨A1,c1,p0,-,-,hv⟩:=hx k hlt;obtain⟨A3,c3,q0,-,-,hv'⟩:=hx' k hlt;clear hx hx';go_wp2;have eC:=(Ext.refl wr).drew;refine qx (fun w'=>w'.cell? ⟨b,off+k,none⟩=some (.slice A1 n c1)/\w'.cell? ⟨b',off'+k,none⟩=some (.slice A3 n c3)) [] (by kernel_rfl) (by exact⟨eC.cell p0,eC.cell q0⟩) (fun hHeld=>?_);refine sP 0 (h:=?_);try simp only[nr]
   refine sP 1 (h:=?_);try simp only[nr]
   refine sP 2 (h:=?_);try simp only[nr]
   refine sT 3 (h:=?_);try simp only[nr]
   refine sP 4 (h:=?_);try simp only[nr]
   refine sP 5 (h:=?_);try simp only[nr]
   refine sP 6 (h:=?_);try simp only[nr]
   refine sT 7 (h:=?_);try simp only[nr]
   refine qA (i:=8) rfl (by kernel_rfl) (fun K hK=>?_);go_simp;refine (YB (x:=x k) (y:=y k) (by exact hv.ext eC) (by exact hv'.ext eC) (HZ.out k hlt) (HE.out k hlt)).mono ?_;rintro e w1 ⟨rfl,e1⟩;replace eC:=eC.trans e1;go_wp2_with fail;clear hHeld;refine hK.out _ _ (by exact⟨eC.cell p0,eC.cell q0⟩) fun hHeld=>?_
   clear hK K;try simp only[nr]
   refine sP 9 (h:=?_);try simp only[nr]
   refine qg (by kernel_rfl) ?_ _;clear hHeld;go_wp2;go_roundw
   case rel=>exact⟨k+1,by omega,by go_num,hE.trans eC⟩
   case measure=>simp[intOf];omega
  ·go_wp2;go_ret;exact⟨rfl,hE⟩
section
variable {ET:TypeId}{base:Nat}{w w':World}{v:Value}{xs:List Value}
theorem qZ.form (h:qZ ET base w v xs):∃A c,v=.slice A xs.length c/\xs.length<=c:=by
 rcases h.2.2 with ⟨rfl,h0⟩|⟨g,cap,cur,rfl,_,_,hc,_⟩
 ·exact⟨_,_,by rw[h0],by omega⟩
 ·exact⟨_,_,rfl,hc⟩
theorem qZ.low {b':Nat}(h:qZ ET base w v xs) (hb:b'<=base):qZ ET b' w v xs:=by
 refine⟨q_l hb h.1,h.2.1,?_⟩
 rcases h.2.2 with h0|⟨g,cap,cur,hv,hb0,h3⟩
 ·exact .inl h0
 ·exact .inr ⟨g,cap,cur,hv,by omega,h3⟩
end
end Go.Proofs.YtpkmjhmmmdkodaaGreat
namespace Go.Proofs.YtpkmjhmmmdkodaaGreat
variable {w w':World} {N n lo hi k i m base c b j K:Nat} {v:Value}
theorem q8h{M S S':q_m}{E:Nat->Bool}(hf:Fil n M E) (h:q2Q n M E S) (h':q2Q n M E S')(hi:i<n) (hj:j<n) (hEi:E i=false) (hEj:E j=false):S i j=S' i j:=by
 obtain⟨x,hx,h0⟩:=hf (dlt j)
 have key:∀T:Nat->Nat->Rat,sum n (fun c=>if E c=true then 0 else T i c*x c)=T i j:=fun T=>by
  rw[xw hj (fun c _ hne=>by
   cases hc:E c with
   | true=>rfl
   | false=>simp only[Bool.false_eq_true,if_false];rw[hx c hc,kQ (fun e=>hne e.symm)];grind)]
  simp only[hEj,Bool.false_eq_true,if_false];rw[hx j hEj,kX];grind
 rw[<-key S,<-key S',<-h x h0 i hi hEi,<-h' x h0 i hi hEi]
theorem Enm.rest {n1:Nat}{E:Nat->Bool}{l:Nat->Nat}(h:Enm n n1 (xE E) l) (f:q_v):Go.Proofs.YtpkmjhmmmdkodaaGreat.sum n (fun j=>if E j=true then 0 else f j)=Go.Proofs.YtpkmjhmmmdkodaaGreat.sum n1 (fun p=>f (l p)):=by
 rw[<-h.sum];exact qf fun c _=>by unfold xE;cases E c<;>rfl
theorem q8B {n1:Nat}{M S:q_m}{E:Nat->Bool}{l:Nat->Nat}(hl:Enm n n1 (xE E) l) (hS:q2Q n M E S){x:q_v}(hx:∀i,i<n->E i=true->av n M x i=0){p:Nat}(hp:p<n1):av n M x (l p)=av n1 (xm S l) (fun q=>x (l q)) p:=by
 have hE:E (l p)=false:=by have:=hl.mem p hp;unfold xE at this;simpa using this
 rw[hS x hx (l p) (hl.low p hp) hE,hl.rest]
 rfl
theorem q8R {n1:Nat}{E:Nat->Bool}{l:Nat->Nat}(hl:Enm n n1 (xE E) l) (y:q_v):∃v:Nat->Rat,∀p,p<n1->v (l p)=y p:=⟨spr n1 l y,fun p hp=>q0N hl y hp⟩
theorem q8P {n1:Nat}{M S1:q_m}{E1 E2:Nat->Bool}{l:Nat->Nat}(hl:Enm n n1 (xE E1) l) (hf:Fil n M E1) (h1:q2Q n M E1 S1) (hr:q0u n M (both E1 E2)) (hd:∀i,E2 i=true->E1 i=false):q0u n1 (xm S1 l) (fun p=>E2 (l p)):=by
 intro y hy h0 p hp;obtain⟨v,hv⟩:=q8R hl (fun p=>if E2 (l p)=true then y p else 0);obtain⟨x,hx,hx0⟩:=hf (fun i=>if E2 i=true then v i else 0);have hE1:∀q,q<n1->E1 (l q)=false:=fun q hq=>by have:=hl.mem q hq;unfold xE at this;simpa using this
 have hxl:∀q,q<n1->x (l q)=y q:=fun q hq=>by
  rw[hx (l q) (hE1 q hq)];cases h2:E2 (l q) with
  | true=>simp only[if_true];rw[hv q hq,h2];rfl
  | false=>simp only[Bool.false_eq_true,if_false];exact (hy q hq h2).symm
 have hz:=hr x (fun i _ hi=>by
  obtain⟨a1,a2⟩:=J5 hi;rw[hx i a1,a2];rfl) (fun i hi hb=>by
  cases h1':E1 i with
  | true=>exact hx0 i hi h1'
  | false =>
   have h2:E2 i=true:=by unfold both at hb;rw[h1'] at hb;simpa using hb
   obtain⟨q,hq,rfl⟩:=hl.onto i hi (by unfold xE;rw[h1'];rfl);rw[q8B hl h1 hx0 hq];have:=h0 q hq h2;unfold av at this ⊢;rw[<-this]
   exact qf fun c hc=>by show xm S1 l q c*x (l c)=_;rw[hxl c hc])
 rw[<-hxl p hp];exact hz (l p) (hl.low p hp)
theorem q8H {n1:Nat}{M S1 S:q_m}{E1 E2:Nat->Bool}{l:Nat->Nat}(hl:Enm n n1 (xE E1) l) (hf:Fil n M E1) (h1:q2Q n M E1 S1) (hS:q2Q n M (both E1 E2) S) (hd:∀i,E2 i=true->E1 i=false):q2Q n1 (xm S1 l) (fun p=>E2 (l p)) (xm S l):=by
 intro y h0 p hp hE2';have hE2:E2 (l p)=false:=hE2';obtain⟨v,hv⟩:=q8R hl y;obtain⟨x,hx,hx0⟩:=hf v;have hE1:∀q,q<n1->E1 (l q)=false:=fun q hq=>by have:=hl.mem q hq;unfold xE at this;simpa using this
 have hxl:∀q,q<n1->x (l q)=y q:=fun q hq=>by rw[hx (l q) (hE1 q hq),hv q hq]
 have hrow:∀q,q<n1->av n M x (l q)=av n1 (xm S1 l) y q:=fun q hq=>by
  rw[q8B hl h1 hx0 hq];exact qf fun c hc=>by show xm S1 l q c*x (l c)=_;rw[hxl c hc]
 have h3:=hS x (fun i hi hb=>by
  cases h1':E1 i with
  | true=>exact hx0 i hi h1'
  | false =>
   have h2:E2 i=true:=by unfold both at hb;rw[h1'] at hb;simpa using hb
   obtain⟨q,hq,rfl⟩:=hl.onto i hi (by unfold xE;rw[h1'];rfl);rw[hrow q hq]
   exact h0 q hq h2) (l p) (hl.low p hp) (by unfold both;rw[hE1 p hp,hE2];rfl)
 rw[<-hrow p hp,h3]
 have h4:sum n (fun j=>if both E1 E2 j=true then 0 else S (l p) j*x j)=sum n (fun j=>if E1 j=true then 0 else (if E2 j=true then 0 else S (l p) j*x j)):=qf fun j _=>by
  unfold both;cases E1 j<;>cases E2 j<;>rfl
 rw[h4,hl.rest]
 exact qf fun q hq=>by
  show (if E2 (l q)=true then 0 else S (l p) (l q)*x (l q))=if E2 (l q)=true then 0 else S (l p) (l q)*y q
  rw[hxl q hq]
end Go.Proofs.YtpkmjhmmmdkodaaGreat
namespace Go.Proofs.YtpkmjhmmmdkodaaGreat
open Go.RowKit
variable {w w':World} {N n lo hi k i m base c b j K:Nat} {v:Value}
theorem q87 (M:q_m) (E:Nat->Bool) (n a b:Nat):Wj M E n a b=Jm (vZ E n) M (enF E n) (enF (xE E) n a) (enF (xE E) n b):=by
 unfold Wj Jm q0v q6c elmX;rw[jX]
 rfl
section
variable {M:q_m}{y:q_v}{E:Nat->Bool}{n K0:Nat}
theorem q8K (hM:HtM n n K0 M) (hy:HtL n K0 y):HtL (vZ (xE E) n) (gK (vZ E n) K0) (q2V M y E n):=fun a ha=>by
 refine ((hy _ (kP ha)).sub (?_:Ht (vZ E n*((vZ E n*(K0+5 ^ vZ E n*(K0+1)+1)+1)+K0+1)+1) _)).mono (by unfold gK;omega);unfold av;exact Zp fun i hi=>(q6b hM a ha i hi).mul (hy _ (kP hi))
end
theorem q8C {lo' hi':Nat}{u:Value}{Z:Sys}(h:Qn N lo hi w v Z){nl:Nat}{L:Nat->Int}(hu:IzV N lo' hi' w u nl L) :
  Calls Tryz.prog 11 #[v,u] w (zI w (.int .i64 (q05 L nl Z.ns))):=by
 obtain⟨Q,hQ⟩:=qc (zI w (.int .i64 (q05 L nl Z.ns)));rw[<-hQ.out];have HU:=q_h hu;obtain⟨A1,c1,A2,c2,A3,c3,rfl,s1,s2,s3,k1,k2,k3⟩:=h.parts;obtain⟨A4,c4,rfl,hnc,hcn⟩:=hu.form;unfold maxLen at hcn;obtain⟨m,hm⟩:=qc Z.ns;obtain⟨cd,hcd⟩:=qc (q05 L nl Z.ns);rw[<-hcd.out] at hQ;rw[<-hm.out] at hcd k1 ⊢;clear h s1 s2 s3 hu;go_enter Tryz.func11,Tryz.ntmps11;go_upto_region 1 with (fail);refine qp ?_;intro W hE hsz B0;obtain⟨g0,hg0⟩:=qc w.heap.size;rw[<-hg0.out] at B0 ⊢;have HB0:=q_h B0;have HEW:=q_h hE;clear hg0 B0 hE hsz;obtain⟨w1,hw1⟩:∃w1,w1=W:=⟨_,rfl⟩
 subst hw1;go_wp2_with fail
 go_loopw [5] (fun iv wr=>∃i:Nat,i<=nl/\iv=.int .i64 (i:Int)/\Hid (∀j,j<i->lsC L m j=0)/\Hid (Ext w1 wr)) (fun iv _=>nl-(intOf iv).toNat)
 case atStart=>exact⟨0,Nat.zero_le _,rfl,fun j hj=>absurd hj (Nat.not_lt_zero j),Ext.refl _⟩
 case round =>
  obtain⟨i,hi9,rfl,HA,HE⟩:=hrel;obtain⟨a0,a1,a2,-⟩:=cells3 (HE.out.block HB0.out)
  by_cases hlt:i<nl
  case neg =>
   have t1:decide ((i:Int)<(nl:Int))=false:=q_f (by omega);obtain rfl:nl=i:=by omega
   have HF:Hid (cd=0):=by rw[Hid,hcd.out];exact vT HA.out
   go_wp2
   first|go_ret|skip
   rw[hQ.out,HF.out];exact⟨rfl,HEW.out.trans HE.out⟩
  have t1:decide ((i:Int)<(nl:Int))=true:=q_t (by omega);have t2:(i:Int)<(nl:Int):=by omega
  have HIZ:Hid (IzV N lo' hi' wr (.slice A4 nl c4) nl L):=HU.out.ext (HEW.out.trans HE.out);obtain⟨b,off,rfl,hx⟩:=HIZ.out.addr (by omega);have p0:=hx i hlt
  have HCI:Hid (lsC L m i≠0->cd=lsC L m i):=fun h9=>by
   rw[hcd.out];unfold q05;exact XR hlt HA.out h9
  obtain⟨u,hu⟩:=qc (L i);rw[<-hu.out] at p0
  have HLS:Hid (lsC L m i=if u<0\/(m:Int)<=u then 2 else if xg i (fun t=>decide (L t=u))=true then 7 else 0):=by
   rw[hu.out];rfl
  clear hx;obtain⟨bd,hbd⟩:=qc (decide (u<0)||decide ((m:Int)<=u));go_upto_region 4 with (fail)
  go_cut [26] (fun bv wx=>bv=.bool bd/\Ext wr wx)
  case first =>
   by_cases hu0:u<0
   ·have t3:decide (u<0)=true:=q_t hu0;have HB9:Hid (bd=true):=by rw[Hid,hbd.out,t3];rfl
    clear hu0
    go_quiet (fail)
    go_wp2
    go_meet
    exact⟨by rw[HB9.out],(Ext.refl _).drewN _⟩
   ·have t3:decide (u<0)=false:=q_f hu0;have HB9:Hid (decide ((m:Int)<=u)=bd):=by rw[Hid,hbd.out,t3];rfl
    have t4:=HB9.out;clear hu0
    go_quiet (fail)
    go_wp2
    go_meet
    exact⟨rfl,(Ext.refl _).drewN _⟩
  obtain⟨rfl,hcut⟩:=hcut;cases bd with
  | true =>
   have HF:Hid (cd=2):=by
    have h9:=HLS.out;have h8:=hbd.out.symm;rw[Bool.or_eq_true,decide_eq_true_eq,decide_eq_true_eq] at h8;rw[if_pos h8] at h9;have:=HCI.out (by rw[h9];decide);rw[Hid,this,h9]
   go_wp2
   first|go_ret|skip
   rw[hQ.out,HF.out];exact⟨rfl,(HEW.out.trans HE.out).trans hcut⟩
  | false =>
  have hbad:¬(u<0\/(m:Int)<=u):=fun h8=>by
   rw[<-decide_eq_true_eq (p:=u<0),<-decide_eq_true_eq (p:=(m:Int)<=u),<-Bool.or_eq_true,<-hbd.out] at h8;cases h8
  replace a0:=hcut.cell a0;replace p0:=hcut.cell p0;have HIZ':=q_h (HIZ.out.ext hcut);have HEC:Hid (Ext w1 wc):=HE.out.trans hcut;clear hcut a1 a2
  have HL2:Hid (lsC L m i=if xg i (fun t=>decide (L t=u))=true then 7 else 0):=by
   have h9:=HLS.out
   rwa [if_neg hbad] at h9
  have hc40:¬c4=0:=by omega
  have t5:(i:Int)<=(c4:Int):=by omega
  have t6:i<=c4:=by omega
  obtain⟨r,hr⟩:=qc (xg i (fun t=>decide (L t=u)));rw[<-hr.out] at HL2;clear hbad;go_upto_region 6 with (fail);refine jL [Mn.eq (.slice (some ⟨b,off,none⟩) nl c4),Mn.i (i:Int),Mn.eq (.slice (some ⟨b,off,none⟩) i c4),Mn.eq (.slice (some ⟨b,off,none⟩) nl c4),Mn.i (i:Int),Mn.q b (off+i),Mn.i u,Mn.t r] (sM [27,28,29,30,31,32,33,34]) [] (rQ 8 0) 0 (by kernel_rfl) ?_ ?_
  ·show ∀i,i<8->_
   iterate 8 refine fs ?_ ?_
   ·exact fz
   all_goals intro hl;clear hl;refine stp rfl ?_;intro ac wi eI hB hA K hK
   have o1:=oOf (hB 1) rfl;rotate_left;have o5:=oOf (hB 5) rfl;rotate_left;obtain⟨_,s27,rfl⟩:=hA 0 27;obtain⟨_,s28,rfl⟩:=hA 1 28;rotate_left;have o1:=oOf (hB 1) rfl;rotate_left;have o5:=oOf (hB 5) rfl;rotate_left;obtain⟨_,s30,rfl⟩:=hA 3 30;obtain⟨_,s31,rfl⟩:=hA 4 31;rotate_left;obtain⟨_,s32,rfl⟩:=hA 5 32;have cc0:=eI.cell p0;rotate_left;obtain⟨_,s29,rfl⟩:=hA 2 29;obtain⟨_,s33,rfl⟩:=hA 6 33;clear hB hA
   ·go_simp;refine (rf_has (iz_take (lo':=0) (hi':=0) (HIZ'.out.ext eI) (by omega)) u).mono ?_;rw[<-hr.out];rintro e wj ⟨rfl,ej⟩;go_wp2_with fail;exact hK.out _ _ ej rfl
   all_goals clear hB hA;go_simp;exact q_k hK rfl
  intro vals wz eZ hJ;have J34:vals 7=_:=hJ 7 (by decide) (by decide);clear hJ;simp only[pr,Nat.reduceAdd,J34];clear J34;refine qg (by kernel_rfl) ?_ _;cases r with
  | true =>
   have HF:Hid (cd=7):=by
    have h9:=HL2.out;rw[if_pos rfl] at h9;have:=HCI.out (by rw[h9];decide);rw[Hid,this,h9]
   clear a0 p0;go_wp2
   first|go_ret|skip
   rw[hQ.out,HF.out];exact⟨rfl,(HEW.out.trans HEC.out).trans eZ⟩
  | false =>
   have HN:Hid (∀j,j<i+1->lsC L m j=0):=fun j hj=>by
    by_cases hji:j=i
    ·rw[hji,HL2.out,if_neg (by decide)]
    ·exact HA.out j (by omega)
   have HE3:Hid (Ext w1 wz):=HEC.out.trans eZ;clear a0 p0 eZ;go_wp2;go_roundw
   case rel=>exact⟨i+1,by omega,by go_num,HN,HE3⟩
   case measure=>simp[intOf];omega
theorem q8r {f g:Nat->Nat}(hf:∀i j,i<j->j<n->f i<f j) (hg:∀i j,i<j->j<m->g i<g j) (h1:∀i,i<n->∃k,k<m/\f i=g k) (h2:∀i,i<m->∃k,k<n/\g i=f k):n=m/\∀i,i<n->f i=g i:=by
 have key:∀i,(i<n->i<m/\f i=g i)/\(i<m->i<n):=by
  intro i
  induction i using Nat.strongRecOn with
  | ind i ih =>
   have fwd:i<n->i<m/\f i=g i:=by
    intro hi;obtain⟨k,hk,hfk⟩:=h1 i hi
    have hki:i<=k:=by
     rcases Nat.lt_or_ge k i with h|h
     ·have h3:=(ih k h).1 (by omega);have h4:=hf k i h hi;omega
     ·exact h
    have him:i<m:=by omega
    obtain⟨k',hk',hgk⟩:=h2 i him
    have hki':i<=k':=by
     rcases Nat.lt_or_ge k' i with h|h
     ·have h3:=(ih k' h).1 (by omega);have h4:=hg k' i h him;omega
     ·exact h
    have a1:g i<=g k:=by
     rcases Nat.lt_or_ge i k with h|h
     ·exact Nat.le_of_lt (hg i k h hk)
     ·have h5:i=k:=by omega
      rw[h5];exact q_r
    have a2:f i<=f k':=by
     rcases Nat.lt_or_ge i k' with h|h
     ·exact Nat.le_of_lt (hf i k' h hk')
     ·have h5:i=k':=by omega
      rw[h5];exact q_r
    exact⟨him,by omega⟩
   refine⟨fwd,fun him=>?_⟩;obtain⟨k,hk,hgk⟩:=h2 i him
   rcases Nat.lt_or_ge k i with h|h
   ·have h3:=(ih k h).1 hk;have h4:=hg k i h him;omega
   ·omega
 refine⟨?_,fun i hi=>((key i).1 hi).2⟩;have a:=(key n).2;have b:=(key m).1;omega
theorem q85 {z z':Nat->Nat}:∀ {k:Nat},(∀i,i<k->z i=z' i)->qm z k=qm z' k
 | 0,_=>rfl
 | k+1,h=>by
  show qm z k+z k=qm z' k+z' k
  rw[q85 (fun i hi=>h i (by omega)),h k (by omega)]
section
variable {Z Z':Sys}{z z':Nat->Nat}{M M':q_m}{y y':q_v}
def q8S (b:Nat->Bkk) (i:Nat):Nat:=(b i).r.toNat*12+(b i).c.toNat
theorem q8G (H:q0x Z z M y) (h12:Z.ns<=12):∀i j,i<j->j<Z.nb->q8S Z.b i<q8S Z.b j:=by
 intro i j hij hj
 induction j with
 | zero=>omega
 | succ j ih =>
  have h1:=H.ord (j+1) (by omega) hj;rw[Nat.add_sub_cancel,J6] at h1;obtain⟨r,c,hc,hr,e1,e2,-⟩:=H.bk j (by omega);obtain⟨r',c',hc',hr',e1',e2',-⟩:=H.bk (j+1) hj
  have h2:q8S Z.b j<q8S Z.b (j+1):=by
   unfold q8S;rw[e1,e2,e1',e2'] at h1 ⊢;simp only[Int.toNat_natCast];omega
  rcases Nat.lt_or_ge i j with h|h
  ·have:=ih h (by omega);omega
  ·have:i=j:=by omega
   rw[this];exact h2
theorem q8A (H:q0x Z z M y) (H':q0x Z' z' M' y') (hns:Z.ns=Z'.ns) (hz:∀i,i<Z.ns->z i=z' i) (hM:∀i j,i<qm z Z.ns->j<qm z Z.ns->M i j=M' i j) (hn:NzB Z.b Z.nb)(hi:i<Z.nb):∃k,k<Z'.nb/\(Z.b i).r=(Z'.b k).r/\(Z.b i).c=(Z'.b k).c:=by
 obtain⟨r,c,hc,hr,e1,e2,e3,e4,e5⟩:=H.bk i hi
 apply Decidable.byContradiction
 intro hno;obtain⟨a,ha,e,he,h0⟩:=hn i hi;rw[e3] at ha;rw[e4 a ha] at he;rw[e5 a ha e he,xy] at h0
 apply h0
 have hb1:qm z (r+1)<=qm z Z.ns:=zC z (by omega);have hb2:qm z (c+1)<=qm z Z.ns:=zC z (by omega);have hb3:qm z (r+1)=qm z r+z r:=rfl;have hb4:qm z (c+1)=qm z c+z c:=rfl;rw[hM _ _ (by omega) (by omega),q85 (fun j hj=>hz j (by omega)) (k:=r),q85 (fun j hj=>hz j (by omega)) (k:=c)];exact H'.zero r c hc (by omega) (fun k hk hh=>hno ⟨k,hk,by rw[e1,hh.1],by rw[e2,hh.2]⟩) a (by rw[<-hz r hr];exact ha) e (by rw[<-hz c (by omega)];exact he)
theorem q8X (H:q0x Z z M y) (H':q0x Z' z' M' y') (h12:Z.ns<=12) (hns:Z.ns=Z'.ns) (hz:∀i,i<Z.ns->z i=z' i) (hM:∀i j,i<qm z Z.ns->j<qm z Z.ns->M i j=M' i j) (hn:NzB Z.b Z.nb) (hn':NzB Z'.b Z'.nb):Z.nb=Z'.nb/\∀i,i<Z.nb->(Z.b i).r=(Z'.b i).r/\(Z.b i).c=(Z'.b i).c:=by
 have hoff:qm z Z.ns=qm z' Z'.ns:=by rw[<-hns];exact q85 hz
 have h1:=fun i (hi:i<Z.nb)=>q8A H H' hns hz hM hn hi
 have h2:=fun i (hi:i<Z'.nb)=>q8A H' H hns.symm (fun j hj=>(hz j (by omega)).symm) (fun a b ha hb=>(hM a b (by omega) (by omega)).symm) hn' hi
 obtain⟨h3,h4⟩:=q8r (q8G H h12) (q8G H' (by omega)) (fun i hi=>by
  obtain⟨k,hk,a,b⟩:=h1 i hi;exact⟨k,hk,by unfold q8S;rw[a,b]⟩) (fun i hi=>by
  obtain⟨k,hk,a,b⟩:=h2 i hi
  exact⟨k,hk,by unfold q8S;rw[a,b]⟩)
 refine⟨h3,fun i hi=>?_⟩;have h5:=h4 i hi;obtain⟨r,c,hc,hr,e1,e2,-⟩:=H.bk i hi;obtain⟨r',c',hc',hr',e1',e2',-⟩:=H'.bk i (by omega);unfold q8S at h5;rw[e1,e2,e1',e2'] at h5 ⊢;simp only[Int.toNat_natCast] at h5;omega
theorem q9a (H:q0x Z z M y) (h0:Okk Z) (hs:∀i j,i<qm z Z.ns->j<qm z Z.ns->M i j=M j i):∀a,a<qm z Z.ns->∀b,b<qm z Z.ns->xM Z z a b=M a b:=by
 have low:∀a b,b<=a->a<qm z Z.ns->xM Z z a b=M a b:=by
  intro a b hab ha;unfold xM;rw[Nat.max_eq_left hab,Nat.min_eq_right hab];unfold q7v;obtain⟨r1,r2,r3⟩:=KW ha;obtain⟨c1,c2,c3⟩:=KW (show b<qm z Z.ns by omega);obtain⟨r,hr⟩:∃r,r=wI z Z.ns a:=⟨_,rfl⟩
  obtain⟨c,hc⟩:∃c,c=wI z Z.ns b:=⟨_,rfl⟩
  rw[<-hr] at r1 r2 r3 ⊢;rw[<-hc] at c1 c2 c3 ⊢
  have hcr:c<=r:=by
   rcases Nat.lt_or_ge r c with h|h
   ·have:=zC z (show r+1<=c by omega);omega
   ·exact h
  have e3:qm z (r+1)=qm z r+z r:=rfl;have e4:qm z (c+1)=qm z c+z c:=rfl
  by_cases hex:∃i,i<Z.nb/\(Z.b i).r=(r:Int)/\(Z.b i).c=(c:Int)
  ·obtain⟨i,hi,h1,h2⟩:=hex;obtain⟨r',c',-,-,g1,g2,g3,g4,g5⟩:=H.bk i hi;obtain rfl:r'=r:=by omega
   obtain rfl:c'=c:=by omega
   rw[V3 h0 hi h1 h2,g5 _ (by omega) _ (by omega),xy,show qm z r'+(a-qm z r')=a by omega,show qm z c'+(b-qm z c')=b by omega]
  ·have hno:∀i,i<Z.nb->¬((Z.b i).r=(r:Int)/\(Z.b i).c=(c:Int)):=fun i hi hh=>hex ⟨i,hi,hh.1,hh.2⟩
   rw[YZ hno];have h3:=H.zero r c hcr r1 hno (a-qm z r) (by omega) (b-qm z c) (by omega);rw[show qm z r+(a-qm z r)=a by omega,show qm z c+(b-qm z c)=b by omega] at h3;exact h3.symm
 intro a ha b hb
 rcases Nat.lt_or_ge a b with h|h
 ·rw[Wn,hs a b ha hb];exact low b a (by omega) hb
 ·exact low a b h ha
end
theorem q8j {E E':Nat->Bool}(h:∀i,i<n->E i=E' i):Jf E n=Jf E' n:=by
 unfold Jf;exact List.filter_congr fun i hi=>h i (List.mem_range.1 hi)
theorem q8i {E E':Nat->Bool}(h:∀i,i<n->E i=E' i):∀i,i<n->xE E i=xE E' i:=fun i hi=>by unfold xE;rw[h i hi]
theorem q8l {E E':Nat->Bool}(h:∀i,i<n->E i=E' i):vZ E n=vZ E' n:=by unfold vZ;rw[q8j h]
theorem q8t {E E':Nat->Bool}(h:∀i,i<n->E i=E' i):enF E n=enF E' n:=by funext a;unfold enF;rw[q8j h]
theorem q8d {E:Nat->Bool}:∀i j,i<j->j<vZ E n->enF E n i<enF E n j:=by
 intro i j hij hj;have hj':j<(Jf E n).length:=hj;rw[vU (show i<(Jf E n).length by omega),vU hj'];exact List.pairwise_iff_getElem.1 (YW E n) i j (by omega) hj' hij
theorem q80 (E:Nat->Bool) (n:Nat):Enm n (vZ E n) E (enF E n):=q0e E n
theorem q8T {Ea Eb:Nat->Bool}:vZ (xE fun p=>Eb (enF (xE Ea) n p)) (vZ (xE Ea) n)=vZ (xE (both Ea Eb)) n /\
  ∀a,a<vZ (xE (both Ea Eb)) n->enF (xE Ea) n (enF (xE fun p=>Eb (enF (xE Ea) n p)) (vZ (xE Ea) n) a)=enF (xE (both Ea Eb)) n a:=by
 obtain⟨l,hl⟩:∃l,l=enF (xE Ea) n:=⟨_,rfl⟩
 obtain⟨n1,hn1⟩:∃n1,n1=vZ (xE Ea) n:=⟨_,rfl⟩
 rw[<-hl,<-hn1];have h1:Enm n n1 (xE Ea) l:=by rw[hn1,hl];exact q80 _ _
 have h2:=q80 (xE fun p=>Eb (l p)) n1;have h3:=q80 (xE (both Ea Eb)) n;have hasc:∀i j,i<j->j<n1->l i<l j:=by rw[hn1,hl];exact q8d
 obtain⟨a,b⟩:=q8r (f:=fun p=>l (enF (xE fun p=>Eb (l p)) n1 p)) (g:=enF (xE (both Ea Eb)) n) (n:=vZ (xE fun p=>Eb (l p)) n1) (m:=vZ (xE (both Ea Eb)) n)
  (fun i j hij hj=>hasc _ _ (q8d i j hij hj) (h2.low j hj)) q8d
  (fun i hi=>by
   have h4:=h2.low i hi;have h5:=h2.mem i hi;have h6:=h1.mem _ h4
   obtain⟨k,hk,e⟩:=h3.onto (l (enF (xE fun p=>Eb (l p)) n1 i)) (h1.low _ h4) (by
    unfold xE both at *
    rw[Bool.not_or,h6,h5];rfl)
   exact⟨k,hk,e.symm⟩)
  (fun i hi=>by
   have h4:=h3.mem i hi;have h5:=h3.low i hi;unfold xE both at h4;rw[Bool.not_or,Bool.and_eq_true] at h4;obtain⟨p,hp,e⟩:=h1.onto _ h5 (by unfold xE;exact h4.1);obtain⟨k,hk,e'⟩:=h2.onto p hp (by show (!Eb (l p))=true;rw[e];exact h4.2)
   exact⟨k,hk,by rw[e',e]⟩)
 exact⟨a,fun i hi=>b i (by omega)⟩
theorem q9e {m':Nat}(A T:q_m) (x:q_v) (i:Nat):av m' (mm n A T) x i=av n A (av m' T x) i:=by
 unfold av mm;rw[show sum m' (fun c=>sum n (fun k=>A i k*T k c)*x c)=sum m' (fun c=>sum n (fun k=>A i k*T k c*x c)) from qf fun c _=>(qJ n (x c) _).symm,zG];exact qf fun k _=>by rw[<-zV];exact qf fun c _=>by grind
def bdM (n:Nat) (M:q_m) (y:q_v) (i j:Nat):Rat:=if j=n then-y i else M i j
def bdE (n:Nat) (E:Nat->Bool) (i:Nat):Bool:=decide (i<n)&&E i
def bdL (n n1:Nat) (l:Nat->Nat) (p:Nat):Nat:=if p=n1 then n else l p
theorem q8M{E:Nat->Bool}{e:Nat->Nat}(h:Enm n k E e):Enm (n+1) k (bdE n E) e:=by
 refine⟨fun a ha=>Nat.lt_succ_of_lt (h.low a ha),fun a ha=>?_,h.inj,fun i hi hE=>?_⟩
 ·unfold bdE;rw[q_t (h.low a ha),h.mem a ha];rfl
 ·unfold bdE at hE;rw[Bool.and_eq_true,decide_eq_true_eq] at hE;exact h.onto i hE.1 hE.2
theorem q93 {n1:Nat}{E:Nat->Bool}{l:Nat->Nat}(h:Enm n n1 (xE E) l):Enm (n+1) (n1+1) (xE (bdE n E)) (bdL n n1 l):=by
 have old:∀a,a<n1->bdL n n1 l a=l a:=fun a ha=>by unfold bdL;rw[if_neg (by omega)]
 have new:bdL n n1 l n1=n:=by unfold bdL;rw[if_pos rfl]
 refine⟨fun a ha=>?_,fun a ha=>?_,fun a b ha hb hab=>?_,fun i hi hE=>?_⟩
 ·by_cases h1:a=n1
  ·rw[h1,new];omega
  ·rw[old a (by omega)];exact Nat.lt_succ_of_lt (h.low a (by omega))
 ·by_cases h1:a=n1
  ·rw[h1,new];unfold xE bdE;rw[q_f (Nat.lt_irrefl n)];rfl
  ·rw[old a (by omega)];have h2:=h.mem a (by omega);unfold xE bdE at *;rw[q_t (h.low a (by omega)),Bool.true_and];exact h2
 ·by_cases h1:a=n1
  ·by_cases h2:b=n1
   ·omega
   ·rw[h1,new,old b (by omega)] at hab;have:=h.low b (by omega);omega
  ·by_cases h2:b=n1
   ·rw[h2,new,old a (by omega)] at hab;have:=h.low a (by omega);omega
   ·rw[old a (by omega),old b (by omega)] at hab;exact h.inj a b (by omega) (by omega) hab
 ·by_cases h1:i=n
  ·exact⟨n1,Nat.lt_succ_self _,by rw[new,h1]⟩
  ·unfold xE bdE at hE;rw[q_t (show i<n by omega),Bool.true_and] at hE;obtain⟨a,ha,e⟩:=h.onto i (by omega) hE;exact⟨a,by omega,by rw[old a ha,e]⟩
section
variable {M:q_m}{y:q_v}{E:Nat->Bool}{n:Nat}
theorem q8U {a:Nat}(hb:b<vZ (xE E) n):q0v (vZ E n) (bdM n M y) (enF E n) (elmX M E n) (enF (xE E) n a) (enF (xE E) n b)=Wj M E n a b:=by
 rw[q87];unfold Jm q0v;have h1:enF (xE E) n b≠n:=by have:=kP hb;omega
 have h2:∀i,bdM n M y i (enF (xE E) n b)=M i (enF (xE E) n b):=fun i=>by unfold bdM;rw[if_neg h1]
 rw[h2]
 congr 1
 refine qf fun i hi=>?_
 have h3:bdM n M y (enF (xE E) n a) (enF E n i)=M (enF (xE E) n a) (enF E n i):=by
  unfold bdM;rw[if_neg (by have:=kP hi;omega)]
 rw[h3]
 congr 1
 exact qf fun j hj=>by rw[h2];rfl
theorem q8L {a:Nat}:q0v (vZ E n) (bdM n M y) (enF E n) (elmX M E n) (enF (xE E) n a) n = - q2V M y E n a:=by
 unfold q2V q6c;have h0:∀i,bdM n M y i n = - y i:=fun i=>by unfold bdM;rw[if_pos rfl]
 have h1:av (vZ E n) (mm (vZ E n) (fun a i=>M (enF (xE E) n a) (enF E n i)) (elmX M E n)) (fun i=>y (enF E n i)) a=sum (vZ E n) (fun i=>M (enF (xE E) n a) (enF E n i)*sum (vZ E n) (fun j=>elmX M E n i j*y (enF E n j))):=by
  rw[q9e]
  rfl
 rw[h1];unfold q0v;rw[h0]
 have h2:sum (vZ E n) (fun i=>bdM n M y (enF (xE E) n a) (enF E n i)*sum (vZ E n) (fun j=>elmX M E n i j*bdM n M y (enF E n j) n)) = - sum (vZ E n) (fun i=>M (enF (xE E) n a) (enF E n i)*sum (vZ E n) (fun j=>elmX M E n i j*y (enF E n j))):=by
  rw[<-QZ];refine qf fun i hi=>?_
  have h3:bdM n M y (enF (xE E) n a) (enF E n i)=M (enF (xE E) n a) (enF E n i):=by
   unfold bdM;rw[if_neg (by have:=kP hi;omega)]
  have h4:sum (vZ E n) (fun j=>elmX M E n i j*bdM n M y (enF E n j) n) = - sum (vZ E n) (fun j=>elmX M E n i j*y (enF E n j)):=by
   rw[<-QZ];exact qf fun j _=>by rw[h0];grind
  rw[h3,h4]
  grind
 rw[h2]
 grind
theorem q8V (hr:Reg (vZ E n) (xm M (enF E n))):(∀i,i<vZ E n->∀c,c<vZ E n->mm (vZ E n) (xm (bdM n M y) (enF E n)) (elmX M E n) i c=dlt i c)/\(∀i,i<vZ E n->∀c,c<vZ E n->mm (vZ E n) (elmX M E n) (xm (bdM n M y) (enF E n)) i c=dlt i c):=by
 have h0:∀i c,c<vZ E n->xm (bdM n M y) (enF E n) i c=xm M (enF E n) i c:=fun i c hc=>by
  unfold xm bdM;rw[if_neg (by have:=kP hc;omega)]
 obtain⟨h1,h2⟩:=jq hr;refine⟨fun i hi c hc=>?_,fun i hi c hc=>?_⟩
 ·rw[<-h1 i hi c hc];unfold mm elmX;exact qf fun j hj=>by rw[h0 i j hj]
 ·rw[<-h2 i hi c hc];unfold mm elmX;exact qf fun j hj=>by rw[h0 j c hc]
end
theorem q90 {M D:q_m}{y yD:q_v}{Ea Eb Er:Nat->Bool}{n1:Nat}(hn1:n1=vZ (xE Ea) n) (hd:∀i,Eb i=true->Ea i=false) (hra:Reg (vZ Ea n) (xm M (enF Ea n))) (hrb:Reg (vZ (both Ea Eb) n) (xm M (enF (both Ea Eb) n)))
  (hD:∀a,a<n1->∀b,b<n1->D a b=Wj M Ea n a b) (hy:∀a,a<n1->yD a=q2V M y Ea n a) (hEr:∀p,p<n1->Er p=Eb (enF (xE Ea) n p)) :
  Reg (vZ Er n1) (xm D (enF Er n1))/\vZ (xE Er) n1=vZ (xE (both Ea Eb)) n/\(∀a,a<vZ (xE Er) n1->∀b,b<vZ (xE Er) n1->Wj D Er n1 a b=Wj M (both Ea Eb) n a b)/\∀a,a<vZ (xE Er) n1->q2V D yD Er n1 a=q2V M y (both Ea Eb) n a:=by
 obtain⟨hc,hen⟩:=q8T (Ea:=Ea) (Eb:=Eb) (n:=n);rw[<-hn1] at hc hen;have hl:Enm n n1 (xE Ea) (enF (xE Ea) n):=by rw[hn1];exact q80 _ _
 have hEr':vZ (xE Er) n1=vZ (xE (both Ea Eb)) n:=by rw[<-hc];exact q8l (q8i hEr)
 have heR:enF (xE Er) n1=enF (xE fun p=>Eb (enF (xE Ea) n p)) n1:=q8t (q8i hEr);have eR:=q80 Er n1
 have hreg:Reg (vZ Er n1) (xm D (enF Er n1)):=by
  obtain⟨hf,hs⟩:=q5o (q80 Ea n) (q1d (q80 Ea n) hra);have h1:=q8P hl hf hs (q1d (q80 (both Ea Eb) n) hrb) hd
  have h2:q0u n1 D Er:=by
   intro x hx h0 i hi;refine h1 x (fun i hi hE=>hx i hi (by rw[hEr i hi];exact hE)) (fun i hi hE=>?_) i hi;have h3:=h0 i hi (by rw[hEr i hi];exact hE);rw[<-h3];unfold av;exact qf fun j hj=>by rw[hD i hi j hj,q87];rfl
  exact q4K eR h2
 refine⟨hreg,hEr',?_⟩;obtain⟨S1,hS1⟩:∃S1,S1=q0v (vZ Ea n) (bdM n M y) (enF Ea n) (elmX M Ea n):=⟨_,rfl⟩
 obtain⟨S,hS⟩:∃S,S=q0v (vZ (both Ea Eb) n) (bdM n M y) (enF (both Ea Eb) n) (elmX M (both Ea Eb) n):=⟨_,rfl⟩
 have i1:=q8V (M:=M) (y:=y) (E:=Ea) (n:=n) hra;have i2:=q8V (M:=M) (y:=y) (E:=both Ea Eb) (n:=n) hrb;have b1:=q8M (q80 Ea n);have b2:=q8M (q80 (both Ea Eb) n)
 have hb:both (bdE n Ea) (bdE n Eb)=bdE n (both Ea Eb):=by
  funext i
  unfold both bdE;cases decide (i<n)<;>rfl
 have f1:=q7n b1 i1.1;have s1:q2Q (n+1) (bdM n M y) (bdE n Ea) S1:=by rw[hS1];exact q3N b1 i1.2
 have s2:q2Q (n+1) (bdM n M y) (both (bdE n Ea) (bdE n Eb)) S:=by rw[hS,hb];exact q3N b2 i2.2
 have hl':=q93 hl;obtain⟨l,hle⟩:∃l,l=enF (xE Ea) n:=⟨_,rfl⟩
 have hL:∀p,p<n1->bdL n n1 (enF (xE Ea) n) p=l p:=fun p hp=>by unfold bdL;rw[if_neg (by omega),hle]
 have hLn:bdL n n1 (enF (xE Ea) n) n1=n:=by unfold bdL;rw[if_pos rfl]
 have s3:=q8H hl' f1 s1 s2 (fun i hi=>by
  unfold bdE at hi ⊢;rw[Bool.and_eq_true] at hi
  rw[hd i hi.2,Bool.and_false])
 have hEE:∀p,p<n1+1->bdE n Eb (bdL n n1 (enF (xE Ea) n) p)=bdE n1 Er p:=fun p hp=>by
  by_cases h1:p=n1
  ·rw[h1,hLn];unfold bdE;rw[q_f (Nat.lt_irrefl n),q_f (Nat.lt_irrefl n1)];rfl
  ·rw[hL p (by omega)];unfold bdE;rw[hEr p (by omega),<-hle,q_t (show p<n1 by omega),q_t (show l p<n by rw[hle];exact hl.low p (by omega))]
 have s4:q2Q (n1+1) (xm S1 (bdL n n1 (enF (xE Ea) n))) (bdE n1 Er) (xm S (bdL n n1 (enF (xE Ea) n))):=by
  intro x h0 i hi hE;rw[s3 x (fun j hj hj'=>h0 j hj (by rw[<-hEE j hj];exact hj')) i hi (by show bdE n Eb (bdL n n1 (enF (xE Ea) n) i)=false;rw[hEE i hi];exact hE)];exact qf fun j hj=>by show (if bdE n Eb (bdL n n1 (enF (xE Ea) n) j)=true then 0 else _)=_;rw[hEE j hj]
 obtain⟨B,hB⟩:∃B,B=xm S1 (bdL n n1 (enF (xE Ea) n)):=⟨_,rfl⟩
 have hBD:∀a,a<n1->∀b,b<n1->B a b=D a b:=fun a ha b hb=>by
  rw[hB,hD a ha b hb]
  show S1 (bdL n n1 (enF (xE Ea) n) a) (bdL n n1 (enF (xE Ea) n) b)=_
  rw[hL a ha,hL b hb,hS1,hle];exact q8U (by rw[<-hn1];exact hb)
 have hBy:∀a,a<n1->B a n1 = - yD a:=fun a ha=>by
  rw[hB,hy a ha]
  show S1 (bdL n n1 (enF (xE Ea) n) a) (bdL n n1 (enF (xE Ea) n) n1)=_
  rw[hL a ha,hLn,hS1,hle];exact q8L
 rw[<-hB] at s4;obtain⟨j1,j2⟩:=jq hreg;have hsb:∀i,i<vZ Er n1->∀c,c<vZ Er n1->xm B (enF Er n1) i c=xm D (enF Er n1) i c:=fun i hi c hc=>hBD _ (eR.low i hi) _ (eR.low c hc)
 have b3:=q8M eR
 have s5:q2Q (n1+1) B (bdE n1 Er) (q0v (vZ Er n1) B (enF Er n1) (elmX D Er n1)):=q3N b3 (fun i hi c hc=>by
  rw[<-j2 i hi c hc];unfold mm elmX
  exact qf fun j hj=>by rw[hsb j hj c hc])
 have f5:Fil (n1+1) B (bdE n1 Er):=q7n b3 (X:=elmX D Er n1) (fun i hi c hc=>by
  rw[<-j1 i hi c hc];unfold mm elmX
  exact qf fun j hj=>by rw[hsb i hi j hj])
 have nr:=q80 (xE Er) n1
 have hno:∀a,a<vZ (xE Er) n1->bdE n1 Er (enF (xE Er) n1 a)=false:=fun a ha=>by
  have this:(!Er (enF (xE Er) n1 a))=true:=nr.mem a ha;unfold bdE;rw[show Er (enF (xE Er) n1 a)=false from (Bool.not_eq_true' _).mp this,Bool.and_false]
 have hlast:bdE n1 Er n1=false:=by unfold bdE;rw[q_f (Nat.lt_irrefl n1)];rfl
 have hlp:∀a,a<vZ (xE Er) n1->l (enF (xE Er) n1 a)=enF (xE (both Ea Eb)) n a:=fun a ha=>by
  rw[hle,heR];exact hen a (by omega)
 refine⟨fun a ha b hb=>?_,fun a ha=>?_⟩
 ·have h1:=q8h f5 s5 s4 (Nat.lt_succ_of_lt (nr.low a ha)) (Nat.lt_succ_of_lt (nr.low b hb)) (hno a ha) (hno b hb)
  have h2:xm S (bdL n n1 (enF (xE Ea) n)) (enF (xE Er) n1 a) (enF (xE Er) n1 b)=Wj M (both Ea Eb) n a b:=by
   unfold xm;rw[hL _ (nr.low a ha),hL _ (nr.low b hb),hlp a ha,hlp b hb,hS];exact q8U (by omega)
  rw[<-h2,<-h1,q87];unfold Jm q0v;rw[hBD _ (nr.low a ha) _ (nr.low b hb)]
  congr 1
  refine qf fun i hi=>?_
  rw[hBD _ (nr.low a ha) _ (eR.low i hi)]
  congr 1
  refine qf fun j hj=>?_
  rw[hBD _ (eR.low j hj) _ (nr.low b hb)]
  rfl
 ·have h1:=q8h f5 s5 s4 (Nat.lt_succ_of_lt (nr.low a ha)) (Nat.lt_succ_self n1) (hno a ha) hlast
  have h2:xm S (bdL n n1 (enF (xE Ea) n)) (enF (xE Er) n1 a) n1 = - q2V M y (both Ea Eb) n a:=by
   unfold xm;rw[hL _ (nr.low a ha),hLn,hlp a ha,hS];exact q8L
  rw[h2] at h1
  have h3:q0v (vZ Er n1) B (enF Er n1) (elmX D Er n1) (enF (xE Er) n1 a) n1 = - q2V D yD Er n1 a:=by
   rw[<-q8L (M:=D) (y:=yD) (E:=Er) (n:=n1) (a:=a)];have e0:∀i,i<n1->B i n1=bdM n1 D yD i n1:=fun i hi=>by rw[hBy i hi];unfold bdM;rw[if_pos rfl]
   have e1:∀i,i<n1->∀j,j<n1->B i j=bdM n1 D yD i j:=fun i hi j hj=>by rw[hBD i hi j hj];unfold bdM;rw[if_neg (by omega)]
   unfold q0v;rw[e0 _ (nr.low a ha)]
   congr 1
   refine qf fun i hi=>?_
   rw[e1 _ (nr.low a ha) _ (eR.low i hi)]
   congr 1
   exact qf fun j hj=>by rw[e0 _ (eR.low j hj)]
  rw[h3] at h1
  have:q2V D yD Er n1 a=q2V M y (both Ea Eb) n a:=by
   have h4:=congrArg (fun t:Rat=>- t) h1;simpa using h4
  exact this
section
variable {z:Nat->Nat}{g:Nat->Bool}{ns:Nat}
theorem q9d {p:Nat}(hp:p<qm (fun a=>z (enF g ns a)) (vZ g ns)) :
  enF (fun x=>g (wI z ns x)) (qm z ns) p=qm z (enF g ns (wI (fun a=>z (enF g ns a)) (vZ g ns) p))+(p-qm (fun a=>z (enF g ns a)) (wI (fun a=>z (enF g ns a)) (vZ g ns) p))/\wI z ns (enF (fun x=>g (wI z ns x)) (qm z ns) p)=enF g ns (wI (fun a=>z (enF g ns a)) (vZ g ns) p):=by
 obtain⟨z1,hz1⟩:∃z1:Nat->Nat,z1=fun a=>z (enF g ns a):=⟨_,rfl⟩
 obtain⟨m,hm⟩:∃m,m=vZ g ns:=⟨_,rfl⟩
 rw[<-hz1,<-hm] at hp ⊢;have er:=q80 g ns;rw[<-hm] at er;have ez:∀a,z1 a=z (enF g ns a):=fun a=>by rw[hz1]
 have hsz:∀p,p<qm z1 m->wI z1 m p<m/\qm z1 (wI z1 m p)<=p/\p-qm z1 (wI z1 m p)<z (enF g ns (wI z1 m p)):=fun p hp=>by
  obtain⟨h1,h2,h3⟩:=KW hp;have h4:qm z1 (wI z1 m p+1)=qm z1 (wI z1 m p)+z1 (wI z1 m p):=rfl;rw[ez] at h4;exact⟨h1,h2,by omega⟩
 have hbk:∀p,p<qm z1 m->wI z ns (qm z (enF g ns (wI z1 m p))+(p-qm z1 (wI z1 m p)))=enF g ns (wI z1 m p):=fun p hp=>by
  obtain⟨h1,h2,h3⟩:=hsz p hp;exact KX (er.low _ h1) (by omega) (by show _<qm z _+z _;omega)
 have hlt:∀p,p<qm z1 m->qm z (enF g ns (wI z1 m p))+(p-qm z1 (wI z1 m p))<qm z ns:=fun p hp=>by
  obtain⟨h1,h2,h3⟩:=hsz p hp;have h4:=zC z (show enF g ns (wI z1 m p)+1<=ns by have:=er.low _ h1;omega);have h5:qm z (enF g ns (wI z1 m p)+1)=qm z (enF g ns (wI z1 m p))+z (enF g ns (wI z1 m p)):=rfl;omega
 have eU:=q80 (fun x=>g (wI z ns x)) (qm z ns);have hasc:∀a b,a<b->b<m->enF g ns a<enF g ns b:=by rw[hm];exact q8d
 have key:=q8r (f:=fun p=>qm z (enF g ns (wI z1 m p))+(p-qm z1 (wI z1 m p))) (g:=enF (fun x=>g (wI z ns x)) (qm z ns)) (n:=qm z1 m) (m:=vZ (fun x=>g (wI z ns x)) (qm z ns))
  (fun i j hij hj=>by
   obtain⟨h1,h2,h3⟩:=hsz i (by omega);obtain⟨h4,h5,h6⟩:=hsz j hj
   show qm z (enF g ns (wI z1 m i))+(i-qm z1 (wI z1 m i))<qm z (enF g ns (wI z1 m j))+(j-qm z1 (wI z1 m j))
   rcases Nat.lt_trichotomy (wI z1 m i) (wI z1 m j) with h|h|h
   ·have h7:=zC z (show enF g ns (wI z1 m i)+1<=enF g ns (wI z1 m j) from hasc _ _ h h4);have h8:qm z (enF g ns (wI z1 m i)+1)=qm z (enF g ns (wI z1 m i))+z (enF g ns (wI z1 m i)):=rfl;omega
   ·rw[h] at h2 ⊢;omega
   ·have h7:=zC z1 (show wI z1 m j+1<=wI z1 m i by omega);obtain⟨-,-,h9⟩:=KW hj
    omega) q8d
  (fun p hp=>by
   obtain⟨k,hk,e⟩:=eU.onto _ (hlt p hp) (by
    show g (wI z ns _)=true
    rw[hbk p hp]
    exact er.mem _ (hsz p hp).1)
   exact⟨k,hk,e.symm⟩)
  (fun i hi=>by
   have h1:=eU.low i hi;have h2:g (wI z ns (enF (fun x=>g (wI z ns x)) (qm z ns) i))=true:=eU.mem i hi;obtain⟨x,hx⟩:∃x,x=enF (fun x=>g (wI z ns x)) (qm z ns) i:=⟨_,rfl⟩
   rw[<-hx] at h1 h2 ⊢;obtain⟨b1,b2,b3⟩:=KW h1;obtain⟨a,ha,e⟩:=er.onto _ b1 h2;rw[<-e] at b2 b3;have b4:qm z (enF g ns a+1)=qm z (enF g ns a)+z (enF g ns a):=rfl;have b5:qm z1 (a+1)=qm z1 a+z (enF g ns a):=by show qm z1 a+z1 a=_;rw[ez]
   have b6:=zC z1 (show a+1<=m by omega);have b7:wI z1 m (qm z1 a+(x-qm z (enF g ns a)))=a:=KX ha (by omega) (by omega);refine⟨qm z1 a+(x-qm z (enF g ns a)),by omega,?_⟩
   show x=qm z (enF g ns (wI z1 m _))+(_-qm z1 (wI z1 m _))
   rw[b7]
   omega)
 have k1:=key.2 p hp;rw[<-k1];exact⟨rfl,hbk p hp⟩
theorem q92:qm (fun a=>z (enF g ns a)) (vZ g ns)=vZ (fun x=>g (wI z ns x)) (qm z ns):=by
 have h1:=q0G z g ns;rw[QG (m:=ns) ns (q_r)] at h1;exact h1.symm
theorem q8Y(hK:K<ns) (hg:g K=true):vZ g K<vZ g ns/\enF g ns (vZ g K)=K:=by
 have h1:Jf g ns=Jf g K++((List.range (ns-K)).map (fun a=>K+a)).filter g:=by
  have:=VZ g K (ns-K)
  rwa [show K+(ns-K)=ns by omega] at this
 obtain⟨d,hd⟩:∃d,ns-K=d+1:=⟨ns-K-1,by omega⟩
 have h2:((List.range (ns-K)).map (fun a=>K+a)).filter g=K :: (((List.range d).map Nat.succ).map (fun a=>K+a)).filter g:=by
  rw[hd,List.range_succ_eq_map,List.map_cons,List.filter_cons,Nat.add_zero,hg]
  rfl
 unfold vZ enF;rw[h1,h2];refine⟨by rw[List.length_append,List.length_cons];omega,?_⟩;rw[List.getElem?_append_right (q_r),Nat.sub_self]
 rfl
end
def q8k (L:Nat->Int):Nat->Nat->Nat
 | 0,_=>0
 | n+1,K=>q8k L n K+(if L n<(K:Int) then 1 else 0)
theorem q8u (L:Nat->Int) (K:Nat):∀n,(∀t,t<n->(K:Int)<=L t)->q8k L n K=0
 | 0,_=>rfl
 | n+1,h=>by
  unfold q8k;rw[q8u L K n (fun t ht=>h t (by omega)),if_neg (by have:=h n (by omega);omega)]
theorem q8v (L:Nat->Int) (K:Nat):∀n,(∀a b,a<n->b<n->L a=L b->a=b)->q8k L n (K+1)=q8k L n K+(if inL L n K=true then 1 else 0)
 | 0,_=>rfl
 | n+1,h=>by
  have ih:=q8v L K n (fun a b ha hb=>h a b (by omega) (by omega));have hin:inL L (n+1) K=(inL L n K||decide (L n=(K:Int))):=by unfold inL;rw[WC]
  unfold q8k;rw[ih,hin]
  by_cases h1:L n=(K:Int)
  ·have h2:inL L n K=false:=by
    unfold inL
    exact zT.2 fun t ht=>decide_eq_false fun h3=>by
     have:=h t n (by omega) (by omega) (by rw[h3,h1]);omega
   rw[h2,q_t h1,if_pos (show L n<((K+1:Nat):Int) by omega),if_neg (show ¬L n<(K:Int) by omega)]
   simp
  ·rw[q_f h1,Bool.or_false]
   by_cases h2:L n<(K:Int)
   ·rw[if_pos (show L n<((K+1:Nat):Int) by omega),if_pos h2];omega
   ·rw[if_neg (show ¬L n<((K+1:Nat):Int) by omega),if_neg h2];omega
theorem q8b {L:Nat->Int}{nl:Nat}(h0:∀t,t<nl->0<=L t) (hd:∀a b,a<nl->b<nl->L a=L b->a=b):∀K,vZ (fun k=>!inL L nl k) K+q8k L nl K=K
 | 0=>by rw[q8u L 0 nl (fun t ht=>by have:=h0 t ht;omega)];rfl
 | K+1=>by
  have ih:=q8b h0 hd K;rw[q8v L K nl hd];unfold vZ at ih ⊢;rw[q25];cases h:inL L nl K with
  | true =>
   rw[if_neg (by decide),List.append_nil,if_pos rfl];omega
  | false =>
   rw[if_pos (by decide),List.length_append,if_neg (by decide)]
   show _+1+_=_
   omega
theorem q91 {Z:Sys}{z:Nat->Nat}{P:Rat->Prop}(h0:Okk Z) (hz:∀i,i<Z.ns->Z.z i=(z i:Int)) (hP0:P 0) (hP:∀i,i<Z.nb->∀a,a<(Z.b i).m->∀c,c<(Z.b i).L a->P (zl ((Z.b i).A a c))):∀x,x<qm z Z.ns->∀y,y<qm z Z.ns->P (xM Z z x y):=by
 have low:∀a b,b<=a->a<qm z Z.ns->P (q7v Z z a b):=by
  intro a b hab ha;unfold q7v;obtain⟨r1,r2,r3⟩:=KW ha;obtain⟨c1,c2,c3⟩:=KW (show b<qm z Z.ns by omega);obtain⟨r,hr⟩:∃r,r=wI z Z.ns a:=⟨_,rfl⟩
  obtain⟨c,hc⟩:∃c,c=wI z Z.ns b:=⟨_,rfl⟩
  rw[<-hr] at r1 r2 r3 ⊢;rw[<-hc] at c1 c2 c3 ⊢;have e3:qm z (r+1)=qm z r+z r:=rfl;have e4:qm z (c+1)=qm z c+z c:=rfl
  by_cases hex:∃i,i<Z.nb/\(Z.b i).r=(r:Int)/\(Z.b i).c=(c:Int)
  ·obtain⟨i,hi,h1,h2⟩:=hex;rw[V3 h0 hi h1 h2];obtain⟨-,-,-,g4,-⟩:=yF h0 hi;obtain⟨g5,g6⟩:=Z5 g4;rw[h1,Int.toNat_natCast,hz r r1] at g5;rw[h2,Int.toNat_natCast,hz c c1] at g6;have g7:a-qm z r<(Z.b i).m:=by omega
   have g8:=g6 _ g7;exact hP i hi _ g7 _ (by omega)
  ·rw[YZ (fun i hi hh=>hex ⟨i,hi,hh.1,hh.2⟩)];exact hP0
 intro x hx y hy;unfold xM;exact low _ _ (by omega) (by omega)
theorem q8z {Z:Sys}{z:Nat->Nat}(h0:Okk Z) (hz:∀i,i<Z.ns->Z.z i=(z i:Int)) (hB:BkBr Z):HtM (qm z Z.ns) (qm z Z.ns) 17 (xM Z z):=by
 refine fun x hx y hy=>q91 (P:=Ht 17) h0 hz ?_ (fun i hi a ha c hc=>?_) x hx y hy
 ·exact Ht.zero.mono (by omega)
 ·refine q4i ?_;rw[<-q2u h0 hi ha hc];exact hB i hi a ha c hc
theorem Qn.up{Z:Sys}(h:Qn N 0 w.heap.size w v Z) (e:Ext w w'):Qn N 0 w'.heap.size w' v Z:=by
 obtain⟨v1,v2,v3,hv,h1,⟨A,c,hb0,hb1,hb2,hb3⟩,h3⟩:=h.ext e;refine⟨v1,v2,v3,hv,⟨rfl,h1.2⟩,⟨A,c,hb0,hb1,hb2,fun hn=>?_⟩,LsR.wide h3 (q_r) e.size (q_r)⟩;obtain⟨b,off,hA,hx⟩:=hb3 hn;refine⟨b,off,hA,fun i hi=>?_⟩;obtain⟨a1,a2,A9,c9,a3,a4⟩:=hx i hi;exact⟨a1,a2,A9,c9,a3,MtR.wide a4 (q_r) e.size (q_r)⟩
def ElF (N:Nat) (Z:Sys) (z:Nat->Nat) (L:Nat->Int) (nl:Nat) (y:q_v) (n:Nat) (v:Value) (c:Int) (w':World):Prop :=
 (c≠0/\(q05 L nl Z.ns=0->0<vZ (xE (goE Z z L nl)) n->¬Reg (vZ (goE Z z L nl) n) (xm (xM Z z) (enF (goE Z z L nl) n))/\c=14)) \/
 (c=0/\q05 L nl Z.ns=0/\0<vZ (xE (goE Z z L nl)) n/\Reg (vZ (goE Z z L nl) n) (xm (xM Z z) (enF (goE Z z L nl) n))/\∃Z':Sys,Qn N 0 w'.heap.size w' v Z'/\Z'.ns=vZ (fun k=>!inL L nl k) Z.ns/\Z'.k=vZ (xE (goE Z z L nl)) n /\
  q0x Z' (fun a=>z (enF (fun k=>!inL L nl k) Z.ns a)) (Wj (xM Z z) (goE Z z L nl) n) (q2V (xM Z z) y (goE Z z L nl) n)/\NzB Z'.b Z'.nb)
theorem ElF.ext{Z:Sys}{z:Nat->Nat}{L:Nat->Int}{nl:Nat}{y:q_v}{c:Int}(h:ElF N Z z L nl y n v c w) (e:Ext w w'):ElF N Z z L nl y n v c w':=by
 rcases h with h|⟨h1,h2,h3,h4,Z',h5,h6⟩
 ·exact .inl h
 ·exact .inr ⟨h1,h2,h3,h4,Z',h5.up e,h6⟩
def q8s (Z:Sys) (i:Nat):Rat:=zl (Z.R i)
theorem q9b {Z:Sys}(h:Okk Z):∀i,i<Z.k->Z.R i=raw (q8s Z i):=fun i hi=>by
 have h1:=h.can;unfold ZF at h1;rw[Bool.and_eq_true,ql,ql] at h1;exact vG (h1.2 i hi)
theorem gk17:∀k,k<=7->5*(5 ^ k*(17+1))<=29000000000/\gK k 17<=29000000000:=fun k hk=>by
 rcases (by omega:k=0\/k=1\/k=2\/k=3\/k=4\/k=5\/k=6\/k=7) with rfl|rfl|rfl|rfl|rfl|rfl|rfl|rfl<;>decide
theorem q8y {Z:Sys}(hf:FewF Z) (h0:yN Z=0):HtL (qm (zN Z) Z.ns) 17 (q8s Z):=fun i hi=>by
 have hok:=ZY h0;have hk:(Z.k:Int)=xZ Z.z Z.ns:=hok.len;rw[kw (zN_ok hok)] at hk;exact q2x (hf.kb i (by omega))
theorem q86 {L:Nat->Int}{nl:Nat}:inL L nl k=true↔∃t,t<nl/\L t=(k:Int):=by
 unfold inL xg;simp only[List.any_eq_true,List.mem_range,decide_eq_true_eq]
def SyL (Z:Sys) (z:Nat->Nat) (L:Nat->Int) (nl:Nat) (y:q_v) (n:Nat) (Z':Sys):Prop :=
 Z'.ns=vZ (fun k=>!inL L nl k) Z.ns/\Z'.k=vZ (xE (goE Z z L nl)) n/\q0x Z' (fun a=>z (enF (fun k=>!inL L nl k) Z.ns a)) (Wj (xM Z z) (goE Z z L nl) n) (q2V (xM Z z) y (goE Z z L nl) n)/\NzB Z'.b Z'.nb
def q9f (N:Nat) (w:World) (F:Sys->Prop) (e:Ending) (w':World):Prop:=∃x1 x2 x3,e=.returned (.tuple #[.agg #[x1,x2,x3],.int .i64 0])/\(∃Z',Qn N 0 w'.heap.size w' (.agg #[x1,x2,x3]) Z'/\F Z')/\Ext w w'
theorem q82 {L:Nat->Int}(h:q05 L n m=0):∀i,i<n->0<=L i/\L i<(m:Int)/\∀j,j<i->L j≠L i:=fun i hi=>by
 have h1:=q3V h i hi;unfold lsC at h1
 by_cases h2:L i<0\/(m:Int)<=L i
 ·rw[if_pos h2] at h1;cases h1
 ·rw[if_neg h2] at h1;cases h3:xg i (fun t=>decide (L t=L i)) with
  | true=>rw[h3,if_pos rfl] at h1;cases h1
  | false =>
   have h4:=zT.1 h3;exact⟨by omega,by omega,fun j hj=>of_decide_eq_false (h4 j hj)⟩
theorem q8D {L:Nat->Int}(h:∀i,i<n->0<=L i/\L i<(m:Int)/\∀j,j<i->L j≠L i):q05 L n m=0:=by
 unfold q05;refine vT fun i hi=>?_
 obtain⟨h1,h2,h3⟩:=h i hi;unfold lsC
 rw[if_neg (by omega),if_neg (by
  rw[zT.2 (fun j hj=>q_f (h3 j hj))]
  decide)]
theorem q8x {L:Nat->Int}(h:q05 L n m=0):∀a b,a<n->b<n->L a=L b->a=b:=fun a b ha hb e=>by
 rcases Nat.lt_trichotomy a b with h1|h1|h1
 ·exact absurd e ((q82 h b hb).2.2 a h1)
 ·exact h1
 ·exact absurd e.symm ((q82 h a ha).2.2 b h1)
section
variable {ET:TypeId}{base:Nat}{w:World}{v:Value}{xs:List Value}
theorem q8o {z0:Value}{bz:Nat}(ho:One ET z0 bz) (t ty:TypeId) (ht:Tryz.prog.underlying t=some (.slice ET)) (h:qZ ET base w v xs){a:Addr}{news:List Value}(hl:news.length=m)
  (hnews:∀j u,news[j]?=some u->w.cell? (a.add j)=some u) (h1:∀u∈news,u.oneCell'=true) (hn:xs.length+m<=1000000000) :
  ∃v' w',(Builtin.append_ #[t,t] ty #[v,.slice (some a) m c]).run Tryz.prog w=.ok v' w'/\qZ ET base w' v' (xs++news)/\(v'.ownBlock=v.ownBlock\/v'.ownBlock=some w.heap.size) /\
   (∃g',base<=g'/\(v.ownBlock=some g'\/g'=w.heap.size)/\Chg g' (g'+1) w w'/\NoU w g'):=by
 obtain⟨i0,hi0,hz0,hz1,hz2⟩:=info_parts ho.inf;obtain⟨hb0,hown⟩:=h;have hle:=ho.le
 obtain⟨v',w',hrun,hO,hgr,-,hat⟩:=run_append_own_at (P:=Tryz.prog) w base t ty ET i0 _ 1 bz ht hi0 hz0 hz1 hz2 ho.cells (by omega) v xs.length xs hown a m c news (by omega) hnews h1 (by unfold maxLen;omega)
  (q_l (Nat.mul_le_mul hn ho.le) (by decide)) hb0
 refine⟨v',w',hrun,⟨q_l hb0 hgr.size,?_⟩,hat,?_⟩
 ·rw[List.length_append,hl];exact hO
 ·have hT:NoU w w.heap.size:=fun cs fr h=>by rw[Array.getElem?_eq_none (q_r)] at h;cases h
  rcases hown.2 with ⟨rfl,h0⟩|⟨g0,cap0,cur,rfl,hbb,hh,_⟩
  ·exact⟨w.heap.size,hb0,.inr rfl,zK hgr (fun k hk=>by simp[Value.ownBlock] at hk) hT,hT⟩
  ·have hT0:NoU w g0:=NoU.mk hh ho.ne;exact⟨g0,hbb,.inl rfl,zK hgr (fun k hk=>by simpa[Value.ownBlock] using hk.symm) hT0,hT0⟩
end
def zvs (z:Nat->Int) (n:Nat):List Value:=(List.range n).map fun k=>.int .i64 (z k)
theorem q7Z (z:Nat->Int) (n:Nat):(zvs z n).length=n:=by simp[zvs]
theorem q88 {z:Nat->Int}(hj:j<n):(zvs z n)[j]?=some (.int .i64 (z j)):=by
 unfold zvs;rw[List.getElem?_map,List.getElem?_range hj]
 rfl
theorem q8W {z:Nat->Int}:∀u∈zvs z n,u.oneCell'=true:=fun u hu=>by
 obtain⟨k,-,rfl⟩:=List.mem_map.1 hu
 rfl
def q81 (n:Nat) (a b:Nat->Int) (i:Nat):Int:=if i<n then a i else b (i-n)
theorem q8m (a b:Nat->Int) (n m:Nat):zvs a n++zvs b m=zvs (q81 n a b) (n+m):=by
 refine List.ext_getElem? fun j=>?_
 by_cases h1:j<n
 ·rw[List.getElem?_append_left (by rw[q7Z];exact h1),q88 h1,q88 (show j<n+m by omega)];unfold q81;rw[if_pos h1]
 ·rw[List.getElem?_append_right (by rw[q7Z];omega),q7Z]
  by_cases h2:j<n+m
  ·rw[q88 (show j-n<m by omega),q88 h2];unfold q81;rw[if_neg h1]
  ·rw[List.getElem?_eq_none (by rw[q7Z];omega),List.getElem?_eq_none (by rw[q7Z];omega)]
theorem q89{z:Nat->Int}(h:qZ 3 base w v (zvs z n)):IzV N lo hi w v n z:=by
 rcases h.2.2 with ⟨hv0,hn⟩|⟨g,cap,cur,hv',hb,hg,hnc,hcm,hcs,htk⟩
 ·rw[q7Z] at hn;exact⟨rfl,none,0,by rw[hv0,hn],by omega,Nat.zero_le _,fun h0=>by omega⟩
 ·rw[q7Z] at hv' hnc;refine⟨rfl,_,cap,hv',hnc,hcm,fun h0=>?_⟩;obtain⟨g1,cap1,hv1,-,-,-,-,-,hel⟩:=h.at_ (by rw[q7Z];exact h0);rw[hv',q7Z] at hv1;injection hv1 with e1 e2 e3
  injection e1 with e1
  injection e1 with e1
  subst e1;refine⟨g,0,rfl,fun i hi=>?_⟩;rw[Nat.zero_add];have h9:=hel i (by rw[q7Z];exact hi);rw[h9];have h8:=q88 (z:=z) hi;rw[List.getElem?_eq_getElem (by rw[q7Z];exact hi)] at h8;exact h8
theorem q84{u:Value}{xs:List Value}{z:Nat->Int}(ty:TypeId) (h:qZ 3 base w v xs) (hu:IzV N lo hi w u m z) (hn:xs.length+m<=1000000000) :
  ∃v' w',(Builtin.append_ #[22,22] ty #[v,u]).run Tryz.prog w=.ok v' w'/\qZ 3 base w' v' (xs++zvs z m)/\(∃g',base<=g'/\(v.ownBlock=some g'\/w.heap.size<=g')/\Chg g' (g'+1) w w'):=by
 obtain⟨A,c,rfl,hmc,hcm⟩:=hu.form
 rcases Nat.eq_zero_or_pos m with h0|h0
 ·subst h0;obtain⟨i0,hi0,-⟩:=info_parts Qb.inf;obtain⟨B,k,hv,hle⟩:=h.form;refine⟨v,w,?_,by simpa[zvs] using h,w.heap.size,h.1,.inr (q_r),Chg.refl _ _ _⟩;rw[hv];exact Zb Tryz.underlying22 hi0 B xs.length k hle A c w
 ·obtain⟨b,off,rfl,hx⟩:=hu.addr h0
  obtain⟨v',w',h1,h2,-,g',h3,h4,h5,-⟩:=q8o Qb 22 ty Tryz.underlying22 h (a:=⟨b,off,none⟩) (m:=m) (c:=c) (news:=zvs z m) (q7Z z m) (fun j x hj=>by
   have hjm:j<m:=by
    have:=(List.getElem?_eq_some_iff.1 hj).1
    rwa [q7Z] at this
   rw[q88 hjm] at hj;injection hj with hj
   rw[yj,<-hj]
   exact hx j hjm) q8W hn
  exact⟨v',w',h1,h2,g',h3,h4.imp id (fun h9=>by omega),h5⟩
theorem q83{u:Value}{xs:List Value}{z:Nat->Int}{ops:Array Oper}{o:Oper}{a:Act}{K:Act->World->Prop}{Q:Exit->Act->World->Prop}{E:Prop}(hgd:o.guard=none) (s x:Operand)
  (ho:o.op=.call { callee:=.builtin .append,args:=#[s,x],argTypes:=#[22,22] }) (hs:a.eval s=v) (h:qZ 3 base w v xs) (hx:a.eval x=u) (hu:IzV N lo hi w u m z) (hn:xs.length+m<=1000000000)
  (hK:∀v' w',qZ 3 base w' v' (xs++zvs z m)->(∃g',base<=g'/\(v.ownBlock=some g'\/w.heap.size<=g')/\Chg g' (g'+1) w w')->K (a.put o.dst v') w') :
  if Region.wanted o (yielded ops a.tmps)=true then Oper.wp Tryz.prog o a w K Q else E:=by
 have hw:Region.wanted o (yielded ops a.tmps)=true:=by simp[Region.wanted,hgd]
 rw[if_pos hw];obtain⟨v',w',hrun,h2,h3⟩:=q84 o.type h hu hn;unfold Oper.wp execOp;simp only[ho,resolve,invoke,builtin,Sem.run_bind,Sem.run_pure,Result.andThen_ok,List.map_toArray,List.map_cons,List.map_nil,hs,hx,hrun];exact hK v' w' h2 h3
theorem q8a{u:Value}{xs:List Value}{z:Nat->Int}{ops:Array Oper}{rest:List Oper}{o:Oper}{a:Act}{Q:Exit->Act->World->Prop}(hgd:o.guard=none) (s x:Operand)
  (ho:o.op=.call { callee:=.builtin .append,args:=#[s,x],argTypes:=#[22,22] }) (hs:a.eval s=v) (h:qZ 3 base w v xs) (hx:a.eval x=u) (hu:IzV N lo hi w u m z) (hn:xs.length+m<=1000000000)
  (hK:∀v' w',qZ 3 base w' v' (xs++zvs z m)->(∃g',base<=g'/\(v.ownBlock=some g'\/w.heap.size<=g')/\Chg g' (g'+1) w w')->wpList Tryz.prog ops Q rest (a.put o.dst v') w'):wpList Tryz.prog ops Q (o :: rest) a w:=by
 refine wpList_plain hgd fun _ hK'=>?_
 obtain⟨v',w',hrun,h2,h3⟩:=q84 o.type h hu hn;unfold Oper.wp execOp;simp only[ho,resolve,invoke,builtin,Sem.run_bind,Sem.run_pure,Result.andThen_ok,List.map_toArray,List.map_cons,List.map_nil,hs,hx,hrun];exact hK' _ _ (hK v' w' h2 h3)
def q9h (w:World) (n:Nat) (z:Nat->Int) (e:Ending) (w':World):Prop:=∃A c,e=.returned (.slice A n c)/\qZ 3 w.heap.size w' (.slice A n c) (zvs z n)/\Ext w w'
theorem q8c{z:Nat->Int}(h:IzV N lo hi w v n z) (hn:n<1000000) :
  Calls Tryz.prog 12 #[v] w (q9h w n z):=by
 obtain⟨Rf,hRf⟩:=qc (q9h w n z);rw[<-hRf.out];have HI:=q_h h;obtain⟨A1,c1,rfl,hmc,hcm⟩:=h.form;have hnl:=fun (w:World) (a:Option Addr) (n c:Nat)=>Lib.run_eql_slice_nil (P:=Tryz.prog) w 22 3 a n c 0 0 Tryz.underlying22
 cases A1 with
 | none =>
  have h0:n=0:=by
   rcases Nat.eq_zero_or_pos n with h0|h0
   ·exact h0
   ·obtain⟨b,off,hb,-⟩:=h.addr h0;cases hb
  have HZ:Hid (n=0):=h0;clear h h0;go_enter Tryz.func12,Tryz.ntmps12;go_wp2
  first|go_ret|skip
  rw[hRf.out];refine⟨none,0,by rw[HZ.out];rfl,?_,Ext.refl _⟩;rw[HZ.out];exact qZ.nil (q_r)
 | some a =>
  clear h;go_enter Tryz.func12,Tryz.ntmps12;go_wp2_with (at_builtin;refine q_o ?_);refine qp ?_;intro W hE hsz B0;refine q8a rfl _ _ rfl (by rfl) (qZ.empty (q_r) B0) (by rfl) (HI.out.ext hE) (by simp;omega) ?_;rintro v' w' hG ⟨g',hb,-,C⟩;have hE2:=C.ext hE hb;obtain⟨A,c,rfl,-⟩:=hG.form;rw[List.nil_append,q7Z] at hG ⊢;go_wp2
  first|go_ret|skip
  rw[hRf.out];exact⟨A,c,rfl,hG,hE2⟩
structure q95 (Z Z':Sys):Prop where
 ns:Z.ns=Z'.ns
 nb:Z.nb=Z'.nb
 k:Z.k=Z'.k
 z:∀i,i<Z.ns->Z.z i=Z'.z i
 rc:∀i,i<Z.nb->(Z.b i).r=(Z'.b i).r/\(Z.b i).c=(Z'.b i).c
 bk:∀i,i<Z.nb->∃(m n:Nat) (X:q_m),(Z.b i).m=m/\(Z'.b i).m=m/\(∀a,a<m->(Z.b i).L a=n)/\(∀a,a<m->(Z'.b i).L a=n)/\∀a,a<m->∀b,b<n->(Z.b i).A a b=raw (X a b)/\(Z'.b i).A a b=raw (X a b)/\Sz (X a b)
 R:∃y:Nat->Rat,∀i,i<Z.k->Z.R i=raw (y i)/\Z'.R i=raw (y i)/\Sz (y i)
theorem q8O {lo' hi':Nat}{v':Value}{Z Z':Sys}(h:Qn N lo hi w v Z) (h':Qn N lo' hi' w v' Z') (hq:q95 Z Z') :
  Calls Tryz.prog 14 #[v,v'] w (zI w (.bool true)):=by
 obtain⟨A1,c1,A2,c2,A3,c3,rfl,s1,s2,s3,k1,k2,k3⟩:=h.parts;obtain⟨B1,d1,B2,d2,B3,d3,rfl,u1,u2,u3,-,-,-⟩:=h'.parts;obtain⟨y,hy⟩:=hq.R;have HLA:Hid (LsV N lo hi w (.slice A3 Z.k c3) Z.k y):=LsR.congr s3 fun i hi=>(hy i hi).1
 have HLB:Hid (LsV N lo' hi' w (.slice B3 Z.k d3) Z.k y):=by
  have h1:=u3;rw[<-hq.k] at h1;exact LsR.congr h1 fun i hi=>(hy i hi).2.1
 have HYS:Hid (∀i,i<Z.k->Sz (y i)):=fun i hi=>(hy i hi).2.2
 have HIA:=q_h s1
 have HIB:Hid (IzV N lo' hi' w (.slice B1 Z.ns d1) Z.ns Z.z):=by
  have h1:=u1;rw[<-hq.ns] at h1;refine⟨rfl,?_⟩;obtain⟨-,A,c,hv,h2,h3,h4⟩:=h1;refine⟨A,c,hv,h2,h3,fun h0=>?_⟩;obtain⟨b,off,hA,hx⟩:=h4 h0;exact⟨b,off,hA,fun i hi=>by rw[hq.z i hi];exact hx i hi⟩
 have HBA:=q_h s2
 have HBB:Hid (q2R N lo' hi' w (.slice B2 Z.nb d2) Z.nb Z'.b):=by
  have h1:=u2;rw[<-hq.nb] at h1;exact h1
 have HRC:=q_h hq.rc;have HBK:=q_h hq.bk;rw[<-hq.ns,<-hq.nb,<-hq.k];obtain⟨ns,hns⟩:=qc Z.ns;obtain⟨nb,hnb⟩:=qc Z.nb;obtain⟨kk,hkk⟩:=qc Z.k;rw[<-hns.out] at HIA HIB k1 ⊢;rw[<-hnb.out] at HBA HBB HRC HBK k2 ⊢;rw[<-hkk.out] at HLA HLB HYS k3 ⊢;clear h h' s1 s2 s3 u1 u2 u3 hq hy;have t0:((ns:Int) != (ns:Int))=false:=by simp
 have t0':((nb:Int) != (nb:Int))=false:=by simp
 go_enter Tryz.func14,Tryz.ntmps14;go_upto_region 1 with (fail);refine kL ?_;intro w1 hE hsz BA BB;obtain⟨g0,hg0⟩:=qc w.heap.size;obtain⟨g1,hg1⟩:=qc (w.heap.size+1);rw[<-hg1.out] at BB ⊢;rw[<-hg0.out] at BA ⊢;obtain⟨a0,a1,a2,-⟩:=cells3 BA;obtain⟨b0,b1,b2,-⟩:=cells3 BB;clear hg0 hg1 hsz;go_wp2_with (go_at_call 21;refine q_o ?_);refine (YB (HLA.out.ext hE) (HLB.out.ext hE) HYS.out (fun _ _=>rfl)).mono ?_;rintro e w2 ⟨rfl,e2⟩;have HE2:Hid (Ext w w2):=hE.trans e2;have HBX:=q_h (e2.block BA);have HBY:=q_h (e2.block BB);clear a0 a1 a2 b0 b1 b2 BA BB hE e2;obtain⟨a0,a1,a2,-⟩:=cells3 HBX.out;obtain⟨b0,b1,b2,-⟩:=cells3 HBY.out;go_wp2_with fail
 go_loopw [5] (fun iv wr=>∃i:Nat,i<=ns/\iv=.int .i64 (i:Int)/\Hid (Ext w2 wr)) (fun iv _=>ns-(intOf iv).toNat)
 case atStart=>exact⟨0,Nat.zero_le _,rfl,Ext.refl _⟩
 case round =>
  clear a0 a1 a2 b0 b1 b2 t0 t0';obtain⟨i,hi9,rfl,HE⟩:=hrel;obtain⟨a0,a1,a2,-⟩:=cells3 (HE.out.block HBX.out);obtain⟨b0,b1,b2,-⟩:=cells3 (HE.out.block HBY.out)
  by_cases hlt:i<ns
  case pos =>
   have t1:decide ((i:Int)<(ns:Int))=true:=q_t (by omega);have t1':decide (i<ns)=true:=q_t hlt;have t2:(i:Int)<(ns:Int):=by omega
   obtain⟨b,off,rfl,hx⟩:=(HIA.out.ext (HE2.out.trans HE.out)).addr (by omega);obtain⟨b',off',rfl,hx'⟩:=(HIB.out.ext (HE2.out.trans HE.out)).addr (by omega);have p0:=hx i hlt;have q0:=hx' i hlt;obtain⟨x,hxe⟩:=qc (Z.z i);rw[<-hxe.out] at p0 q0;have t3:(x != x)=false:=by simp
   clear hx hx';go_upto_region 6 with (fail)
   go_cut [48] (fun bv wx=>bv=.bool false/\Ext wr wx)
   case first =>
    go_quiet (fail)
    go_wp2
    go_meet
    exact⟨rfl,(Ext.refl _).drewN _⟩
   obtain⟨rfl,hcut⟩:=hcut;have HE3:Hid (Ext w2 wc):=HE.out.trans hcut;clear hcut a0 a1 a2 b0 b1 b2 p0 q0;go_wp2;go_roundw
   case rel=>exact⟨i+1,by omega,by go_num,HE3⟩
   case measure=>simp[intOf];omega
  have t1:decide ((i:Int)<(ns:Int))=false:=q_f (by omega);have t1':decide (i<ns)=false:=q_f hlt;obtain⟨w3,hw3⟩:∃w3,w3=wr:=⟨_,rfl⟩
  subst hw3;have HE3:Hid (Ext w w3):=HE2.out.trans HE.out;have HBX3:=q_h (HE.out.block HBX.out);have HBY3:=q_h (HE.out.block HBY.out);clear HE hlt;go_wp2_with fail
  go_loopw [6] (fun iv wr=>∃i:Nat,i<=nb/\iv=.int .i64 (i:Int)/\Hid (Ext w3 wr)) (fun iv _=>nb-(intOf iv).toNat)
  case atStart=>exact⟨0,Nat.zero_le _,rfl,Ext.refl _⟩
  case round =>
   clear a0 a1 a2 b0 b1 b2 t1 t1';obtain⟨i,hi9,rfl,HE⟩:=hrel;obtain⟨a0,a1,a2,-⟩:=cells3 (HE.out.block HBX3.out);obtain⟨b0,b1,b2,-⟩:=cells3 (HE.out.block HBY3.out)
   by_cases hlt:i<nb
   case neg =>
    have t1:decide ((i:Int)<(nb:Int))=false:=q_f (by omega);have t1':decide (i<nb)=false:=q_f hlt;go_wp2
    first|go_ret|skip
    exact⟨rfl,HE3.out.trans HE.out⟩
   have t1:decide ((i:Int)<(nb:Int))=true:=q_t (by omega);have t1':decide (i<nb)=true:=q_t hlt;have t2:(i:Int)<(nb:Int):=by omega
   obtain⟨b,off,rfl,hx⟩:=(HBA.out.ext (HE3.out.trans HE.out)).addr (by omega);obtain⟨b',off',rfl,hx'⟩:=(HBB.out.ext (HE3.out.trans HE.out)).addr (by omega);obtain⟨Ab,cb,p0,p1,p2,hM,-⟩:=(hx i hlt).box;obtain⟨Ab',cb',q0,q1,q2,hM',-⟩:=(hx' i hlt).box;obtain⟨e1,e2⟩:=HRC.out i hlt;obtain⟨m,n,X,e3,e4,e5,e6,e7⟩:=HBK.out i hlt;rw[<-e1] at q0;rw[<-e2] at q1;rw[e3] at p2 hM;rw[e4] at q2 hM';have HMA:Hid (MtV N lo hi wr (.slice Ab m cb) m n X):=MtR.congr hM e5 fun a ha b hb=>(e7 a ha b (by rw[<-e5 a ha];exact hb)).1
   have HMB:Hid (MtV N lo' hi' wr (.slice Ab' m cb') m n X):=MtR.congr hM' e6 fun a ha b hb=>(e7 a ha b (by rw[<-e6 a ha];exact hb)).2.1
   have HXS:Hid (∀a,a<m->∀b,b<n->Sz (X a b)):=fun a ha b hb=>(e7 a ha b hb).2.2
   obtain⟨r,hr⟩:=qc (Z.b i).r;obtain⟨s,hs⟩:=qc (Z.b i).c;rw[<-hr.out] at p0 q0;rw[<-hs.out] at p1 q1;have t3:(r != r)=false:=by simp
   have t4:(s != s)=false:=by simp
   obtain⟨wq,hwq⟩:∃wq,wq=wr:=⟨_,rfl⟩
   subst hwq;clear hx hx' hM hM' e1 e2 e3 e4 e5 e6 e7;go_upto_region 11 with (fail);refine jL [Mn.q g0 1,Mn.eq (.slice (some ⟨b,off,none⟩) nb c2),Mn.i (i:Int),Mn.q b (off+i*3),Mn.q b (off+i*3),Mn.i r,Mn.q g1 1,Mn.eq (.slice (some ⟨b',off',none⟩) nb d2),Mn.i (i:Int),Mn.q (b') (off'+i*3),Mn.q (b') (off'+i*3),Mn.i r,Mn.t false,Mn.t false,Mn.q g0 1,Mn.eq (.slice (some ⟨b,off,none⟩) nb c2),Mn.i (i:Int),Mn.q b (off+i*3),Mn.q b (off+i*3+1),Mn.i s,Mn.q g1 1,Mn.eq (.slice (some ⟨b',off',none⟩) nb d2),Mn.i (i:Int),Mn.q (b') (off'+i*3),Mn.q (b') (off'+i*3+1),Mn.i s,Mn.t false,Mn.t false,Mn.t false,Mn.q g0 1,Mn.eq (.slice (some ⟨b,off,none⟩) nb c2),Mn.i (i:Int),Mn.q b (off+i*3),Mn.q b (off+i*3+2),Mn.eq (.slice Ab m cb),Mn.q g1 1,Mn.eq (.slice (some ⟨b',off',none⟩) nb d2),Mn.i (i:Int),Mn.q (b') (off'+i*3),Mn.q (b') (off'+i*3+2),Mn.eq (.slice Ab' m cb'),Mn.t true,Mn.t false,Mn.t false] (sM [56,57,58,59,60,61,62,63,64,65,66,67,68,69,70,71,72,73,74,75,76,77,78,79,80,81,82,83,84,85,86,87,88,89,90,91,92,93,94,95,96,97,98,99]) [] (rQ 44 0) 0 (by kernel_rfl) ?_ ?_
   ·show ∀i,i<44->_
    iterate 44 refine fs ?_ ?_
    ·exact fz
    all_goals intro hl;clear hl;refine stp rfl ?_;intro ac wi eI hB hA K hK
    have o2:=oOf (hB 2) rfl;rotate_left;obtain⟨_,s56,rfl⟩:=hA 0 56;have cc0:=eI.cell a1;rotate_left;have o6:=oOf (hB 6) rfl;rotate_left;obtain⟨_,s57,rfl⟩:=hA 1 57;obtain⟨_,s58,rfl⟩:=hA 2 58;rotate_left;obtain⟨_,s59,rfl⟩:=hA 3 59;rotate_left;obtain⟨_,s60,rfl⟩:=hA 4 60;have cc0:=eI.cell p0;rotate_left;have o3:=oOf (hB 3) rfl;rotate_left;obtain⟨_,s62,rfl⟩:=hA 6 62;have cc0:=eI.cell b1;rotate_left;have o6:=oOf (hB 6) rfl;rotate_left;obtain⟨_,s63,rfl⟩:=hA 7 63;obtain⟨_,s64,rfl⟩:=hA 8 64;rotate_left;obtain⟨_,s65,rfl⟩:=hA 9 65;rotate_left;obtain⟨_,s66,rfl⟩:=hA 10 66;have cc0:=eI.cell q0;rotate_left;obtain⟨_,s61,rfl⟩:=hA 5 61;obtain⟨_,s67,rfl⟩:=hA 11 67;rotate_left;obtain⟨_,s68,rfl⟩:=hA 12 68;rotate_left;obtain⟨_,s69,rfl⟩:=hA 13 69;have o2:=oOf (hB 2) rfl;rw[if_pos (by simp[Region.wanted,yielded,s69])];rotate_left;obtain⟨_,s69,rfl⟩:=hA 13 69;obtain⟨_,s70,rfl⟩:=hA 14 70;rw[if_pos (by simp[Region.wanted,yielded,s69])];have cc0:=eI.cell a1;rotate_left;obtain⟨_,s69,rfl⟩:=hA 13 69;have o6:=oOf (hB 6) rfl;rw[if_pos (by simp[Region.wanted,yielded,s69])];rotate_left;obtain⟨_,s69,rfl⟩:=hA 13 69;obtain⟨_,s71,rfl⟩:=hA 15 71;obtain⟨_,s72,rfl⟩:=hA 16 72;rw[if_pos (by simp[Region.wanted,yielded,s69])];rotate_left;obtain⟨_,s69,rfl⟩:=hA 13 69;obtain⟨_,s73,rfl⟩:=hA 17 73;rw[if_pos (by simp[Region.wanted,yielded,s69])];rotate_left;obtain⟨_,s69,rfl⟩:=hA 13 69
    obtain⟨_,s74,rfl⟩:=hA 18 74;rw[if_pos (by simp[Region.wanted,yielded,s69])];have cc0:=eI.cell p1;rotate_left;obtain⟨_,s69,rfl⟩:=hA 13 69;have o3:=oOf (hB 3) rfl;rw[if_pos (by simp[Region.wanted,yielded,s69])];rotate_left;obtain⟨_,s69,rfl⟩:=hA 13 69;obtain⟨_,s76,rfl⟩:=hA 20 76;rw[if_pos (by simp[Region.wanted,yielded,s69])];have cc0:=eI.cell b1;rotate_left;obtain⟨_,s69,rfl⟩:=hA 13 69;have o6:=oOf (hB 6) rfl;rw[if_pos (by simp[Region.wanted,yielded,s69])];rotate_left;obtain⟨_,s69,rfl⟩:=hA 13 69;obtain⟨_,s77,rfl⟩:=hA 21 77;obtain⟨_,s78,rfl⟩:=hA 22 78;rw[if_pos (by simp[Region.wanted,yielded,s69])];rotate_left;obtain⟨_,s69,rfl⟩:=hA 13 69;obtain⟨_,s79,rfl⟩:=hA 23 79;rw[if_pos (by simp[Region.wanted,yielded,s69])];rotate_left;obtain⟨_,s69,rfl⟩:=hA 13 69;obtain⟨_,s80,rfl⟩:=hA 24 80;rw[if_pos (by simp[Region.wanted,yielded,s69])];have cc0:=eI.cell q1;rotate_left;obtain⟨_,s69,rfl⟩:=hA 13 69;obtain⟨_,s75,rfl⟩:=hA 19 75;obtain⟨_,s81,rfl⟩:=hA 25 81;rw[if_pos (by simp[Region.wanted,yielded,s69])];rotate_left;obtain⟨_,s69,rfl⟩:=hA 13 69;obtain⟨_,s82,rfl⟩:=hA 26 82;rotate_left;obtain⟨_,s83,rfl⟩:=hA 27 83;rotate_left;obtain⟨_,s84,rfl⟩:=hA 28 84;have o2:=oOf (hB 2) rfl;rw[if_pos (by simp[Region.wanted,yielded,s84])];rotate_left;obtain⟨_,s84,rfl⟩:=hA 28 84;obtain⟨_,s85,rfl⟩:=hA 29 85;rw[if_pos (by simp[Region.wanted,yielded,s84])];have cc0:=eI.cell a1
    rotate_left;obtain⟨_,s84,rfl⟩:=hA 28 84;have o6:=oOf (hB 6) rfl;rw[if_pos (by simp[Region.wanted,yielded,s84])];rotate_left;obtain⟨_,s84,rfl⟩:=hA 28 84;obtain⟨_,s86,rfl⟩:=hA 30 86;obtain⟨_,s87,rfl⟩:=hA 31 87;rw[if_pos (by simp[Region.wanted,yielded,s84])];rotate_left;obtain⟨_,s84,rfl⟩:=hA 28 84;obtain⟨_,s88,rfl⟩:=hA 32 88;rw[if_pos (by simp[Region.wanted,yielded,s84])];rotate_left;obtain⟨_,s84,rfl⟩:=hA 28 84;obtain⟨_,s89,rfl⟩:=hA 33 89;rw[if_pos (by simp[Region.wanted,yielded,s84])];have cc0:=eI.cell p2;rotate_left;obtain⟨_,s84,rfl⟩:=hA 28 84;have o3:=oOf (hB 3) rfl;rw[if_pos (by simp[Region.wanted,yielded,s84])];rotate_left;obtain⟨_,s84,rfl⟩:=hA 28 84;obtain⟨_,s91,rfl⟩:=hA 35 91;rw[if_pos (by simp[Region.wanted,yielded,s84])];have cc0:=eI.cell b1;rotate_left;obtain⟨_,s84,rfl⟩:=hA 28 84;have o6:=oOf (hB 6) rfl;rw[if_pos (by simp[Region.wanted,yielded,s84])];rotate_left;obtain⟨_,s84,rfl⟩:=hA 28 84;obtain⟨_,s92,rfl⟩:=hA 36 92;obtain⟨_,s93,rfl⟩:=hA 37 93;rw[if_pos (by simp[Region.wanted,yielded,s84])];rotate_left;obtain⟨_,s84,rfl⟩:=hA 28 84;obtain⟨_,s94,rfl⟩:=hA 38 94;rw[if_pos (by simp[Region.wanted,yielded,s84])];rotate_left;obtain⟨_,s84,rfl⟩:=hA 28 84;obtain⟨_,s95,rfl⟩:=hA 39 95;rw[if_pos (by simp[Region.wanted,yielded,s84])];have cc0:=eI.cell q2;rotate_left;obtain⟨_,s84,rfl⟩:=hA 28 84;obtain⟨_,s90,rfl⟩:=hA 34 90;obtain⟨_,s96,rfl⟩:=hA 40 96
    clear hB hA;rw[if_pos (by simp[Region.wanted,yielded,s84])]
    ·go_simp;refine (q8p (MtR.ext HMA.out eI) (MtR.ext HMB.out eI) HXS.out (fun _ _ _ _=>rfl)).mono ?_;rintro e wj ⟨rfl,ej⟩;go_wp2_with fail;exact hK.out _ _ ej rfl
    obtain⟨_,s84,rfl⟩:=hA 28 84;obtain⟨_,s97,rfl⟩:=hA 41 97;rw[if_pos (by simp[Region.wanted,yielded,s84])];rotate_left;obtain⟨_,s84,rfl⟩:=hA 28 84;obtain⟨_,s98,rfl⟩:=hA 42 98;rotate_left
    all_goals clear hB hA;go_simp;exact q_k hK rfl
   intro vals wz eZ hJ;have J99:vals 43=_:=hJ 43 (by decide) (by decide);clear hJ;simp only[pr,Nat.reduceAdd,J99];clear J99;refine qg (by kernel_rfl) ?_ _;have HE4:Hid (Ext w3 wz):=HE.out.trans eZ;clear eZ a0 a1 a2 b0 b1 b2 p0 p1 p2 q0 q1 q2;go_wp2;go_roundw
   case rel=>exact⟨i+1,by omega,by go_num,HE4⟩
   case measure=>simp[intOf];omega
theorem q8I (La Lb:Nat->Int) (na nb k:Nat):inL (q81 na La Lb) (na+nb) k=(inL La na k||inL Lb nb k):=by
 rw[Bool.eq_iff_iff,Bool.or_eq_true,q86,q86,q86]
 constructor
 ·rintro⟨t,ht,h⟩;unfold q81 at h
  by_cases h1:t<na
  ·rw[if_pos h1] at h;exact .inl ⟨t,h1,h⟩
  ·rw[if_neg h1] at h;exact .inr ⟨t-na,by omega,h⟩
 ·rintro (⟨t,ht,h⟩|⟨t,ht,h⟩)
  ·exact⟨t,by omega,by unfold q81;rw[if_pos ht];exact h⟩
  ·exact⟨na+t,by omega,by unfold q81;rw[if_neg (by omega),show na+t-na=t by omega];exact h⟩
theorem q9c:∀k1 k,k1+k<=7->5*(5 ^ k*(gK k1 17+1))<=29000000000/\gK k (gK k1 17)<=29000000000:=fun k1 k hk=>by
 rcases (by omega:k1=0\/k1=1\/k1=2\/k1=3\/k1=4\/k1=5\/k1=6\/k1=7) with rfl|rfl|rfl|rfl|rfl|rfl|rfl|rfl <;>
  rcases (by omega:k=0\/k=1\/k=2\/k=3\/k=4\/k=5\/k=6\/k=7) with rfl|rfl|rfl|rfl|rfl|rfl|rfl|rfl<;>first|decide|omega
theorem q8q (E:Nat->Bool):∀n,vZ E n+vZ (xE E) n=n
 | 0=>rfl
 | n+1=>by
  have ih:=q8q E n;unfold vZ at ih ⊢;rw[q25,q25,List.length_append,List.length_append];unfold xE at ih ⊢;cases h:E n<;>simp<;>omega
section
variable {Z Z1 Z2 Z3:Sys}{na nb:Nat}{La Lb Lr:Nat->Int}
theorem q98 (Z:Sys) (z:Nat->Nat) (La Lb:Nat->Int) (na nb:Nat):goE Z z (q81 na La Lb) (na+nb)=both (goE Z z La na) (goE Z z Lb nb):=by
 funext x
 unfold goE both;exact q8I La Lb na nb _
theorem q8g (hl:q05 (q81 na La Lb) (na+nb) Z.ns=0):q05 La na Z.ns=0/\q05 Lb nb Z.ns=0/\∀s t,s<na->t<nb->La s≠Lb t:=by
 have e1:∀t,t<na->q81 na La Lb t=La t:=fun t ht=>by unfold q81;rw[if_pos ht]
 have e2:∀t,q81 na La Lb (na+t)=Lb t:=fun t=>by unfold q81;rw[if_neg (by omega),show na+t-na=t by omega]
 refine⟨q8D fun i hi=>?_,q8D fun i hi=>?_,fun s t hs ht h=>?_⟩
 ·obtain⟨h1,h2,h3⟩:=q82 hl i (by omega);rw[e1 i hi] at h1 h2 h3;exact⟨h1,h2,fun j hj=>by rw[<-e1 j (by omega)];exact h3 j hj⟩
 ·obtain⟨h1,h2,h3⟩:=q82 hl (na+i) (by omega);rw[e2 i] at h1 h2 h3;exact⟨h1,h2,fun j hj=>by rw[<-e2 j];exact h3 (na+j) (by omega)⟩
 ·have h1:=(q82 hl (na+t) (by omega)).2.2 s (by omega);rw[e1 s hs,e2 t] at h1;exact h1 h
theorem q8n (hl:q05 (q81 na La Lb) (na+nb) Z.ns=0) (hLr:∀t,t<nb->Lr t=Lb t-(q8k La na (Lb t).toNat:Int)){t:Nat}(ht:t<nb) :
  ∃a:Nat,a<vZ (fun k=>!inL La na k) Z.ns/\Lr t=(a:Int)/\Lb t=((enF (fun k=>!inL La na k) Z.ns a:Nat):Int):=by
 obtain⟨ha,hb,hab⟩:=q8g hl;obtain⟨h1,h2,-⟩:=q82 hb t ht;obtain⟨K,hK⟩:∃K:Nat,K=(Lb t).toNat:=⟨_,rfl⟩
 have hKt:Lb t=(K:Int):=by omega
 have hg:(fun k=>!inL La na k) K=true:=by
  show (!inL La na K)=true
  rw[Bool.not_eq_true',Bool.eq_false_iff];intro h;obtain⟨s,hs,h⟩:=q86.1 h;exact hab s t hs ht (by rw[h,hKt])
 obtain⟨h3,h4⟩:=q8Y (g:=fun k=>!inL La na k) (show K<Z.ns by omega) hg;have h5:=q8b (fun t ht=>(q82 ha t ht).1) (q8x ha) K;refine⟨_,h3,?_,by rw[h4,hKt]⟩;rw[hLr t ht,<-hK,hKt];omega
theorem q97 (hl:q05 (q81 na La Lb) (na+nb) Z.ns=0) (hLr:∀t,t<nb->Lr t=Lb t-(q8k La na (Lb t).toNat:Int)){a:Nat}(ha:a<vZ (fun k=>!inL La na k) Z.ns):inL Lr nb a=inL Lb nb (enF (fun k=>!inL La na k) Z.ns a):=by
 rw[Bool.eq_iff_iff,q86,q86]
 constructor
 ·rintro⟨t,ht,h⟩;obtain⟨c,h1,h2,h3⟩:=q8n hl hLr ht;have:c=a:=by omega
  exact⟨t,ht,by rw[h3,this]⟩
 ·rintro⟨t,ht,h⟩;obtain⟨c,h1,h2,h3⟩:=q8n hl hLr ht;have h4:enF (fun k=>!inL La na k) Z.ns c=enF (fun k=>!inL La na k) Z.ns a:=by omega
  have:=(q80 (fun k=>!inL La na k) Z.ns).inj _ _ h1 ha h4;exact⟨t,ht,by rw[h2,this]⟩
theorem q96 (hl:q05 (q81 na La Lb) (na+nb) Z.ns=0) (hLr:∀t,t<nb->Lr t=Lb t-(q8k La na (Lb t).toNat:Int)) (hn:Z1.ns=vZ (fun k=>!inL La na k) Z.ns):q05 Lr nb Z1.ns=0:=by
 obtain⟨-,hb,-⟩:=q8g hl;refine q8D fun i hi=>?_
 obtain⟨c,h1,h2,h3⟩:=q8n hl hLr hi;refine⟨by omega,by omega,fun j hj h=>?_⟩;obtain⟨d,g1,g2,g3⟩:=q8n hl hLr (show j<nb by omega);have:d=c:=by omega
 rw[this] at g3;exact (q82 hb i hi).2.2 j hj (by rw[g3,h3])
structure TwR (Z Z1:Sys) (La Lr:Nat->Int) (na nb:Nat):Prop where
 code:yN Z1=0
 bz:∀i,i<Z1.nb->q57 (Z1.b i)
 rz:∀i,i<Z1.k->jD (Z1.R i)
 zz:∀i,i<Z1.ns->Z1.z i=((fun a=>zN Z (enF (fun k=>!inL La na k) Z.ns a)) i:Int)
 off:qm (fun a=>zN Z (enF (fun k=>!inL La na k) Z.ns a)) Z1.ns=vZ (xE (goE Z (zN Z) La na)) (qm (zN Z) Z.ns)
 ry:∀i,i<Z1.k->Z1.R i=raw (q2V (xM Z (zN Z)) (q8s Z) (goE Z (zN Z) La na) (qm (zN Z) Z.ns) i)
 hM:HtM (vZ (xE (goE Z (zN Z) La na)) (qm (zN Z) Z.ns)) (vZ (xE (goE Z (zN Z) La na)) (qm (zN Z) Z.ns)) (gK (vZ (goE Z (zN Z) La na) (qm (zN Z) Z.ns)) 17) (xM Z1 (fun a=>zN Z (enF (fun k=>!inL La na k) Z.ns a)))
 hy:HtL (vZ (xE (goE Z (zN Z) La na)) (qm (zN Z) Z.ns)) (gK (vZ (goE Z (zN Z) La na) (qm (zN Z) Z.ns)) 17) (q2V (xM Z (zN Z)) (q8s Z) (goE Z (zN Z) La na) (qm (zN Z) Z.ns))
 hK:∀k,k<=vZ (xE (goE Z (zN Z) La na)) (qm (zN Z) Z.ns)->5*(5 ^ k*(gK (vZ (goE Z (zN Z) La na) (qm (zN Z) Z.ns)) 17+1))<=29000000000/\gK k (gK (vZ (goE Z (zN Z) La na) (qm (zN Z) Z.ns)) 17)<=29000000000
 eq:∀a,a<vZ (xE (goE Z (zN Z) La na)) (qm (zN Z) Z.ns)->∀b,b<vZ (xE (goE Z (zN Z) La na)) (qm (zN Z) Z.ns)->xM Z1 (fun a=>zN Z (enF (fun k=>!inL La na k) Z.ns a)) a b=Wj (xM Z (zN Z)) (goE Z (zN Z) La na) (qm (zN Z) Z.ns) a b
theorem tw_r (hf:FewF Z) (h0:yN Z=0) (hla:q05 La na Z.ns=0) (hra:Reg (vZ (goE Z (zN Z) La na) (qm (zN Z) Z.ns)) (xm (xM Z (zN Z)) (enF (goE Z (zN Z) La na) (qm (zN Z) Z.ns)))) (hpos:0<vZ (xE (goE Z (zN Z) La na)) (qm (zN Z) Z.ns))
  (hs:SyL Z (zN Z) La na (q8s Z) (qm (zN Z) Z.ns) Z1):TwR Z Z1 La Lr na nb:=by
 have hok:=ZY h0;have hz:=zN_ok hok;obtain⟨g1,g2,g3,g4⟩:=hs;have ho:qm (fun a=>zN Z (enF (fun k=>!inL La na k) Z.ns a)) Z1.ns=vZ (xE (goE Z (zN Z) La na)) (qm (zN Z) Z.ns):=by rw[g1];exact q92
 have hzr:∀i,i<Z1.ns->1<=zN Z (enF (fun k=>!inL La na k) Z.ns i)/\zN Z (enF (fun k=>!inL La na k) Z.ns i)<=12:=fun i hi=>by
  have h6:=(q80 (fun k=>!inL La na k) Z.ns).low i (by rw[<-g1];exact hi);have h7:=zQ.1 (hok.szs _ h6);have h8:=hz _ h6;omega
 have hn7:=hf.n7 h0;have hcb:=q8q (goE Z (zN Z) La na) (qm (zN Z) Z.ns);have hM:=q8z hok hz hf.br;have hy:=q8y hf h0;have hS:=q6a (E:=goE Z (zN Z) La na) hM;have hR:=q8K (E:=goE Z (zN Z) La na) hM hy;have hK:=q9c (vZ (goE Z (zN Z) La na) (qm (zN Z) Z.ns));have hK0:gK (vZ (goE Z (zN Z) La na) (qm (zN Z) Z.ns)) 17<=29000000000:=(gk17 _ (by omega)).2
 have hsym:∀i j,Wj (xM Z (zN Z)) (goE Z (zN Z) La na) (qm (zN Z) Z.ns) i j=Wj (xM Z (zN Z)) (goE Z (zN Z) La na) (qm (zN Z) Z.ns) j i:=fun i j=>by
  rw[q87,q87];exact q0Z (Wn Z (zN Z)) hra _ _
 have hns1:1<=Z1.ns:=by
  rcases Nat.eq_zero_or_pos Z1.ns with h|h
  ·rw[h] at ho;have:0=vZ (xE (goE Z (zN Z) La na)) (qm (zN Z) Z.ns):=ho;omega
  ·exact h
 have hns2:Z1.ns<=12:=by
  have h1:=q8b (fun t ht=>(q82 hla t ht).1) (q8x hla) Z.ns;have:=hok.n2;omega
 have hc1:yN Z1=0:=q5e g3 hns1 hns2 hzr (by rw[ho];omega) hsym;have heq:=q9a g3 (ZY hc1) (fun i j _ _=>hsym i j);rw[ho] at heq;refine⟨hc1,q5f g3 (K:=gK (vZ (goE Z (zN Z) La na) (qm (zN Z) Z.ns)) 17) (by rw[ho];exact hS) hK0,q6P g3 (K:=gK (vZ (goE Z (zN Z) La na) (qm (zN Z) Z.ns)) 17) (by rw[ho];exact hR) hK0,g3.hz,ho,g3.R,fun a ha b hb=>by rw[heq a ha b hb];exact hS a ha b hb,hR,fun k hk=>hK k (by omega),heq⟩
theorem q8Q (h0:yN Z=0) (hl:q05 (q81 na La Lb) (na+nb) Z.ns=0) (hLr:∀t,t<nb->Lr t=Lb t-(q8k La na (Lb t).toNat:Int))
  (hra:Reg (vZ (goE Z (zN Z) La na) (qm (zN Z) Z.ns)) (xm (xM Z (zN Z)) (enF (goE Z (zN Z) La na) (qm (zN Z) Z.ns))))
  (hrb:Reg (vZ (goE Z (zN Z) (q81 na La Lb) (na+nb)) (qm (zN Z) Z.ns)) (xm (xM Z (zN Z)) (enF (goE Z (zN Z) (q81 na La Lb) (na+nb)) (qm (zN Z) Z.ns))))
  (hn1:Z1.ns=vZ (fun k=>!inL La na k) Z.ns) (ht:TwR Z Z1 La Lr na nb) :
  Reg (vZ (goE Z1 (fun a=>zN Z (enF (fun k=>!inL La na k) Z.ns a)) Lr nb) (vZ (xE (goE Z (zN Z) La na)) (qm (zN Z) Z.ns))) (xm (xM Z1 (fun a=>zN Z (enF (fun k=>!inL La na k) Z.ns a))) (enF (goE Z1 (fun a=>zN Z (enF (fun k=>!inL La na k) Z.ns a)) Lr nb) (vZ (xE (goE Z (zN Z) La na)) (qm (zN Z) Z.ns)))) /\
  vZ (xE (goE Z1 (fun a=>zN Z (enF (fun k=>!inL La na k) Z.ns a)) Lr nb)) (vZ (xE (goE Z (zN Z) La na)) (qm (zN Z) Z.ns))=vZ (xE (goE Z (zN Z) (q81 na La Lb) (na+nb))) (qm (zN Z) Z.ns) /\
  (∀a,a<vZ (xE (goE Z (zN Z) (q81 na La Lb) (na+nb))) (qm (zN Z) Z.ns)->∀b,b<vZ (xE (goE Z (zN Z) (q81 na La Lb) (na+nb))) (qm (zN Z) Z.ns)->Wj (xM Z1 (fun a=>zN Z (enF (fun k=>!inL La na k) Z.ns a))) (goE Z1 (fun a=>zN Z (enF (fun k=>!inL La na k) Z.ns a)) Lr nb) (vZ (xE (goE Z (zN Z) La na)) (qm (zN Z) Z.ns)) a b=Wj (xM Z (zN Z)) (goE Z (zN Z) (q81 na La Lb) (na+nb)) (qm (zN Z) Z.ns) a b) /\
  (∀a,a<vZ (xE (goE Z (zN Z) (q81 na La Lb) (na+nb))) (qm (zN Z) Z.ns)->q2V (xM Z1 (fun a=>zN Z (enF (fun k=>!inL La na k) Z.ns a))) (q2V (xM Z (zN Z)) (q8s Z) (goE Z (zN Z) La na) (qm (zN Z) Z.ns)) (goE Z1 (fun a=>zN Z (enF (fun k=>!inL La na k) Z.ns a)) Lr nb) (vZ (xE (goE Z (zN Z) La na)) (qm (zN Z) Z.ns)) a=q2V (xM Z (zN Z)) (q8s Z) (goE Z (zN Z) (q81 na La Lb) (na+nb)) (qm (zN Z) Z.ns) a) /\
  vZ (fun k=>!inL Lr nb k) Z1.ns=vZ (fun k=>!inL (q81 na La Lb) (na+nb) k) Z.ns /\
  ∀a,a<vZ (fun k=>!inL (q81 na La Lb) (na+nb) k) Z.ns->enF (fun k=>!inL La na k) Z.ns (enF (fun k=>!inL Lr nb k) Z1.ns a)=enF (fun k=>!inL (q81 na La Lb) (na+nb) k) Z.ns a:=by
 obtain⟨-,-,hab⟩:=q8g hl;have hcat:=q98 Z (zN Z) La Lb na nb;rw[hcat] at hrb ⊢
 have hd:∀i,goE Z (zN Z) Lb nb i=true->goE Z (zN Z) La na i=false:=fun i hi=>by
  rw[Bool.eq_false_iff];intro h;unfold goE at hi h;obtain⟨t,ht,e⟩:=q86.1 hi;obtain⟨s,hs,e'⟩:=q86.1 h;exact hab s t hs ht (by rw[e,e'])
 have hoff:=ht.off
 have hEr:∀p,p<vZ (xE (goE Z (zN Z) La na)) (qm (zN Z) Z.ns)->goE Z1 (fun a=>zN Z (enF (fun k=>!inL La na k) Z.ns a)) Lr nb p=goE Z (zN Z) Lb nb (enF (xE (goE Z (zN Z) La na)) (qm (zN Z) Z.ns) p):=fun p hp=>by
  have hp':p<qm (fun a=>zN Z (enF (fun k=>!inL La na k) Z.ns a)) (vZ (fun k=>!inL La na k) Z.ns):=by rw[<-hn1,hoff];exact hp
  have h1:=(q9d (z:=zN Z) (g:=fun k=>!inL La na k) (ns:=Z.ns) hp').2;have h2:=(KW hp').1;unfold goE;rw[show enF (xE fun x=>inL La na (wI (zN Z) Z.ns x)) (qm (zN Z) Z.ns) p=enF (fun x=>!inL La na (wI (zN Z) Z.ns x)) (qm (zN Z) Z.ns) p from rfl,h1,hn1];exact q97 hl hLr h2
 obtain⟨r1,r2,r3,r4⟩:=q90 (M:=xM Z (zN Z)) (D:=xM Z1 (fun a=>zN Z (enF (fun k=>!inL La na k) Z.ns a))) (y:=q8s Z) (yD:=q2V (xM Z (zN Z)) (q8s Z) (goE Z (zN Z) La na) (qm (zN Z) Z.ns)) rfl hd hra hrb ht.eq (fun _ _=>rfl) hEr;refine⟨r1,r2,fun a ha b hb=>r3 a (by omega) b (by omega),fun a ha=>r4 a (by omega),?_⟩;obtain⟨q1,q2⟩:=q8T (Ea:=inL La na) (Eb:=inL Lb nb) (n:=Z.ns);have hA:(fun k=>!inL La na k)=xE (inL La na):=rfl
 have hAB:(fun k=>!inL (q81 na La Lb) (na+nb) k)=xE (both (inL La na) (inL Lb nb)):=by
  funext k
  unfold xE both;rw[q8I]
 have hR:∀p,p<Z1.ns->(fun k=>!inL Lr nb k) p=xE (fun p=>inL Lb nb (enF (xE (inL La na)) Z.ns p)) p:=fun p hp=>by
  show (!inL Lr nb p)=!inL Lb nb (enF (xE (inL La na)) Z.ns p)
  rw[q97 hl hLr (by rw[<-hn1];exact hp)]
  rfl
 rw[hAB,q8l hR,q8t hR,hA];rw[hA] at hn1;rw[hn1];exact⟨q1,q2⟩
theorem tw_eq (hf:FewF Z) (h0:yN Z=0) (hl:q05 (q81 na La Lb) (na+nb) Z.ns=0) (hLr:∀t,t<nb->Lr t=Lb t-(q8k La na (Lb t).toNat:Int))
  (hra:Reg (vZ (goE Z (zN Z) La na) (qm (zN Z) Z.ns)) (xm (xM Z (zN Z)) (enF (goE Z (zN Z) La na) (qm (zN Z) Z.ns))))
  (hrb:Reg (vZ (goE Z (zN Z) (q81 na La Lb) (na+nb)) (qm (zN Z) Z.ns)) (xm (xM Z (zN Z)) (enF (goE Z (zN Z) (q81 na La Lb) (na+nb)) (qm (zN Z) Z.ns))))
  (hn1:Z1.ns=vZ (fun k=>!inL La na k) Z.ns) (ht:TwR Z Z1 La Lr na nb)
  (hs2:SyL Z1 (fun a=>zN Z (enF (fun k=>!inL La na k) Z.ns a)) Lr nb (q2V (xM Z (zN Z)) (q8s Z) (goE Z (zN Z) La na) (qm (zN Z) Z.ns)) (vZ (xE (goE Z (zN Z) La na)) (qm (zN Z) Z.ns)) Z2)
  (hs3:SyL Z (zN Z) (q81 na La Lb) (na+nb) (q8s Z) (qm (zN Z) Z.ns) Z3):q95 Z2 Z3:=by
 obtain⟨-,f2,f3,f4,f5,f6⟩:=q8Q h0 hl hLr hra hrb hn1 ht;obtain⟨a1,a2,a3,a4⟩:=hs2;obtain⟨b1,b2,b3,b4⟩:=hs3;have hok:=ZY h0;have hns:Z2.ns=Z3.ns:=by rw[a1,b1,f5]
 have hzz:∀i,i<Z2.ns->(fun a=>zN Z (enF (fun k=>!inL La na k) Z.ns a)) (enF (fun k=>!inL Lr nb k) Z1.ns i)=zN Z (enF (fun k=>!inL (q81 na La Lb) (na+nb) k) Z.ns i):=fun i hi=>by
  show zN Z (enF (fun k=>!inL La na k) Z.ns (enF (fun k=>!inL Lr nb k) Z1.ns i))=_
  rw[f6 i (by rw[<-b1,<-hns];exact hi)]
 have hk3:Z3.k=qm (fun a=>zN Z (enF (fun k=>!inL (q81 na La Lb) (na+nb) k) Z.ns a)) Z3.ns:=b3.k;have hk2:Z2.k=qm (fun a=>(fun a=>zN Z (enF (fun k=>!inL La na k) Z.ns a)) (enF (fun k=>!inL Lr nb k) Z1.ns a)) Z2.ns:=a3.k;have hkk:Z2.k=Z3.k:=by rw[a2,b2,f2]
 have hMM:∀i j,i<qm (fun a=>(fun a=>zN Z (enF (fun k=>!inL La na k) Z.ns a)) (enF (fun k=>!inL Lr nb k) Z1.ns a)) Z2.ns->j<qm (fun a=>(fun a=>zN Z (enF (fun k=>!inL La na k) Z.ns a)) (enF (fun k=>!inL Lr nb k) Z1.ns a)) Z2.ns->Wj (xM Z1 (fun a=>zN Z (enF (fun k=>!inL La na k) Z.ns a))) (goE Z1 (fun a=>zN Z (enF (fun k=>!inL La na k) Z.ns a)) Lr nb) (vZ (xE (goE Z (zN Z) La na)) (qm (zN Z) Z.ns)) i j=Wj (xM Z (zN Z)) (goE Z (zN Z) (q81 na La Lb) (na+nb)) (qm (zN Z) Z.ns) i j:=fun i j hi hj=>f3 i (by omega) j (by omega)
 have h12:Z2.ns<=12:=by
  have h1:=q8b (fun t ht=>(q82 hl t ht).1) (q8x hl) Z.ns;have:=hok.n2;omega
 obtain⟨hnb,hrc⟩:=q8X a3 b3 h12 hns hzz hMM a4 b4;have hM:=q8z hok (zN_ok hok) hf.br;have hS:=q6a (E:=goE Z (zN Z) (q81 na La Lb) (na+nb)) hM;have hR:=q8K (E:=goE Z (zN Z) (q81 na La Lb) (na+nb)) hM (q8y hf h0);have hn7:=hf.n7 h0;have hcb:=q8q (goE Z (zN Z) (q81 na La Lb) (na+nb)) (qm (zN Z) Z.ns);have hK0:gK (vZ (goE Z (zN Z) (q81 na La Lb) (na+nb)) (qm (zN Z) Z.ns)) 17<=29000000000:=(gk17 _ (by omega)).2;refine⟨hns,hnb,hkk,fun i hi=>?_,hrc,fun i hi=>?_,q2V (xM Z (zN Z)) (q8s Z) (goE Z (zN Z) (q81 na La Lb) (na+nb)) (qm (zN Z) Z.ns),fun i hi=>?_⟩
 ·rw[a3.hz i hi,b3.hz i (by omega)];have:=hzz i hi
  show (((fun a=>zN Z (enF (fun k=>!inL La na k) Z.ns a)) (enF (fun k=>!inL Lr nb k) Z1.ns i):Nat):Int)=_
  rw[this]
 ·obtain⟨r,c,c1,c2,c3,c4,c5,c6,c7⟩:=a3.bk i hi;obtain⟨r',c',d1,d2,d3,d4,d5,d6,d7⟩:=b3.bk i (by omega);obtain⟨e1,e2⟩:=hrc i hi;obtain rfl:r=r':=by omega
  obtain rfl:c=c':=by omega
  have hzr:=hzz r c2;have hzc:=hzz c (by omega);have ho:∀k,k<=Z2.ns->qm (fun a=>(fun a=>zN Z (enF (fun k=>!inL La na k) Z.ns a)) (enF (fun k=>!inL Lr nb k) Z1.ns a)) k=qm (fun a=>zN Z (enF (fun k=>!inL (q81 na La Lb) (na+nb) k) Z.ns a)) k:=fun k hk=>q85 fun j hj=>hzz j (by omega)
  refine⟨_,_,fun a b=>Wj (xM Z (zN Z)) (goE Z (zN Z) (q81 na La Lb) (na+nb)) (qm (zN Z) Z.ns) (qm (fun a=>zN Z (enF (fun k=>!inL (q81 na La Lb) (na+nb) k) Z.ns a)) r+a) (qm (fun a=>zN Z (enF (fun k=>!inL (q81 na La Lb) (na+nb) k) Z.ns a)) c+b),c5.trans hzr,d5,fun a ha=>(c6 a (by rw[hzr];exact ha)).trans hzc,d6,fun a ha b hb=>?_⟩;have l1:=zC (fun a=>zN Z (enF (fun k=>!inL (q81 na La Lb) (na+nb) k) Z.ns a)) (show r+1<=Z3.ns by omega);have l2:=zC (fun a=>zN Z (enF (fun k=>!inL (q81 na La Lb) (na+nb) k) Z.ns a)) (show c+1<=Z3.ns by omega);have l3:qm (fun a=>zN Z (enF (fun k=>!inL (q81 na La Lb) (na+nb) k) Z.ns a)) (r+1)=qm (fun a=>zN Z (enF (fun k=>!inL (q81 na La Lb) (na+nb) k) Z.ns a)) r+zN Z (enF (fun k=>!inL (q81 na La Lb) (na+nb) k) Z.ns r):=rfl;have l4:qm (fun a=>zN Z (enF (fun k=>!inL (q81 na La Lb) (na+nb) k) Z.ns a)) (c+1)=qm (fun a=>zN Z (enF (fun k=>!inL (q81 na La Lb) (na+nb) k) Z.ns a)) c+zN Z (enF (fun k=>!inL (q81 na La Lb) (na+nb) k) Z.ns c):=rfl;refine⟨?_,d7 a ha b hb,(hS _ (by omega) _ (by omega)).sz hK0⟩;rw[c7 a (by rw[hzr];exact ha) b (by rw[hzc];exact hb),ho r (by omega),ho c (by omega),f3 _ (by omega) _ (by omega)]
 ·refine⟨?_,b3.R i (by omega),(hR i (by omega)).sz hK0⟩;rw[a3.R i hi,f4 i (by omega)]
end
end Go.Proofs.YtpkmjhmmmdkodaaGreat
namespace Go.Proofs.YtpkmjhmmmdkodaaGreat
variable {w w':World} {N n lo hi k i m base c b j K:Nat} {v:Value}
section
variable {P:Program}{ops:Array Oper}{Q:Exit->Act->World->Prop}{S:World->Prop}{late:List Nat}
theorem sF (i:Nat){oi:Oper}{fuel:Nat}{listed:Array Bool}{a:Act}(hi:ops.toList[i]?=some oi:=by rfl)
  (hs:Region.noSelect ops=true:=by kernel_rfl) (hf:Region.free .any ops listed i=true:=by kernel_rfl) (hr:(Region.ready .any ops listed).contains i=true:=by kernel_rfl)
  (hQ:∀c a w,Q (.panic c) (a.put oi.dst undef) w->Q (.panic c) a w:=by exact fun _ _ _ h=>h) (hg:Region.wanted oi (yielded ops a.tmps)=false:=by rfl)
  (h:xx P ops Q S late fuel (listed.setIfInBounds i true) (a.put oi.dst undef) w):xx P ops Q S late (fuel+1) listed a w :=
 WJ hi hs hf hr hQ (Or.inr ⟨hg,rfl⟩) h
end
end Go.Proofs.YtpkmjhmmmdkodaaGreat
