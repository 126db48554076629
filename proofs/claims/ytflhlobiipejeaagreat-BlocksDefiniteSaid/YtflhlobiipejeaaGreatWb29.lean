import Derived.Test.YtflhlobiipejeaaGreatWb28
set_option linter.all false
set_option maxHeartbeats 8000000
set_option maxRecDepth 100000
namespace Go.Proofs.YtflhlobiipejeaaGreat
variable {w w':World} {N n lo hi k i m base j K:Nat} {v:Value}
section
open Go.RowKit
theorem q7X {Z:Sys}(h:(Z.b i).c<0\/(Z.b i).r<(Z.b i).c\/(Z.ns:Int)<=(Z.b i).r):bkC Z i=2:=by unfold bkC;rw[if_pos h]
theorem q7W {Z:Sys}(h:¬((Z.b i).c<0\/(Z.b i).r<(Z.b i).c\/(Z.ns:Int)<=(Z.b i).r)) (h':Qn Z.z (Z.b i)=false):bkC Z i=4:=by unfold bkC;rw[if_neg h,if_pos h']
theorem q7Y {Z:Sys}(h:¬((Z.b i).c<0\/(Z.b i).r<(Z.b i).c\/(Z.ns:Int)<=(Z.b i).r)) (h':Qn Z.z (Z.b i)=true) (h2:0<i) (h3:Wh (Z.b (i-1)) (Z.b i)=false):bkC Z i=5:=by unfold bkC;rw[if_neg h,if_neg (by rw[h'];decide),if_pos ⟨h2,h3⟩]
theorem q9b {Z:Sys}(h:¬((Z.b i).c<0\/(Z.b i).r<(Z.b i).c\/(Z.ns:Int)<=(Z.b i).r)) (h':Qn Z.z (Z.b i)=true) (h2:0<i->Wh (Z.b (i-1)) (Z.b i)=true):bkC Z i=0:=by
 unfold bkC;rw[if_neg h,if_neg (by rw[h'];decide),if_neg];rintro⟨h3,h4⟩;rw[h2 h3] at h4;cases h4
theorem q66 (Z:Sys):Y3 Z.ns Z.z=Zo Z:=by
 unfold Y3 Zo;rw[Bool.and_assoc]
theorem q1E {B:Bkk}:q4f B=allB B.m (fun i=>allB B.m (fun j=>decide (zl (B.A i j)=zl (B.A j i)))):=by
 rw[Bool.eq_iff_iff];unfold q4f;rw[qm,qm]
 constructor
 ·intro h i hi;rw[qm];intro j hj
  rcases Nat.lt_trichotomy i j with h1|h1|h1
  ·have:=of_decide_eq_true (qm.1 (h j hj) i h1);exact decide_eq_true this.symm
  ·rw[h1];exact decide_eq_true rfl
  ·exact qm.1 (h i hi) j h1
 ·intro h i hi;rw[qm];intro j hj;exact qm.1 (h i hi) j (by omega)
def BkHt (KH:Nat) (Z:Sys):Prop:=∀i,i<Z.nb->∀a,a<(Z.b i).m->∀c,c<(Z.b i).L a->jJ ((Z.b i).A a c)/\((Z.b i).A a c=raw (zl ((Z.b i).A a c))->Ht KH (zl ((Z.b i).A a c)))
theorem q27 {KH:Nat}{Z:Sys}(h:jI N lo hi w v Z) (hB:BkHt KH Z) (hK:∀i,i<Z.k->jJ (Z.R i)) (hKH:KH+KH+1<=29000000000) :
  Calls Tryz.prog 15 #[v] w (zH w (.int .i64 (vH Z))):=by
 have HSZ:=q_h hB;have HKZ:=q_h hK;obtain⟨A1,c1,A2,c2,A3,c3,rfl,s1,s2,s3,k1,k2,k3⟩:=h.parts;have HI:=q_h s1;have HB:=q_h s2;have HL:=q_h s3;obtain⟨r,hr⟩:=qc (vH Z);obtain⟨Q,hQ⟩:=qc (zH w (.int .i64 (vH Z)));rw[<-hQ.out];rw[<-hr.out] at hQ;have F1:Hid (Kt Z=false->r=1):=fun h=>by rw[hr.out];unfold vH;rw[if_pos h]
 have F3:Hid (Kt Z=true->Zo Z=false->r=3):=fun h h'=>by rw[hr.out];unfold vH;rw[if_neg (by rw[h];decide),if_pos h']
 have F2:Hid (Kt Z=true->Zo Z=true->∀i,i<Z.nb->(∀j,j<i->bkC Z j=0)->∀c,bkC Z i=c->c≠0->r=c):=fun h h' i hi hj c hc h0=>by
  have e:=ZM hi hj (by rw[hc];exact h0);rw[hr.out];unfold vH;rw[if_neg (by rw[h];decide),if_neg (by rw[h'];decide),if_pos (by rw[e,hc];exact h0),e,hc]
 have F0:Hid (Kt Z=true->Zo Z=true->(∀i,i<Z.nb->bkC Z i=0)->r=if (Z.k:Int)=jK Z.z Z.ns then 0 else 4):=fun h h' hi=>by
  rw[hr.out];unfold vH;rw[if_neg (by rw[h];decide),if_neg (by rw[h'];decide),if_neg (by rw[jk hi];decide)]
 clear h s1 s2 s3 hr hB hK;obtain⟨n,hn⟩:=qc Z.nb;rw[<-hn.out] at k2 HB;obtain⟨ns,hns⟩:=qc Z.ns;rw[<-hns.out] at HI k1;obtain⟨kk,hkk⟩:=qc Z.k;rw[<-hkk.out] at k3 HL;rw[<-hn.out,<-hns.out,<-hkk.out];go_enter Tryz.func15,Tryz.ntmps15;go_upto_region 1 with (fail);refine qo ?_;intro w1 hE hsz B0;obtain⟨g1,hg1⟩:=qc w.heap.size;have hg1':w.heap.size<=g1:=by rw[hg1.out];exact q_r
 have hg1s:g1<w1.heap.size:=by rw[hg1.out];omega
 rw[<-hg1.out] at B0 ⊢;have HB0:=q_h B0;have HE1:=q_h hE;obtain⟨a0,a1,a2,-⟩:=cells3 B0;clear hg1 hsz B0 hE;go_wp2_with fail
 go_loopw [3] (fun iv wr=>∃i:Nat,i<=n/\iv=.int .i64 (i:Int)/\Hid (Ext w1 wr)/\Hid (∀j,j<i->W9 (Z.b j)=true)) (fun iv _=>n-(intOf iv).toNat)
 case atStart=>exact⟨0,Nat.zero_le _,rfl,Ext.refl _,fun j hj=>absurd hj (Nat.not_lt_zero j)⟩
 case round =>
  obtain⟨i,hi8,rfl,hE1,HC⟩:=hrel;clear a0 a1 a2;obtain⟨a0,a1,a2,-⟩:=cells3 (hE1.out.block HB0.out)
  by_cases hlt:i<n
  case pos =>
   have t1:decide ((i:Int)<(n:Int))=true:=q_t (by omega);have t2:(i:Int)<(n:Int):=by omega
   obtain⟨b,off,rfl,hx⟩:=(HB.out.ext (HE1.out.trans hE1.out)).addr (by omega);obtain⟨Ab,cb,p0,p1,p2,hM,hm9⟩:=(hx i hlt).box;obtain⟨mb,hmb⟩:=qc (Z.b i).m;have HM:=q_h hM;rw[<-hmb.out] at p2 HM hm9;have HIB:Hid (i<Z.nb):=by rw[Hid,<-hn.out];exact hlt
   have HP2:=q_h p2;obtain⟨wq,hwq⟩:∃wq,wq=wr:=⟨_,rfl⟩
   subst hwq;clear hx hM p0 p1;go_wp2_with fail
   go_loopw [4] (fun jv wr=>∃j:Nat,j<=mb/\jv=.int .i64 (j:Int)/\Hid (Ext wq wr)/\Hid (∀a,a<j->allB ((Z.b i).L a) (fun c=>okR ((Z.b i).A a c))=true)) (fun jv _=>mb-(intOf jv).toNat)
   case atStart=>exact⟨0,Nat.zero_le _,rfl,Ext.refl _,fun j hj=>absurd hj (Nat.not_lt_zero j)⟩
   case round =>
    obtain⟨j,hj9,rfl,hEj,HCj⟩:=hrel;have HEw:Hid (Ext w wr):=(HE1.out.trans hE1.out).trans hEj.out;clear a0 a1 a2 p2;obtain⟨a0,a1,a2,-⟩:=cells3 (hEj.out.block (hE1.out.block HB0.out));have p2:=hEj.out.cell HP2.out
    by_cases hjl:j<mb
    case neg =>
     have t3:decide ((j:Int)<(mb:Int))=false:=q_f (by omega);obtain rfl:mb=j:=by omega
     have HC2:Hid (∀j,j<i+1->W9 (Z.b j)=true):=fun j hj=>by
      by_cases hji:j=i
      ·rw[hji];unfold W9;rw[qm,<-hmb.out];exact HCj.out
      ·exact HC.out j (by omega)
     have HE2:Hid (Ext w1 wr):=hE1.out.trans hEj.out;go_wp2;go_roundw
     case rel=>exact⟨i+1,by omega,by go_num,HE2,HC2⟩
     case measure=>simp[intOf];omega
    have t3:decide ((j:Int)<(mb:Int))=true:=q_t (by omega);have t4:(j:Int)<(mb:Int):=by omega
    obtain⟨bm,om,rfl,-,-,hxm⟩:=MtR.addr (MtR.ext HM.out hEj.out) (by omega);obtain⟨A7,c7,q0,-,-,hl⟩:=hxm j hjl;have HLJ:=q_h hl;obtain⟨x,hx1⟩:=qc ((Z.b i).L j);rw[<-hx1.out] at q0 HLJ;obtain⟨ok,hok⟩:=qc (allB x (fun c=>okR ((Z.b i).A j c)));clear hxm hl;go_wp2_with (go_at_call 10;refine q_o ?_);refine (jY HLJ.out (fun c hc=>(HSZ.out i HIB.out j (by rw[<-hmb.out];exact hjl) c (by rw[<-hx1.out];exact hc)).1)).mono ?_;rintro e w5 ⟨rfl,e5⟩;rw[<-hok.out];have HE5:Hid (Ext w w5):=HEw.out.trans e5;have HX5:Hid (Ext wq w5):=hEj.out.trans e5;clear a0 a1 a2 p2 q0 e5;cases ok with
    | false =>
     have HN:Hid (r=1):=F1.out (by
      unfold Kt
      rw[qL HIB.out (by
       unfold W9
       exact qL (by rw[<-hmb.out];exact hjl) (by rw[<-hx1.out];exact hok.out.symm)),Bool.false_and])
     go_wp2
     first|go_ret|skip
     rw[hQ.out,HN.out];exact⟨rfl,HE5.out⟩
    | true =>
     have HS2:Hid (∀a,a<j+1->allB ((Z.b i).L a) (fun c=>okR ((Z.b i).A a c))=true):=fun a ha=>by
      by_cases hja:a=j
      ·rw[hja,<-hx1.out];exact hok.out.symm
      ·exact HCj.out a (by omega)
     go_wp2;go_roundw
     case rel=>exact⟨j+1,by omega,by go_num,HX5,HS2⟩
     case measure=>simp[intOf];omega
  have t1:decide ((i:Int)<(n:Int))=false:=q_f (by omega);obtain rfl:n=i:=by omega
  have HEw:Hid (Ext w wr):=HE1.out.trans hE1.out;have HCB:Hid (∀j,j<Z.nb->W9 (Z.b j)=true):=fun j hj=>HC.out j (by rw[hn.out];exact hj)
  obtain⟨ok,hok⟩:=qc (allB kk (fun i=>okR (Z.R i)));go_wp2_with (go_at_call 10;refine q_o ?_);refine (jY (HL.out.ext HEw.out) (fun i hi=>HKZ.out i (by rw[<-hkk.out];exact hi))).mono ?_;rintro e w5 ⟨rfl,e5⟩;rw[<-hok.out];have HE5:Hid (Ext w w5):=HEw.out.trans e5;have HB5:=q_h (e5.block (hE1.out.block HB0.out));clear a0 a1 a2 e5 t1;obtain⟨a0,a1,a2,-⟩:=cells3 HB5.out;cases ok with
  | false =>
   have HN:Hid (r=1):=F1.out (by
    unfold Kt
    rw[<-hkk.out,<-hok.out,Bool.and_false])
   go_wp2
   first|go_ret|skip
   rw[hQ.out,HN.out];exact⟨rfl,HE5.out⟩
  | true =>
  have HCS:Hid (Kt Z=true):=by
   unfold Kt;rw[<-hkk.out,<-hok.out,Bool.and_true,Hid,qm];exact HCB.out
  go_wp2_with (go_at_call 53;refine q_o ?_);refine (q4x (HI.out.ext HE5.out)).mono ?_;rintro e w6 ⟨rfl,e6⟩;have HE6:Hid (Ext w w6):=HE5.out.trans e6;have HB6:=q_h (e6.block HB5.out);clear a0 a1 a2 e6;obtain⟨a0,a1,a2,-⟩:=cells3 HB6.out;have HSZ9:Hid (Y3 ns Z.z=Zo Z):=by rw[hns.out];exact q66 Z
  rw[HSZ9.out];obtain⟨sz,hsz⟩:=qc (Zo Z);rw[<-hsz.out];cases sz with
  | false =>
   have HN:Hid (r=3):=F3.out HCS.out hsz.out.symm;go_wp2
   first|go_ret|skip
   rw[hQ.out,HN.out];exact⟨rfl,HE6.out⟩
  | true =>
  rw[if_pos rfl];obtain⟨T,hT⟩:=qc (jK Z.z ns);rw[<-hT.out]
  have HSS:Hid (1<=ns/\ns<=12/\(∀i,i<ns->sz1 (Z.z i)=true)/\T<=64):=by
   have h9:=hsz.out.symm;rw[<-q66 Z] at h9;unfold Y3 at h9;rw[Bool.and_eq_true,Bool.and_eq_true,Bool.and_eq_true,qm,decide_eq_true_eq,decide_eq_true_eq,decide_eq_true_eq,<-hns.out,<-hT.out] at h9;exact⟨h9.1.1.1,h9.1.1.2,h9.1.2,h9.2⟩
  have hT1:0<=T:=by have:=(Zk ns HSS.out.2.2.1).1;rw[<-hT.out] at this;omega
  have hns12:ns<=12:=HSS.out.2.1;have t3:decide (T<0)=false:=q_f (by omega);have HOKS:Hid (∀i,i<n->(∀j,j<i->bkC Z j=0)->∀c,bkC Z i=c->c≠0->r=c):=fun i hi hj c hc h0=>F2.out HCS.out hsz.out.symm i (by rw[<-hn.out];exact hi) hj c hc h0
  go_wp2_with fail
  go_loopw [6] (fun iv wr=>∃i:Nat,i<=n/\iv=.int .i64 (i:Int)/\Hid (Ext w6 wr)/\Hid (∀j,j<i->bkC Z j=0)) (fun iv _=>n-(intOf iv).toNat)
  case atStart=>exact⟨0,Nat.zero_le _,rfl,Ext.refl _,fun j hj=>absurd hj (Nat.not_lt_zero j)⟩
  case round =>
   obtain⟨i,hi9,rfl,hEi,HCK⟩:=hrel;clear a0 a1 a2 t3;have HEr:Hid (Ext w wr):=HE6.out.trans hEi.out;obtain⟨a0,a1,a2,-⟩:=cells3 (hEi.out.block HB6.out)
   by_cases hlt:i<n
   case neg =>
    have t1:decide ((i:Int)<(n:Int))=false:=q_f (by omega);obtain rfl:n=i:=by omega
    have HR9:Hid (r=if (kk:Int)=T then 0 else 4):=by
     have h9:=F0.out HCS.out hsz.out.symm (fun j hj=>HCK.out j (by rw[hn.out];exact hj));rw[<-hkk.out,<-hns.out,<-hT.out] at h9;exact h9
    by_cases hkT:(kk:Int)=T
    ·have t4:((kk:Int) != T)=false:=by simpa using hkT
     have HN:Hid (r=0):=by rw[HR9.out,if_pos hkT];rfl
     clear hkT;go_wp2
     first|go_ret|skip
     rw[hQ.out,HN.out];exact⟨rfl,HEr.out⟩
    have t4:((kk:Int) != T)=true:=by simpa using hkT
    have HN:Hid (r=4):=by rw[HR9.out,if_neg hkT];rfl
    clear hkT;go_wp2
    first|go_ret|skip
    rw[hQ.out,HN.out];exact⟨rfl,HEr.out⟩
   have t1:decide ((i:Int)<(n:Int))=true:=q_t (by omega);have t2:(i:Int)<(n:Int):=by omega
   have HIB:Hid (i<Z.nb):=by rw[Hid,<-hn.out];exact hlt
   obtain⟨b,off,rfl,hx⟩:=(HB.out.ext HEr.out).addr (by omega);obtain⟨Ab,cb,p0,p1,p2,hM,hm9⟩:=(hx i hlt).box
   have HPV:Hid (∀j,j<n->wr.cell? ⟨b,off+j*3,none⟩=some (.int .i64 (Z.b j).r)/\wr.cell? ⟨b,off+j*3+1,none⟩=some (.int .i64 (Z.b j).c)):=fun j hj=>by
    obtain⟨A9,c9,x0,x1,-⟩:=(hx j hj).box;exact⟨x0,x1⟩
   obtain⟨mb,hmb⟩:=qc (Z.b i).m;obtain⟨R,hR⟩:=qc (Z.b i).r;obtain⟨C,hC⟩:=qc (Z.b i).c;have HM:=q_h hM;rw[<-hmb.out] at p2 HM hm9;rw[<-hR.out] at p0;rw[<-hC.out] at p1;have HGO:Hid (∀c,bkC Z i=c->c≠0->r=c):=HOKS.out i hlt HCK.out;obtain⟨wq,hwq⟩:∃wq,wq=wr:=⟨_,rfl⟩
   subst hwq;clear hx hM;go_upto_region 18 with (fail);refine qo ?_;intro w7 e7 hsz7 B7;obtain⟨g7,hg7⟩:=qc wq.heap.size;rw[<-hg7.out] at B7 ⊢;have HX7:=q_h e7;have HE7:Hid (Ext w w7):=HEr.out.trans e7;have HB7:=q_h B7;have HB07:=q_h (e7.block (hEi.out.block HB6.out));obtain⟨b0,b1,b2,-⟩:=cells3 B7;clear e7 hsz7 B7 p0 p1 p2 a0 a1 a2;obtain⟨a0,a1,a2,-⟩:=cells3 HB07.out
   by_cases hbad:C<0\/R<C\/(ns:Int)<=R
   ·have HN:Hid (r=2):=HGO.out 2 (q7X (by rw[<-hR.out,<-hC.out,<-hns.out];exact hbad)) (by decide)
    by_cases h1:C<0
    ·have t4:decide (C<0)=true:=q_t h1;clear h1 hbad;go_wp2
     first|go_ret|skip
     rw[hQ.out,HN.out];exact⟨rfl,HE7.out⟩
    have t4:decide (C<0)=false:=q_f h1
    by_cases h2:R<C
    ·have t5:decide (R<C)=true:=q_t h2;clear h1 h2 hbad;go_wp2
     first|go_ret|skip
     rw[hQ.out,HN.out];exact⟨rfl,HE7.out⟩
    have t5:decide (R<C)=false:=q_f h2;have t6:decide ((ns:Int)<=R)=true:=q_t (by omega);clear h1 h2 hbad;go_wp2
    first|go_ret|skip
    rw[hQ.out,HN.out];exact⟨rfl,HE7.out⟩
   have t4:decide (C<0)=false:=q_f (by omega);have t5:decide (R<C)=false:=q_f (by omega);have t6:decide ((ns:Int)<=R)=false:=q_f (by omega);have HRG:Hid (¬((Z.b i).c<0\/(Z.b i).r<(Z.b i).c\/(Z.ns:Int)<=(Z.b i).r)):=by rw[Hid,<-hR.out,<-hC.out,<-hns.out];exact hbad
   obtain⟨rr,hrr⟩:=qc R.toNat;obtain⟨cc,hcc⟩:=qc C.toNat;have hRr:R=(rr:Int):=by have:=hrr.out;omega
   have hCc:C=(cc:Int):=by have:=hcc.out;omega
   have hrn:rr<ns:=by omega
   have hcn:cc<ns:=by omega
   have hHR:=q_h hRr;have hHC:=q_h hCc;subst hRr;subst hCc;clear hbad;obtain⟨bz,oz,rfl,hzx⟩:=(HI.out.ext HE7.out).addr (by omega);have d0:=hzx rr hrn;have d1:=hzx cc hcn;obtain⟨zr,hzr⟩:=qc (Z.z rr);obtain⟨zc,hzc⟩:=qc (Z.z cc);rw[<-hzr.out] at d0;rw[<-hzc.out] at d1;clear hzx;obtain⟨sh,hsh⟩:=qc (decide ((mb:Int)=zr)&&allB mb (fun a=>decide (((Z.b i).L a:Int)=zc)));obtain⟨shp,hshp⟩:=qc (Qn Z.z (Z.b i))
   have HSHP:Hid (shp=(sh&&(!(decide ((rr:Int)=(cc:Int)))||q4f (Z.b i)))):=by
    rw[hshp.out,hsh.out];unfold Qn;rw[<-hR.out,<-hC.out,Int.toNat_natCast,Int.toNat_natCast,<-hzr.out,<-hzc.out,<-hmb.out,Bool.and_assoc]
    rfl
   have HM7:=q_h (MtR.ext HM.out HX7.out);have hrrcc:(cc:Int)<=(rr:Int):=of_decide_eq_false t5 |> Int.not_lt.1
   clear t4 t5 t6;go_upto_region 20 with (fail)
   go_cut [104] (fun bv wx=>bv=.bool (!shp)/\Ext w7 wx)
   case first =>
    cases sh with
    | false =>
     have HSF:Hid (shp=false):=by rw[HSHP.out,Bool.false_and];rfl
     have eC:=(Ext.refl w7).drew;refine qw (fun w'=>w'.cell? ⟨g1,0,none⟩=some (.slice (some ⟨bz,oz,none⟩) ns c1)/\w'.cell? ⟨g7,0,none⟩=some (.int .i64 (rr:Int))/\w'.cell? ⟨g7,1,none⟩=some (.int .i64 (cc:Int))/\w'.cell? ⟨g7,2,none⟩=some (.slice Ab mb cb)/\w'.cell? ⟨bz,oz+rr,none⟩=some (.int .i64 zr)/\w'.cell? ⟨bz,oz+cc,none⟩=some (.int .i64 zc)) [] (by kernel_rfl) (by exact⟨eC.cell a0,eC.cell b0,eC.cell b1,eC.cell b2,eC.cell d0,eC.cell d1⟩) (fun hHeld=>?_);refine sP 0 (h:=?_);refine sT 1 (h:=?_);refine sP 2 (h:=?_);refine sT 3 (h:=?_);refine sP 4 (h:=?_);refine sT 5 (h:=?_);refine sP 6 (h:=?_);refine sT 7 (h:=?_);refine sP 8 (h:=?_);refine sT 9 (h:=?_);refine sP 10 (h:=?_);refine sT 11 (h:=?_);refine sP 12 (h:=?_);refine sT 13 (h:=?_);refine qp (i:=14) rfl (by kernel_rfl) (fun K hK=>?_);go_simp;refine (Zy (MtR.ext HM7.out eC) zr zc).mono ?_;rintro e w9 ⟨rfl,e9⟩;rw[<-hsh.out];replace eC:=eC.trans e9;go_wp2_with fail;clear hHeld;refine hK.out _ _ (by exact⟨eC.cell a0,eC.cell b0,eC.cell b1,eC.cell b2,eC.cell d0,eC.cell d1⟩) fun hHeld=>?_
     clear hK K;try simp only[nr]
     refine sP 15 (h:=?_);refine sP 16 (h:=?_);refine sF 17 (h:=?_);refine sF 18 (h:=?_);refine sF 19 (h:=?_);refine sF 20 (h:=?_);refine sF 21 (h:=?_);refine sF 22 (h:=?_);refine sF 23 (h:=?_);refine sF 24 (h:=?_);refine sF 25 (h:=?_);refine sF 26 (h:=?_);refine sF 27 (h:=?_);refine sP 28 (h:=?_);refine qg (by kernel_rfl) ?_ _;clear hHeld;go_wp2_with fail
     go_meet
     exact⟨by rw[HSF.out];rfl,eC⟩
    | true =>
     by_cases hrc:rr=cc
     case neg =>
      have t7:((rr:Int) == (cc:Int))=false:=by simpa using fun e:(rr:Int)=cc=>hrc (by omega)
      have HSF:Hid (shp=true):=by rw[HSHP.out,q_f (by omega)];rfl
      clear hrc;have eC:=(Ext.refl w7).drew;refine qw (fun w'=>w'.cell? ⟨g1,0,none⟩=some (.slice (some ⟨bz,oz,none⟩) ns c1)/\w'.cell? ⟨g7,0,none⟩=some (.int .i64 (rr:Int))/\w'.cell? ⟨g7,1,none⟩=some (.int .i64 (cc:Int))/\w'.cell? ⟨g7,2,none⟩=some (.slice Ab mb cb)/\w'.cell? ⟨bz,oz+rr,none⟩=some (.int .i64 zr)/\w'.cell? ⟨bz,oz+cc,none⟩=some (.int .i64 zc)) [] (by kernel_rfl) (by exact⟨eC.cell a0,eC.cell b0,eC.cell b1,eC.cell b2,eC.cell d0,eC.cell d1⟩) (fun hHeld=>?_);refine sP 0 (h:=?_);refine sT 1 (h:=?_);refine sP 2 (h:=?_);refine sT 3 (h:=?_);refine sP 4 (h:=?_);refine sT 5 (h:=?_);refine sP 6 (h:=?_);refine sT 7 (h:=?_);refine sP 8 (h:=?_);refine sT 9 (h:=?_);refine sP 10 (h:=?_);refine sT 11 (h:=?_);refine sP 12 (h:=?_);refine sT 13 (h:=?_);refine qp (i:=14) rfl (by kernel_rfl) (fun K hK=>?_);go_simp;refine (Zy (MtR.ext HM7.out eC) zr zc).mono ?_;rintro e w9 ⟨rfl,e9⟩;rw[<-hsh.out];replace eC:=eC.trans e9;go_wp2_with fail;clear hHeld;refine hK.out _ _ (by exact⟨eC.cell a0,eC.cell b0,eC.cell b1,eC.cell b2,eC.cell d0,eC.cell d1⟩) fun hHeld=>?_
      clear hK K;try simp only[nr]
      refine sP 15 (h:=?_);refine sP 16 (h:=?_);refine sP 17 (h:=?_);refine sT 18 (h:=?_);refine sP 19 (h:=?_);refine sT 20 (h:=?_);refine sP 21 (h:=?_);refine sP 22 (h:=?_);refine sF 23 (h:=?_);refine sF 24 (h:=?_);refine sF 25 (h:=?_);refine sF 26 (h:=?_);refine sP 27 (h:=?_);refine sP 28 (h:=?_);refine qg (by kernel_rfl) ?_ _;clear hHeld;go_wp2_with fail
      go_meet
      exact⟨by rw[HSF.out];rfl,eC⟩
     subst hrc;have h9:=hsh.out.symm;rw[Bool.and_eq_true,qm,decide_eq_true_eq] at h9;have hzz:zr=zc:=by rw[hzr.out,hzc.out]
     have h10:=kU.1 (HSS.out.2.2.1 rr hrn);rw[<-hzr.out] at h10;have hmb1:0<mb:=by omega
     have hmb2:mb<1000000:=by omega
     subst hzz
     have HLL:Hid (∀a,a<mb->(Z.b i).L a=mb):=fun a ha=>by
      have:=of_decide_eq_true (h9.2 a ha);omega
     have HOK9:Hid (∀a,a<mb->∀c,c<mb->(Z.b i).A a c=raw (zl ((Z.b i).A a c))/\Ht KH (zl ((Z.b i).A a c))):=fun a ha c hc=>by
      have h1:=HCB.out i HIB.out;unfold W9 at h1;have h2:=qm.1 (qm.1 h1 a (by rw[<-hmb.out];exact ha)) c (by rw[HLL.out a ha];exact hc);have h3:=HSZ.out i HIB.out a (by rw[<-hmb.out];exact ha) c (by rw[HLL.out a ha];exact hc);have h4:=wu h2;exact⟨h4,h3.2 h4⟩
     have HMV:Hid (MtV N lo hi w7 (.slice Ab mb cb) mb mb (fun a c=>zl ((Z.b i).A a c))):=MtR.congr HM7.out (fun a ha=>HLL.out a ha) (fun a ha c hc=>(HOK9.out a ha c (by rw[<-HLL.out a ha];exact hc)).1)
     have HSY:Hid (allB mb (fun a=>allB mb (fun c=>decide (zl ((Z.b i).A a c)=zl ((Z.b i).A c a))))=shp):=by
      rw[HSHP.out,decide_eq_true rfl,q1E,<-hmb.out]
      rfl
     have t7:((rr:Int) == (rr:Int))=true:=by simp
     clear h9 h10;have eC:=(Ext.refl w7).drew;refine qw (fun w'=>w'.cell? ⟨g1,0,none⟩=some (.slice (some ⟨bz,oz,none⟩) ns c1)/\w'.cell? ⟨g7,0,none⟩=some (.int .i64 (rr:Int))/\w'.cell? ⟨g7,1,none⟩=some (.int .i64 (rr:Int))/\w'.cell? ⟨g7,2,none⟩=some (.slice Ab mb cb)/\w'.cell? ⟨bz,oz+rr,none⟩=some (.int .i64 zr)) [] (by kernel_rfl) (by exact⟨eC.cell a0,eC.cell b0,eC.cell b1,eC.cell b2,eC.cell d0⟩) (fun hHeld=>?_);refine sP 0 (h:=?_);refine sT 1 (h:=?_);refine sP 2 (h:=?_);refine sT 3 (h:=?_);refine sP 4 (h:=?_);refine sT 5 (h:=?_);refine sP 6 (h:=?_);refine sT 7 (h:=?_);refine sP 8 (h:=?_);refine sT 9 (h:=?_);refine sP 10 (h:=?_);refine sT 11 (h:=?_);refine sP 12 (h:=?_);refine sT 13 (h:=?_);refine qp (i:=14) rfl (by kernel_rfl) (fun K hK=>?_);go_simp;refine (Zy (MtR.ext HM7.out eC) zr zr).mono ?_;rintro e w9 ⟨rfl,e9⟩;rw[<-hsh.out];replace eC:=eC.trans e9;go_wp2_with fail;clear hHeld;refine hK.out _ _ (by exact⟨eC.cell a0,eC.cell b0,eC.cell b1,eC.cell b2,eC.cell d0⟩) fun hHeld=>?_
     clear hK K;try simp only[nr]
     refine sP 15 (h:=?_);refine sP 16 (h:=?_);refine sP 17 (h:=?_);refine sT 18 (h:=?_);refine sP 19 (h:=?_);refine sT 20 (h:=?_);refine sP 21 (h:=?_);refine sP 22 (h:=?_);refine sP 23 (h:=?_);refine sT 24 (h:=?_);refine qp (i:=25) rfl (by kernel_rfl) (fun K hK=>?_);rw[if_pos (by rfl)];go_simp;refine (Y9 (MtR.ext HMV.out eC) hmb1 hmb2 (fun a ha c hc=>⟨(HOK9.out a ha c hc).2.sz (by omega),(HOK9.out c hc a ha).2.sz (by omega),((HOK9.out a ha c hc).2.sub (HOK9.out c hc a ha).2).sz (by omega)⟩)).mono ?_;rintro e w9 ⟨rfl,e9⟩;rw[HSY.out];replace eC:=eC.trans e9;go_wp2_with fail;clear hHeld;refine hK.out _ _ (by exact⟨eC.cell a0,eC.cell b0,eC.cell b1,eC.cell b2,eC.cell d0⟩) fun hHeld=>?_
     clear hK K;try simp only[nr]
     refine sP 26 (h:=?_);refine sP 27 (h:=?_);refine sP 28 (h:=?_);refine qg (by kernel_rfl) ?_ _;clear hHeld;go_wp2_with fail
     go_meet
     exact⟨rfl,eC⟩
   obtain⟨rfl,hcut⟩:=hcut;obtain⟨w8,hw8⟩:∃w8,w8=wc:=⟨_,rfl⟩
   subst hw8;have HX8:=q_h hcut;have HE8:Hid (Ext w w8):=HE7.out.trans HX8.out;have HB8:=q_h (HX8.out.block HB7.out);have HB08:=q_h (HX8.out.block HB07.out);have HX68:Hid (Ext w6 w8):=(hEi.out.trans HX7.out).trans HX8.out;clear hcut HB7 HB07 a0 a1 a2 b0 b1 b2 d0 d1;obtain⟨a0,a1,a2,-⟩:=cells3 HB08.out;obtain⟨b0,b1,b2,-⟩:=cells3 HB8.out;cases shp with
   | false =>
    have HN:Hid (r=4):=HGO.out 4 (q7W HRG.out hshp.out.symm) (by decide);go_wp2
    first|go_ret|skip
    rw[hQ.out,HN.out];exact⟨rfl,HE8.out⟩
   | true =>
   obtain⟨ob,hob⟩:=qc (decide (0<i) && !Wh (Z.b (i-1)) (Z.b i));go_upto_region 22 with (fail)
   go_cut [142] (fun bv wx=>bv=.bool ob/\Ext w8 wx)
   case first =>
    by_cases hi0:i=0
    ·have t7:decide (0<(i:Int))=false:=q_f (by omega);have t7':decide (0<i)=false:=q_f (by omega);have HOB:Hid (ob=false):=by rw[Hid,hob.out,q_f (by omega)];rfl
     clear hi0
     go_quiet (fail)
     go_wp2
     go_meet
     exact⟨by rw[HOB.out],(Ext.refl _).drewN _⟩
    have t7:decide (0<(i:Int))=true:=q_t (by omega);have t7':decide (0<i)=true:=q_t (by omega);have hi00:0<i:=by omega
    obtain⟨i',hi'⟩:=qc (i-1);have hii:i'+1=i:=by have:=hi'.out;omega
    have t8:IntKind.i64.wrap ((i:Int)-1)=(i':Int):=by rw[wrp (by omega) (by omega)];omega
    obtain⟨d0,d1⟩:=HPV.out i' (by omega);replace d0:=(HX7.out.trans HX8.out).cell d0;replace d1:=(HX7.out.trans HX8.out).cell d1;obtain⟨pr,hpr⟩:=qc (Z.b i').r;obtain⟨pc,hpc⟩:=qc (Z.b i').c;rw[<-hpr.out] at d0;rw[<-hpc.out] at d1;have t9:(i':Int)<(n:Int):=by omega
    have t9':i' < n:=by omega
    clear hii
    have HOB:Hid (ob=!(decide (pr<(rr:Int))||decide (pr=(rr:Int))&&decide (pc<(cc:Int)))):=by
     rw[Hid,hob.out,q_t (by omega),Bool.true_and,<-hi'.out];unfold Wh;rw[<-hpr.out,<-hpc.out,<-hR.out,<-hC.out]
    by_cases h1:(rr:Int)<pr
    ·have t10:decide ((rr:Int)<pr)=true:=q_t h1;have HO1:Hid (ob=true):=by rw[Hid,HOB.out,q_f (by omega),q_f (by omega)];rfl
     clear h1
     go_quiet (fail)
     go_wp2
     go_meet
     exact⟨by rw[HO1.out],(Ext.refl _).drewN _⟩
    have t10:decide ((rr:Int)<pr)=false:=q_f h1
    by_cases h2:pr=(rr:Int)
    case neg =>
     have t11:(pr == (rr:Int))=false:=by simpa using h2
     have HO1:Hid (ob=false):=by rw[Hid,HOB.out,q_t (show pr<(rr:Int) by omega)];rfl
     clear h1 h2
     go_quiet (fail)
     go_wp2
     go_meet
     exact⟨by rw[HO1.out],(Ext.refl _).drewN _⟩
    have t11:(pr == (rr:Int))=true:=by simpa using h2
    have HO1:Hid (decide ((cc:Int)<=pc)=ob):=by
     rw[Hid,HOB.out,q_f (show ¬pr<(rr:Int) by omega),q_t h2,Bool.false_or,Bool.true_and,Bool.eq_iff_iff];simp only[decide_eq_true_eq,Bool.not_eq_true',decide_eq_false_iff_not];omega
    have t12:=HO1.out;clear h1 h2
    go_quiet (fail)
    go_wp2
    go_meet
    exact⟨rfl,(Ext.refl _).drewN _⟩
   obtain⟨rfl,hcut⟩:=hcut;have HE9:Hid (Ext w wc):=HE8.out.trans hcut;have HX9:Hid (Ext w6 wc):=HX68.out.trans hcut;clear hcut a0 a1 a2 b0 b1 b2;cases ob with
   | true =>
    have HN:Hid (r=5):=by
     have h9:=hob.out.symm;rw[Bool.and_eq_true,decide_eq_true_eq,Bool.not_eq_true'] at h9;exact HGO.out 5 (q7Y HRG.out hshp.out.symm h9.1 h9.2) (by decide)
    go_wp2
    first|go_ret|skip
    rw[hQ.out,HN.out];exact⟨rfl,HE9.out⟩
   | false =>
    have HCK2:Hid (∀j,j<i+1->bkC Z j=0):=fun j hj=>by
     by_cases hji:j=i
     ·rw[hji];refine q9b HRG.out hshp.out.symm fun h0=>?_
      have h9:=hob.out.symm;rw[q_t h0,Bool.true_and,Bool.not_eq_false'] at h9;exact h9
     ·exact HCK.out j (by omega)
    go_wp2;go_roundw
    case rel=>exact⟨i+1,by omega,by go_num,HX9,HCK2⟩
    case measure=>simp[intOf];omega
theorem q4y{Z:Sys}(h:jI N lo hi w v Z) (h0:Okk Z){z:Nat->Nat}(hz:∀i,i<Z.ns->Z.z i=(z i:Int)) :
  Calls Tryz.prog 17 #[v] w (zY N w (ql z Z.ns) (ql z Z.ns) (kK Z z)):=by
 obtain⟨Q,hQ⟩:=qc (zY N w (ql z Z.ns) (ql z Z.ns) (kK Z z));rw[<-hQ.out];have HO:=q_h h0;have HZ:=q_h hz;obtain⟨A1,c1,A2,c2,A3,c3,rfl,s1,s2,s3,k1,k2,k3⟩:=h.parts;have HB:=q_h s2;have HI:=q_h s1;have hN:=LsR.le s3;obtain⟨n,hn⟩:=qc (ql z Z.ns);have hn64:n<=64:=by have h1:=h0.tot;rw[ku hz] at h1;have:=hn.out;omega
 have hkn:Z.k=n:=by have h1:=h0.len;rw[ku hz] at h1;have:=hn.out;omega
 have hn1:0<n:=by
  have h1:=(Zk Z.ns h0.szs).1;have h2:=h0.n1;rw[ku hz] at h1;have:=hn.out;omega
 have HFI:Hid (∀(w':World) (k:Nat),Ext w w'->k<=Z.ns->Calls Tryz.prog 31 #[.slice A1 Z.ns c1,.int .i64 (k:Int)] w' (zH w' (.int .i64 (ql z k:Int)))):=fun w' k e hk =>
  XP (HI.out.ext e) HZ.out hk (by rw[<-hn.out];omega) (by have:=h0.n2;omega)
 obtain⟨m,hm⟩:=qc Z.ns;obtain⟨nb,hnb⟩:=qc Z.nb;rw[<-hnb.out] at HB k2;rw[<-hm.out] at HFI k1;rw[<-hm.out,<-hnb.out,hkn];have hm12:m<=12:=by have:=h0.n2;have:=hm.out;omega
 clear h h0 hz s1 s2 s3 hkn HI;go_enter Tryz.func17,Tryz.ntmps17;go_upto_region 1 with (fail);refine qo ?_;intro w1 hE hsz B0;obtain⟨g1,hg1⟩:=qc w.heap.size;have hg1':w.heap.size<=g1:=by rw[hg1.out];exact q_r
 have hg1s:g1<w1.heap.size:=by rw[hg1.out];omega
 rw[<-hg1.out] at B0 ⊢;obtain⟨a0,a1,a2,-⟩:=cells3 B0;clear hg1 hsz;go_wp2_with (go_at_call 24;refine q_o ?_);refine (Z4 (N:=N) (by have:=hE.size;omega) n n rfl rfl (by omega) hn1 (by omega)).mono ?_;rintro e wZ ⟨hh,cap,β,κ,rfl,hcap,ho,eZ⟩;have HO0:Hid (∃A,qU N w1.heap.size wZ.heap.size wZ hh cap n n β κ A/\DnP Z z A 0 0 0):=⟨_,ho,DnP.start Z z⟩
 have HEZ:=q_h (hE.trans eZ);have HBZ:=q_h (eZ.block B0);have hE1s:=hE.size;have hno:n<=cap:=ho.mle;have hsz1:=eZ.size;clear ho eZ B0 hE a0 a1 a2;obtain⟨a0,a1,a2,-⟩:=cells3 HBZ.out;go_wp2_with fail
 go_loopw [5] (fun iv wr=>∃i:Nat,i<=nb/\iv=.int .i64 (i:Int)/\Hid (∃A,qU N w1.heap.size wZ.heap.size wr hh cap n n β κ A/\DnP Z z A i 0 0)/\Hid (Chg w1.heap.size wZ.heap.size wZ wr)) (fun iv _=>nb-(intOf iv).toNat)
 case atStart=>exact⟨0,Nat.zero_le _,rfl,HO0,Chg.refl _ _ _⟩
 case round =>
  clear HO0 a0 a1 a2;obtain⟨i,hi9,rfl,HOM,HC⟩:=hrel;obtain⟨a0,a1,a2,-⟩:=cells3 (HC.out.blk HBZ.out (.inl (by omega)))
  by_cases hlt:i<nb
  case neg =>
   have t1:decide ((i:Int)<(nb:Int))=false:=q_f (by omega);obtain rfl:nb=i:=by omega
   have HE9:Hid (Ext w wr):=HC.out.ext HEZ.out (by omega)
   have HR9:Hid (qU N w.heap.size wr.heap.size wr hh cap n n β κ (kK Z z)):=by
    obtain⟨A,h1,h2⟩:=HOM.out;rw[hnb.out] at h2;exact (h1.congr (B:=kK Z z) (fun x hx y hy=>h2.done x (by rw[<-hn.out];exact hx) y (by rw[<-hn.out];exact hy))).wide hE1s hN HC.out.size (q_r)
   go_wp2
   first|go_ret|skip
   rw[hQ.out,<-hn.out];exact⟨hh,cap,β,κ,rfl,hcap,HR9.out,HE9.out⟩
  have t1:decide ((i:Int)<(nb:Int))=true:=q_t (by omega);have t2:(i:Int)<(nb:Int):=by omega
  have hEi:=HC.out.ext HEZ.out (by omega);have HBi:=HB.out;obtain⟨b,off,rfl,hx⟩:=HBi.addr (by omega);obtain⟨Ab,cb,p0,p1,p2,hM,hm9⟩:=(hx i hlt).box;replace p0:=hEi.cell p0;replace p1:=hEi.cell p1;replace p2:=hEi.cell p2;have HIB:Hid (i<Z.nb):=by rw[Hid,<-hnb.out];exact hlt
  obtain⟨r1,r2,r3,r4,-⟩:=jT HO.out HIB.out;obtain⟨r5,r6⟩:=vU r4;obtain⟨R,hR⟩:=qc (Z.b i).r.toNat;obtain⟨C,hC⟩:=qc (Z.b i).c.toNat;rw[show (Z.b i).r=(R:Int) by have:=hR.out;omega] at p0;rw[show (Z.b i).c=(C:Int) by have:=hC.out;omega] at p1;have hRm:R<m:=by have:=hR.out;have:=hm.out;omega
  have hCR:C<=R:=by have:=hR.out;have:=hC.out;omega
  rw[<-hR.out,HZ.out R (by rw[<-hm.out];exact hRm)] at r5
  have HLC:Hid (∀a,a<(Z.b i).m->(Z.b i).L a=z C):=fun a ha=>by
   have h9:=r6 a ha;rw[<-hC.out,HZ.out C (by rw[<-hm.out];omega)] at h9;omega
  have hmr:(Z.b i).m=z R:=by omega
  rw[hmr] at p2 hm9;have hmR:=q_h hmr
  have hXR:ql z R+z R<=n:=by
   have h1:=qK z (show R+1<=m by omega);have h2:ql z (R+1)=ql z R+z R:=rfl;have:=hn.out;rw[<-hm.out] at this;omega
  have hXC:ql z C+z C<=n:=by
   have h1:=qK z (show C+1<=m by omega);have h2:ql z (C+1)=ql z C+z C:=rfl;have:=hn.out;rw[<-hm.out] at this;omega
  obtain⟨S,hS⟩:=qc (z R);rw[<-hS.out] at p2 hm9 hXR
  have HMW:Hid (MtR N lo hi w (.slice Ab S cb) S (Z.b i).L (Z.b i).A):=by
   rw[hmR.out,<-hS.out] at hM;exact hM
  obtain⟨P,hP⟩:=qc (ql z R);obtain⟨T,hT⟩:=qc (ql z C);rw[<-hP.out] at hXR;rw[<-hT.out] at hXC;have hzs:=HC.out.size;obtain⟨wq,hwq⟩:∃wq,wq=wr:=⟨_,rfl⟩
  subst hwq;have hBq:=HC.out.blk HBZ.out (.inl (by omega));have HBQ:=q_h hBq;have HEI:=q_h hEi;clear hx HBi hM r1 r2 r3 r4 r5 r6 hmr hEi hBq;go_upto_region 7 with (fail);refine qo ?_;intro w7 e7 hsz7 B7;obtain⟨g7,hg7⟩:=qc wq.heap.size;have hg7q:wq.heap.size<=g7:=by rw[hg7.out];exact q_r
  rw[<-hg7.out] at B7 ⊢;have HB7':=q_h B7;have HE7':=q_h (HEI.out.trans e7);have HC7':Hid (Chg w1.heap.size wZ.heap.size wZ w7):=HC.out.trans (e7.chg _ _)
  have HO7':Hid (∃A,qU N w1.heap.size wZ.heap.size w7 hh cap n n β κ A/\DnP Z z A i 0 0):=by
   obtain⟨A,h1,h2⟩:=HOM.out;exact⟨A,h1.ext e7,h2⟩
  obtain⟨b0,b1,b2,-⟩:=cells3 B7;replace a0:=e7.cell a0;clear B7 e7 p0 p1 p2 HOM HC hg7 hsz7 a1 a2 HEI;go_wp2_with (go_at_call 31;refine q_o ?_);refine (HFI.out _ R HE7'.out (by omega)).mono ?_;rintro e w8 ⟨rfl,e8⟩;rw[<-hP.out];replace a0:=e8.cell a0;have HB8':=q_h (e8.block HB7'.out);have HE8':=q_h (HE7'.out.trans e8);clear b0 b1 b2;obtain⟨b0,b1,b2,-⟩:=cells3 HB8'.out;go_wp2_with (go_at_call 31;refine q_o ?_);refine (HFI.out _ C HE8'.out (by omega)).mono ?_;rintro e wF ⟨rfl,eF⟩;rw[<-hT.out];have HB7:=q_h (eF.block HB8'.out);have HX7F:Ext w7 wF:=e8.trans eF;have HC7:Hid (Chg w1.heap.size wZ.heap.size wZ wF):=HC7'.out.trans (HX7F.chg _ _)
  have HO7:Hid (∃A,qU N w1.heap.size wZ.heap.size wF hh cap n n β κ A/\DnP Z z A i 0 0):=by
   obtain⟨A,h1,h2⟩:=HO7'.out;exact⟨A,h1.ext HX7F,h2⟩
  have hg77:g7<wF.heap.size:=qF HB7.out;clear b0 b1 b2 a0 e8 eF HX7F HB8' HE8' HB7' HE7' HC7' HO7' HBQ;obtain⟨b0,b1,b2,-⟩:=cells3 HB7.out;go_wp2_with fail
  go_loopw [9] (fun iv wr=>∃a:Nat,a<=S/\iv=.int .i64 (a:Int)/\Hid (∃A,qU N w1.heap.size wZ.heap.size wr hh cap n n β κ A/\DnP Z z A i a 0)/\Hid (Chg w1.heap.size wZ.heap.size wF wr)) (fun iv _=>S-(intOf iv).toNat)
  case atStart=>exact⟨0,Nat.zero_le _,rfl,HO7,Chg.refl _ _ _⟩
  case round =>
   clear HO7 b0 b1 b2;obtain⟨a,ha9,rfl,HOA,HCA⟩:=hrel;obtain⟨b0,b1,b2,-⟩:=cells3 (HCA.out.blk HB7.out (.inr (by omega)))
   by_cases hla:a<S
   case neg =>
    have t3:decide ((a:Int)<(S:Int))=false:=q_f (by omega);obtain rfl:S=a:=by omega
    have HON:Hid (∃A,qU N w1.heap.size wZ.heap.size wr hh cap n n β κ A/\DnP Z z A (i+1) 0 0):=by
     obtain⟨A,h1,h2⟩:=HOA.out;refine⟨A,h1,DnP.blk ?_⟩;rw[<-hR.out,<-hS.out];exact h2
    have HCN:Hid (Chg w1.heap.size wZ.heap.size wZ wr):=HC7.out.trans HCA.out;go_wp2;go_roundw
    case rel=>exact⟨i+1,by omega,by go_num,HON,HCN⟩
    case measure=>simp[intOf];omega
   have t3:decide ((a:Int)<(S:Int))=true:=q_t (by omega);have t4:(a:Int)<(S:Int):=by omega
   have hEa:=HCA.out.ext (HC7.out.ext HEZ.out (by omega)) (by omega);obtain⟨bm,om,rfl,-,-,hxm⟩:=MtR.addr HMW.out (by omega);obtain⟨Aa,ca,p0,hca1,hca2,hrow⟩:=hxm a hla;have hla9:=HLC.out a (by rw[hmR.out,<-hS.out];exact hla);rw[hla9] at p0 hrow hca1;obtain⟨D,hD⟩:=qc (z C);rw[<-hD.out] at p0 hrow hca1;have hXD:T+D<=n:=by rw[hD.out];exact hXC
   have HRW:=q_h hrow;have HRC:Hid (∀b,b<D->(Z.b i).A a b=raw (zl ((Z.b i).A a b))):=fun b hb=>VZ HO.out HIB.out (by rw[hmR.out,<-hS.out];exact hla) (by rw[hla9,<-hD.out];exact hb)
   have HQX:Hid (∀b,b<D->kK Z z (P+a) (T+b)=zl ((Z.b i).A a b)):=fun b hb=>by
    have h9:=q0j HO.out HZ.out HIB.out (a:=a) (b:=b) (by rw[<-hR.out,<-hS.out];exact hla) (by rw[<-hC.out,<-hD.out];exact hb);rw[<-hR.out,<-hC.out,<-hP.out,<-hT.out] at h9;exact h9
   have HP0:=q_h p0;have hwr:wZ.heap.size<=wr.heap.size:=by have:=HCA.out.size;omega
   obtain⟨wp,hwp⟩:∃wp,wp=wr:=⟨_,rfl⟩
   subst hwp;clear hxm hrow hla9 hEa p0;go_wp2_with fail
   go_loopw [10] (fun iv wr=>∃b:Nat,b<=D/\iv=.int .i64 (b:Int)/\Hid (∃A,qU N w1.heap.size wZ.heap.size wr hh cap n n β κ A/\DnP Z z A i a b)/\Hid (Chg w1.heap.size wZ.heap.size wF wr)) (fun iv _=>D-(intOf iv).toNat)
   case atStart=>exact⟨0,Nat.zero_le _,rfl,HOA,HCA⟩
   case round =>
    clear HOA HCA b0 b1 b2;obtain⟨b9,hb9,rfl,HOB,HCB⟩:=hrel;have hEb:=HCB.out.ext (HC7.out.ext HEZ.out (by omega)) (by omega);obtain⟨b0,b1,b2,-⟩:=cells3 (HCB.out.blk HB7.out (.inr (by omega)));have p0:=hEb.cell HP0.out
    by_cases hlb:b9<D
    case neg =>
     have t5:decide ((b9:Int)<(D:Int))=false:=q_f (by omega);obtain rfl:D=b9:=by omega
     have HON:Hid (∃A,qU N w1.heap.size wZ.heap.size wr hh cap n n β κ A/\DnP Z z A i (a+1) 0):=by
      obtain⟨A,h1,h2⟩:=HOB.out;refine⟨A,h1,DnP.row ?_⟩;rw[<-hC.out,<-hD.out];exact h2
     go_wp2;go_roundw
     case rel=>exact⟨a+1,by omega,by go_num,HON,HCB⟩
     case measure=>simp[intOf];omega
    have t5:decide ((b9:Int)<(D:Int))=true:=q_t (by omega);have t6:(b9:Int)<(D:Int):=by omega
    obtain⟨br,orr,rfl,-,-,hxr⟩:=LsR.addr HRW.out (by omega);have hAt:=hxr b9 hlb;rw[HRC.out b9 hlb] at hAt;obtain⟨n1,A7,k7,c7,A8,k8,c8,r0,r1,r2,r3,hb1,z1,z2⟩:=hAt.open;obtain⟨q,hq⟩:=qc (zl ((Z.b i).A a b9));rw[<-hq.out] at hb1 z1 z2;have HR0:=q_h r0;have HR1:=q_h r1;have HR2:=q_h r2;have HR3:=q_h r3;replace r0:=hEb.cell r0;replace r1:=hEb.cell r1;replace r2:=hEb.cell r2;replace r3:=hEb.cell r3;have HZW1:=q_h z1;have HZW2:=q_h z2;have hX0:P+a<n:=by omega
    have hY0:T+b9<n:=by omega
    have HDX:=q_h (HQX.out b9 hlb);rw[<-hq.out] at HDX;have HPI:Hid (P=ql z (Z.b i).r.toNat/\T=ql z (Z.b i).c.toNat):=by rw[Hid,<-hR.out,<-hC.out];exact⟨hP.out,hT.out⟩
    obtain⟨X,hX⟩:=qc (P+a);obtain⟨Y,hY⟩:=qc (T+b9);rw[<-hX.out,<-hY.out] at HDX;rw[<-hX.out] at hX0;rw[<-hY.out] at hY0;have t7:IntKind.i64.wrap ((P:Int)+(a:Int))=(X:Int):=by rw[wrp (by omega) (by omega),hX.out];omega
    have t8:IntKind.i64.wrap ((T:Int)+(b9:Int))=(Y:Int):=by rw[wrp (by omega) (by omega),hY.out];omega
    have t9:(X:Int)<(n:Int):=by omega
    have t10:(Y:Int)<(n:Int):=by omega
    have hwr9:wZ.heap.size<=wr.heap.size:=by have:=HCB.out.size;omega
    obtain⟨A,ho,hdn⟩:=HOB.out;have HDN:=q_h hdn;have HO8:=q_h ho;have x0:=HO8.out.hcell hX0;have HRX:qX N wr (.agg #[.bool n1,.slice A7 k7 c7,.bool false,.slice A8 k8 c8]) q:=qX.mk hb1 (z1.ext hEb) (z2.ext hEb);have hloX:=HO8.out.lo_ X hX0;have hhiX:=HO8.out.hi_ X hX0;have hloY:=HO8.out.lo_ Y hY0;have hhiY:=HO8.out.hi_ Y hY0;obtain⟨wp2,hwp2⟩:∃wp2,wp2=wr:=⟨_,rfl⟩
    subst hwp2;clear hxr hAt z1 z2 hEb ho hdn HOB;go_upto_region 15 with (fail);refine yB [Mn.eq (.slice (some ⟨hh,0,none⟩) n cap),Mn.i (P:Int),Mn.i (a:Int),Mn.i (X:Int),Mn.q hh X,Mn.eq (.slice (some ⟨β X,0,none⟩) n (κ X)),Mn.i (T:Int),Mn.i (b9:Int),Mn.i (Y:Int),Mn.q g7 2,Mn.eq (.slice (some ⟨bm,om,none⟩) S cb),Mn.i (a:Int),Mn.q bm (om+a),Mn.eq (.slice (some ⟨br,orr,none⟩) D ca),Mn.i (b9:Int),Mn.q br (orr+b9*4),Mn.rat N (q),Mn.any,Mn.any] [some 56,some 57,some 58,some 59,some 60,some 61,some 62,some 63,some 64,some 65,some 66,some 67,some 68,some 69,some 70,some 71,some 72,some 73,none] [17,18] (rQ 17 2) 2 (by kernel_rfl) ?_ ?_
    ·show ∀i,i<19->_
     iterate 19 refine fs ?_ ?_
     ·exact fz
     all_goals intro hl;first|exact absurd hl (by decide)|(clear hl;refine stp rfl ?_;intro ac wi eI hB hA K hK)
     have o4:=oOf (hB 4) rfl;rotate_left;have o7:=oOf (hB 7) rfl;rotate_left;have o9:=oOf (hB 9) rfl;rotate_left;obtain⟨_,s57,rfl⟩:=hA 1 57;obtain⟨_,s58,rfl⟩:=hA 2 58;rotate_left;obtain⟨_,s56,rfl⟩:=hA 0 56;obtain⟨_,s59,rfl⟩:=hA 3 59;rotate_left;obtain⟨_,s60,rfl⟩:=hA 4 60;have cc0:=eI.cell x0;rotate_left;have o8:=oOf (hB 8) rfl;rotate_left;have o10:=oOf (hB 10) rfl;rotate_left;obtain⟨_,s62,rfl⟩:=hA 6 62;obtain⟨_,s63,rfl⟩:=hA 7 63;rotate_left;have o6:=oOf (hB 6) rfl;rotate_left;obtain⟨_,s65,rfl⟩:=hA 9 65;have cc0:=eI.cell b2;rotate_left;have o9:=oOf (hB 9) rfl;rotate_left;obtain⟨_,s66,rfl⟩:=hA 10 66;obtain⟨_,s67,rfl⟩:=hA 11 67;rotate_left;obtain⟨_,s68,rfl⟩:=hA 12 68;have cc0:=eI.cell p0;rotate_left;have o10:=oOf (hB 10) rfl;rotate_left;obtain⟨_,s69,rfl⟩:=hA 13 69;obtain⟨_,s70,rfl⟩:=hA 14 70;rotate_left;obtain⟨_,s71,rfl⟩:=hA 15 71;clear hB hA;have cc0:=eI.cell r0;have cc1:=eI.cell r1;have cc2:=eI.cell r2;have cc3:=eI.cell r3
     ·go_simp;exact q_k hK (HRX.ext eI)
     all_goals clear hB hA;go_simp;exact q_k hK rfl
    intro vals wz eZ hJ;have J61:vals 5=_:=hJ 5 (by decide) (by decide);have J64:vals 8=_:=hJ 8 (by decide) (by decide);have J72:Mn.p (Mn.rat N (q)) (vals 16) wz:=hJ 16 (by decide) (by decide);clear hJ;simp only[pr,Nat.reduceAdd,J61,J64];clear J61 J64
    generalize vals 16=z72 at J72 ⊢
    obtain⟨bz,Az,kz,cz,Az',kz',cz',rfl,hbz,gz1,gz2⟩:=qX.parts J72;have hoz:=HO8.out.ext eZ;have hRa:=hoz.row X hX0;have hκ:=hRa.2.1;obtain⟨y0,w0⟩:=hRa.there (o:=Y*4) (by omega);obtain⟨y1,w1'⟩:=hRa.there (o:=Y*4+1) (by omega);obtain⟨y2,w2'⟩:=hRa.there (o:=Y*4+2) (by omega);obtain⟨y3,w3'⟩:=hRa.there (o:=Y*4+3) (by omega);have f0:=hRa.frozen (Y*4);have f1:=hRa.frozen (Y*4+1);have f2:=hRa.frozen (Y*4+2);have f3:=hRa.frozen (Y*4+3);refine qj (i:=17) rfl (by kernel_rfl) (by kernel_rfl) (fun K hK=>?_);go_simp;refine hK.out _ _ ?_;clear hK K;try simp only[nr]
    refine qj (i:=18) rfl (by kernel_rfl) (by kernel_rfl) (fun K hK=>?_);go_simp;refine hK.out _ _ ?_;clear hK K;try simp only[nr]
    refine qg (by kernel_rfl) ?_ _;obtain⟨w9,E9,C9,hs9,hr9⟩:=hRa.set (i:=Y) (q:=q) (by omega) (by omega) hbz gz1 gz2;rw[E9];have HO9:=q_h (hoz.setRow hX0 C9 (hr9.less (n':=n) (by omega)));have HC9:Hid (Chg w1.heap.size wZ.heap.size wF w9):=(HCB.out.trans (eZ.chg _ _)).trans (C9.wide hloX (by omega));clear E9 C9 hs9 hr9 hRa hoz hκ w0 w1' w2' w3' f0 f1 f2 f3 hbz gz1 gz2 eZ x0 b0 b1 b2 r0 r1 r2 r3 HRX HCB HO8 J72 y0 y1 y2 y3 p0;have hE9:=HC9.out.ext (HC7.out.ext HEZ.out (by omega)) (by omega);obtain⟨b0,b1,b2,-⟩:=cells3 (HC9.out.blk HB7.out (.inr (by omega)));have p0:=hE9.cell HP0.out;have r0:=hE9.cell HR0.out;have r1:=hE9.cell HR1.out;have r2:=hE9.cell HR2.out;have r3:=hE9.cell HR3.out;have x0:=HO9.out.hcell hY0;have HRX:qX N w9 (.agg #[.bool n1,.slice A7 k7 c7,.bool false,.slice A8 k8 c8]) q:=qX.mk hb1 (HZW1.out.ext hE9) (HZW2.out.ext hE9);clear hE9;go_upto_region 16 with (fail);refine yB [Mn.eq (.slice (some ⟨hh,0,none⟩) n cap),Mn.i (T:Int),Mn.i (b9:Int),Mn.i (Y:Int),Mn.q hh Y,Mn.eq (.slice (some ⟨β Y,0,none⟩) n (κ Y)),Mn.i (P:Int),Mn.i (a:Int),Mn.i (X:Int),Mn.q g7 2,Mn.eq (.slice (some ⟨bm,om,none⟩) S cb),Mn.i (a:Int),Mn.q bm (om+a),Mn.eq (.slice (some ⟨br,orr,none⟩) D ca),Mn.i (b9:Int),Mn.q br (orr+b9*4),Mn.rat N (q),Mn.any,Mn.any] [some 74,some 75,some 76,some 77,some 78,some 79,some 80,some 81,some 82,some 83,some 84,some 85,some 86,some 87,some 88,some 89,some 90,some 91,none] [17,18] (rQ 17 2) 2 (by kernel_rfl) ?_ ?_
    ·show ∀i,i<19->_
     iterate 19 refine fs ?_ ?_
     ·exact fz
     all_goals intro hl;first|exact absurd hl (by decide)|(clear hl;refine stp rfl ?_;intro ac wi eI hB hA K hK)
     have o4:=oOf (hB 4) rfl;rotate_left;have o8:=oOf (hB 8) rfl;rotate_left;have o10:=oOf (hB 10) rfl;rotate_left;obtain⟨_,s75,rfl⟩:=hA 1 75;obtain⟨_,s76,rfl⟩:=hA 2 76;rotate_left;obtain⟨_,s74,rfl⟩:=hA 0 74;obtain⟨_,s77,rfl⟩:=hA 3 77;rotate_left;obtain⟨_,s78,rfl⟩:=hA 4 78;have cc0:=eI.cell x0;rotate_left;have o7:=oOf (hB 7) rfl;rotate_left;have o9:=oOf (hB 9) rfl;rotate_left;obtain⟨_,s80,rfl⟩:=hA 6 80;obtain⟨_,s81,rfl⟩:=hA 7 81;rotate_left;have o6:=oOf (hB 6) rfl;rotate_left;obtain⟨_,s83,rfl⟩:=hA 9 83;have cc0:=eI.cell b2;rotate_left;have o9:=oOf (hB 9) rfl;rotate_left;obtain⟨_,s84,rfl⟩:=hA 10 84;obtain⟨_,s85,rfl⟩:=hA 11 85;rotate_left;obtain⟨_,s86,rfl⟩:=hA 12 86;have cc0:=eI.cell p0;rotate_left;have o10:=oOf (hB 10) rfl;rotate_left;obtain⟨_,s87,rfl⟩:=hA 13 87;obtain⟨_,s88,rfl⟩:=hA 14 88;rotate_left;obtain⟨_,s89,rfl⟩:=hA 15 89;clear hB hA;have cc0:=eI.cell r0;have cc1:=eI.cell r1;have cc2:=eI.cell r2;have cc3:=eI.cell r3
     ·go_simp;exact q_k hK (HRX.ext eI)
     all_goals clear hB hA;go_simp;exact q_k hK rfl
    intro vals wz eZ hJ;have J79:vals 5=_:=hJ 5 (by decide) (by decide);have J82:vals 8=_:=hJ 8 (by decide) (by decide);have J90:Mn.p (Mn.rat N (q)) (vals 16) wz:=hJ 16 (by decide) (by decide);clear hJ;simp only[pr,Nat.reduceAdd,J79,J82];clear J79 J82
    generalize vals 16=z90 at J90 ⊢
    obtain⟨bz,Az,kz,cz,Az',kz',cz',rfl,hbz,gz1,gz2⟩:=qX.parts J90;have hoz:=HO9.out.ext eZ;have hRa:=hoz.row Y hY0;have hκ:=hRa.2.1;obtain⟨y0,w0⟩:=hRa.there (o:=X*4) (by omega);obtain⟨y1,w1'⟩:=hRa.there (o:=X*4+1) (by omega);obtain⟨y2,w2'⟩:=hRa.there (o:=X*4+2) (by omega);obtain⟨y3,w3'⟩:=hRa.there (o:=X*4+3) (by omega);have f0:=hRa.frozen (X*4);have f1:=hRa.frozen (X*4+1);have f2:=hRa.frozen (X*4+2);have f3:=hRa.frozen (X*4+3);refine qj (i:=17) rfl (by kernel_rfl) (by kernel_rfl) (fun K hK=>?_);go_simp;refine hK.out _ _ ?_;clear hK K;try simp only[nr]
    refine qj (i:=18) rfl (by kernel_rfl) (by kernel_rfl) (fun K hK=>?_);go_simp;refine hK.out _ _ ?_;clear hK K;try simp only[nr]
    refine qg (by kernel_rfl) ?_ _;obtain⟨w10,E10,C10,hs10,hr10⟩:=hRa.set (i:=X) (q:=q) (by omega) (by omega) hbz gz1 gz2;rw[E10];have ho10:=hoz.setRow hY0 C10 (hr10.less (n':=n) (by omega));have HON:Hid (∃A,qU N w1.heap.size wZ.heap.size w10 hh cap n n β κ A/\DnP Z z A i a (b9+1)):=⟨_,ho10,HDN.out.put (by rw[hX.out,HPI.out.1]) (by rw[hY.out,HPI.out.2]) HDX.out.symm⟩
    have HC10:Hid (Chg w1.heap.size wZ.heap.size wF w10):=(HC9.out.trans (eZ.chg _ _)).trans (C10.wide hloY (by omega));clear E10 C10 hs10 hr10 hRa hoz hκ w0 w1' w2' w3' f0 f1 f2 f3 hbz gz1 gz2 eZ x0 b0 b1 b2 r0 r1 r2 r3 HRX HC9 HO9 ho10 J90 HDN p0;go_wp2;go_roundw
    case rel=>exact⟨b9+1,by omega,by go_num,HON,HC10⟩
    case measure=>simp[intOf];omega
theorem jI.up{Z:Sys}(h:jI N 0 w.heap.size w v Z) (e:Ext w w'):jI N 0 w'.heap.size w' v Z:=by
 obtain⟨v1,v2,v3,hv,h1,⟨A,c,hb0,hb1,hb2,hb3⟩,h3⟩:=h.ext e;refine⟨v1,v2,v3,hv,⟨rfl,h1.2⟩,⟨A,c,hb0,hb1,hb2,fun hn=>?_⟩,LsR.wide h3 (q_r) e.size (q_r)⟩;obtain⟨b,off,hA,hx⟩:=hb3 hn;refine⟨b,off,hA,fun i hi=>?_⟩;obtain⟨a1,a2,A9,c9,a3,a4⟩:=hx i hi;exact⟨a1,a2,A9,c9,a3,MtR.wide a4 (q_r) e.size (q_r)⟩
def Mn.sy (N:Nat) (F:Sys->Prop):Mn:=⟨fun v w=>∃x1 x2 x3,v=.agg #[x1,x2,x3]/\∃Z',jI N 0 w.heap.size w v Z'/\F Z',fun e h=>by
 obtain⟨x1,x2,x3,hv,Z',h1,h2⟩:=h
 exact⟨x1,x2,x3,hv,Z',h1.up e,h2⟩⟩
def Mn.syt (N:Nat) (F:Sys->Prop):Mn:=⟨fun v w=>∃x1 x2 x3,v=.tuple #[.agg #[x1,x2,x3],.int .i64 0]/\∃Z',jI N 0 w.heap.size w (.agg #[x1,x2,x3]) Z'/\F Z',fun e h=>by
 obtain⟨x1,x2,x3,hv,Z',h1,h2⟩:=h
 exact⟨x1,x2,x3,hv,Z',h1.up e,h2⟩⟩
def q6r (N:Nat) (w:World) (F:Sys->Prop) (e:Ending) (w':World):Prop:=∃x1 x2 x3,e=.returned (.tuple #[.agg #[x1,x2,x3],.int .i64 0])/\(∃Z',jI N 0 w'.heap.size w' (.agg #[x1,x2,x3]) Z'/\F Z')/\Ext w w'
theorem xW {L:Nat->Int}(h:yG L n m=0):∀i,i<n->0<=L i/\L i<(m:Int)/\∀j,j<i->L j≠L i:=fun i hi=>by
 have h1:=q08 h i hi;unfold lsC at h1
 by_cases h2:L i<0\/(m:Int)<=L i
 ·rw[if_pos h2] at h1;cases h1
 ·rw[if_neg h2] at h1;cases h3:kT i (fun t=>decide (L t=L i)) with
  | true=>rw[h3,if_pos rfl] at h1;cases h1
  | false =>
   have h4:=qZ.1 h3;exact⟨by omega,by omega,fun j hj=>of_decide_eq_false (h4 j hj)⟩
theorem q6f {L:Nat->Int}(h:∀i,i<n->0<=L i/\L i<(m:Int)/\∀j,j<i->L j≠L i):yG L n m=0:=by
 unfold yG;refine jk fun i hi=>?_
 obtain⟨h1,h2,h3⟩:=h i hi;unfold lsC
 rw[if_neg (by omega),if_neg (by
  rw[qZ.2 (fun j hj=>q_f (h3 j hj))]
  decide)]
theorem q7n {L:Nat->Int}(h:yG L n m=0) (hk:k<=n):yG L k m=0:=q6f fun i hi=>xW h i (by omega)
theorem Vy {L:Nat->Int}(h:yG L n m=0):∀a b,a<n->b<n->L a=L b->a=b:=fun a b ha hb e=>by
 rcases Nat.lt_trichotomy a b with h1|h1|h1
 ·exact absurd e ((xW h b hb).2.2 a h1)
 ·exact h1
 ·exact absurd e.symm ((xW h a ha).2.2 b h1)
theorem q78 {L:Nat->Int}(hn:n=m) (h:yG L n m=0):yN L n m=true:=by
 unfold yN;rw[q_t hn,Bool.true_and,qm];intro i hi;obtain⟨h1,h2,h3⟩:=xW h i hi;rw[q_t h1,q_t h2,Bool.true_and,Bool.true_and,qm];intro j hj;rw[q_f (h3 j hj)]
 rfl
def zvs (z:Nat->Int) (n:Nat):List Value:=(List.range n).map fun k=>.int .i64 (z k)
theorem jQ (z:Nat->Int) (n:Nat):(zvs z n).length=n:=by simp[zvs]
theorem q6D {z:Nat->Int}(hj:j<n):(zvs z n)[j]?=some (.int .i64 (z j)):=by
 unfold zvs;rw[List.getElem?_map,List.getElem?_range hj]
 rfl
theorem q3b{z:Nat->Int}(h:qO 3 base w v (zvs z n)):IzV N lo hi w v n z:=by
 rcases h.2.2 with ⟨hv0,hn⟩|⟨g,cap,cur,hv',hb,hg,hnc,hcm,hcs,htk⟩
 ·rw[jQ] at hn;exact⟨rfl,none,0,by rw[hv0,hn],by omega,Nat.zero_le _,fun h0=>by omega⟩
 ·rw[jQ] at hv' hnc;refine⟨rfl,_,cap,hv',hnc,hcm,fun h0=>?_⟩;obtain⟨g1,cap1,hv1,-,-,-,-,-,hel⟩:=h.at_ (by rw[jQ];exact h0);rw[hv',jQ] at hv1;injection hv1 with e1 e2 e3
  injection e1 with e1
  injection e1 with e1
  subst e1;refine⟨g,0,rfl,fun i hi=>?_⟩;rw[Nat.zero_add];have h9:=hel i (by rw[jQ];exact hi);rw[h9];have h8:=q6D (z:=z) hi;rw[List.getElem?_eq_getElem (by rw[jQ];exact hi)] at h8;exact h8
theorem JQ (z:Nat->Int) (n:Nat):zvs z n ++ [.int .i64 (z n)]=zvs z (n+1):=by
 unfold zvs;rw[List.range_succ,List.map_append]
 rfl
theorem q7g (m n:Nat) (X:q_m):nzM m n X=!allB m (fun i=>allB n fun j=>decide (X i j=0)):=by
 rw[Bool.eq_iff_iff];unfold nzM nzL kT allB
 simp
theorem r6_of {lo1 hi1 lo2 hi2:Nat}{u t:Value}{ns:Nat}{z:Nat->Nat}{M:q_m}{y:q_v}(hu:IzV N lo1 hi1 w u ns (fun i=>(z i:Int))) (hns:0<ns/\ns<=12) (hz:∀i,i<ns->1<=z i/\z i<=12) (hn:ql z ns=n) (hn64:n<=64) (h:MtV N lo hi w v n n M) (ht:LsV N lo2 hi2 w t n y)(hM:HtM n n K M) (hK:K<=29000000000) :
  Calls Tryz.prog 8 #[u,v,t] w (q5T N w ns z n M y):=by
 obtain⟨Q,hQ⟩:=qc (q5T N w ns z n M y);rw[<-hQ.out];have HU:=q_h hu;have HM:=q_h h;have HT:=q_h ht;have HZ:=q_h hz;have HH:=q_h hM;have HN:=q_h hn;have hN:=LsR.le ht;obtain⟨A1,c1,rfl,l1,l2⟩:=hu.form;obtain⟨A2,c2,rfl,l3,l4⟩:=MtR.form h;obtain⟨A3,c3,rfl,l5,l6⟩:=LsR.form ht;unfold maxLen at l2
 have hn0:0<n:=by
  have h1:=Yt (z:=z) (m:=ns) (fun i hi=>by have:=hz i hi;omega);omega
 clear hu h ht hz hM hn;go_enter Tryz.func8,Tryz.ntmps8;go_upto_region 2 with (fail);refine kD ?_;intro w2 hE hsz B6 B7;obtain⟨g6,hg6⟩:=qc w.heap.size;have hgw:w.heap.size<=g6:=by rw[hg6.out];exact q_r
 rw[<-hg6.out] at B6 B7 hsz ⊢;clear hg6;have HE2:=q_h hE;have HB6:=q_h B6;have HS2:=q_h B7;have HNB:Hid (BlG N w2.heap.size w2 (.slice none 0 0) 0 (fun _=>q50 z M 0 0)):=BlG.nil (by omega) (q_r);clear B6 B7 hE;go_wp2_with fail
 go_loopw [8] (fun iv wr=>∃(i nb:Nat) (bs:Nat->Bkk) (Ab:Option Addr) (cb:Nat),i<=ns/\iv=.int .i64 (i:Int)/\nb<=13*i/\Hid (wr.heap[g6+1]?=some (.cells #[.slice A1 ns c1,.slice Ab nb cb,.slice A3 n c3] 41 (0,0)))/\Hid (BlG N w2.heap.size wr (.slice Ab nb cb) nb bs)/\Hid (SyI z M bs nb i 0)/\Hid (NzB bs nb)/\Hid (Chg (g6+1) (g6+2) w2 wr)) (fun iv _=>ns-(intOf iv).toNat)
 case atStart=>exact⟨0,0,_,none,0,Nat.zero_le _,rfl,Nat.zero_le _,HS2,HNB,SyI.start,fun q hq=>absurd hq (Nat.not_lt_zero q),Chg.refl _ _ _⟩
 case round =>
  clear HS2 HNB;obtain⟨i,nb,bs,Ab,cb,hi9,rfl,hnb,HSB,HBG,HSI,HNZ,HCI⟩:=hrel
  by_cases hlt:i<ns
  case neg =>
   have t1:decide ((i:Int)<(ns:Int))=false:=q_f (by omega);obtain rfl:ns=i:=by omega
   have hB9:=HCI.out.blk HB6.out (.inl (by omega));obtain⟨m0,m1,m2,-⟩:=cells3 HSB.out;obtain⟨x0,x1,x2,u0,u1,u2⟩:=cells3 hB9;go_wp2;obtain⟨w10,E10,D10,U10⟩:=ex3 hB9 (.slice A1 ns c1) (.slice Ab nb cb) (.slice A3 n c3);rw[E10];have C10:=U10.chg (NoU.mk hB9 (by decide));have hE10:Ext w w10:=C10.ext (HCI.out.ext HE2.out (by omega)) (by omega);have HG10:=HBG.out.chg C10 (by omega) (by omega);clear x0 x1 x2 u0 u1 u2 m0 m1 m2 E10;obtain⟨x0,x1,x2,-⟩:=cells3 D10;refine bodyPost_ret (v:=.agg #[.slice A1 ns c1,.slice Ab nb cb,.slice A3 n c3]) ?_ rfl ?_
   ·simp[results,x0,x1,x2,go_sem]
   ·rw[hQ.out];refine⟨_,⟨ns,fun i=>(z i:Int),nb,bs,n,fun i=>raw (y i)⟩,rfl,hE10,⟨_,_,_,rfl,⟨rfl,(HU.out.ext hE10).2⟩,HG10.bks,LsR.wide (HT.out.ext hE10) (Nat.zero_le _) (HT.out.ext hE10).2.1 (q_r)⟩,rfl,rfl,?_,HNZ.out⟩;exact SyI.done (Z:=⟨ns,fun i=>(z i:Int),nb,bs,n,fun i=>raw (y i)⟩) HSI.out (fun _ _=>rfl) HN.out.symm (fun _ _=>rfl)
  have t1:decide ((i:Int)<(ns:Int))=true:=q_t (by omega);have t2:(i:Int)<(ns:Int):=by omega
  obtain⟨S,hS⟩:=qc (z i);have hzi:=HZ.out i hlt;rw[<-hS.out] at hzi;obtain⟨P,hP⟩:=qc (ql z i)
  have hPS:P+S<=n:=by
   have h1:=qK z (show i+1<=ns by omega);have h2:ql z (i+1)=ql z i+z i:=rfl;have:=hP.out;have:=hS.out;have:=HN.out;omega
  obtain⟨wQ,hwQ⟩:∃wQ,wQ=wr:=⟨_,rfl⟩
  subst hwQ;go_wp2_with fail
  go_loopw [9] (fun jv wr=>∃(j nb:Nat) (bs:Nat->Bkk) (Ab:Option Addr) (cb:Nat),j<=i+1/\jv=.int .i64 (j:Int)/\nb<=13*i+j/\Hid (wr.heap[g6+1]?=some (.cells #[.slice A1 ns c1,.slice Ab nb cb,.slice A3 n c3] 41 (0,0)))/\Hid (BlG N w2.heap.size wr (.slice Ab nb cb) nb bs)/\Hid (SyI z M bs nb i j)/\Hid (NzB bs nb)/\Hid (Chg (g6+1) (g6+2) w2 wr)) (fun jv _=>i+1-(intOf jv).toNat)
  case atStart=>exact⟨0,nb,bs,Ab,cb,Nat.zero_le _,rfl,hnb,HSB,HBG,HSI,HNZ,HCI⟩
  case round =>
   clear HSB HBG HSI HNZ HCI hnb;obtain⟨j,nb,bs,Ab,cb,hj9,rfl,hnb,HSB,HBG,HSI,HNZ,HCI⟩:=hrel
   by_cases hlj:j<i+1
   case neg =>
    have u1:decide ((j:Int)<=(i:Int))=false:=q_f (by omega);have u1':decide (j<=i)=false:=q_f (by omega);obtain rfl:j=i+1:=by omega
    have HSN:=q_h HSI.out.row;clear HSI hlj;go_wp2;go_roundw
    case rel=>exact⟨i+1,nb,bs,Ab,cb,by omega,by go_num,by omega,HSB,HBG,HSN,HNZ,HCI⟩
    case measure=>simp[intOf];omega
   have u1:decide ((j:Int)<=(i:Int))=true:=q_t (by omega);have u1':decide (j<=i)=true:=q_t (by omega);have hEj:=HCI.out.ext HE2.out (by omega);have hNr:N<=wr.heap.size:=by have:=hEj.size;omega
   obtain⟨C,hC⟩:=qc (z j);have HSK:=HSI.out.skip;rw[<-hP.out,<-hS.out,<-hC.out] at HSK;have HSK':=q_h HSK;have HSA:=HSI.out.add (by omega)
   have HNB:Hid (q50 z M i j=⟨(i:Int),(j:Int),S,fun _=>C,fun a e=>raw (M (P+a) (ql z j+e))⟩):=by
    rw[hP.out,hS.out,hC.out]
    rfl
   rw[HNB.out] at HSA;have hL'0:ql z (j+1)=ql z j+z j:=rfl
   have hL'n:ql z (j+1)<=n:=by
    have h1:=qK z (show j+1<=ns by omega);have:=HN.out;omega
   have hzj:=HZ.out j (by omega);rw[<-hC.out] at hzj hL'0;obtain⟨L,hL⟩:=qc (ql z j);rw[<-hL.out] at HSK' HSA hL'0;have hLC:L+C<=n:=by omega
   have HSA':=q_h HSA
   have HGO:Hid (∀g,(Value.slice Ab nb cb).ownBlock=some g->w2.heap.size<=g/\g<wr.heap.size):=by
    obtain⟨xs,hG,-⟩:=HBG.out;exact hG.own_lt
   have hw2r:w2.heap.size<=wr.heap.size:=HCI.out.size;have HOF:Hid (ql z ns<=1000000):=by have:=HN.out;unfold Hid;omega
   obtain⟨wK,hwK⟩:∃wK,wK=wr:=⟨_,rfl⟩
   subst hwK;have HEK:=q_h hEj;clear HSK HSA HNB hL'0 hL'n hEj;go_upto_region 9 with (fail);refine qo ?_;intro w3 e3 hsz3 B3;have HG3:Hid (qO 3 wK.heap.size w3 (.slice (some ⟨wK.heap.size,0,none⟩) 0 0) (zvs (fun a=>((P+a:Nat):Int)) 0)):=qO.empty (q_r) B3;have HE3:Hid (Ext wK w3):=e3;clear B3 e3 hsz3;go_wp2_with fail
   go_loopw [10,11] (fun tv iv wr=>∃(a:Nat) (A:Option Addr) (c:Nat),a<=S/\iv=.int .i64 (a:Int)/\tv=.slice A a c/\Hid (qO 3 wK.heap.size wr (.slice A a c) (zvs (fun a=>((P+a:Nat):Int)) a))/\Hid (Ext wK wr)) (fun _ iv _=>S-(intOf iv).toNat)
   case atStart=>exact⟨0,_,0,Nat.zero_le _,rfl,rfl,HG3,HE3⟩
   case round =>
    clear HG3 HE3;obtain⟨a,At,ct,ha9,rfl,rfl,HGA,HEA⟩:=hrel
    by_cases hla:a<S
    case pos =>
     obtain⟨b,off,rfl,hx⟩:=(HU.out.ext (HEK.out.trans HEA.out)).addr (by omega);have p0:=hx i (by omega);rw[<-hS.out] at p0;have v1:decide ((a:Int)<(S:Int))=true:=q_t (by omega);have v1':decide (a<S)=true:=q_t hla;have v2:(i:Int)<(ns:Int):=by omega
     have v3:IntKind.i64.wrap ((P:Int)+(a:Int))=((P+a:Nat):Int):=by rw[wrp (by omega) (by omega)];omega
     clear hx;go_wp2_with (go_at_call 31;refine q_o ?_);refine (XP (HU.out.ext (HEK.out.trans HEA.out)) (z:=z) (fun _ _=>rfl) (k:=i) (by omega) HOF.out (by omega)).mono ?_;rintro e w5 ⟨rfl,e5⟩;rw[<-hP.out];have hzl:(zvs (fun a=>((P+a:Nat):Int)) a).length=a:=jQ _ _;have hxl:(zvs (fun a=>((P+a:Nat):Int)) a).length+1<=1000000000:=by omega
     go_wp2_with (at_builtin;refine q_o ?_);refine qo ?_;intro w10 e10 hsz10 B10;refine zB jZ rfl _ _ 25 Tryz.underlying25 rfl (by rfl) ((HGA.out.ext e5).ext e10) (m:=1) (c:=1) (news:=[.int .i64 ((P+a:Nat):Int)]) (by rfl) rfl (xZ B10) (fun x hx=>by rw[List.mem_singleton.1 hx];rfl) (by omega) hxl ?_;rintro g11 cap11 w11 hG11 hat11 ⟨g9,hlo,hw9,C9,-⟩;rw[JQ (fun a=>((P+a:Nat):Int)),hzl] at hG11;rw[hzl];have HG11:=q_h hG11;have HE11:Hid (Ext wK w11):=C9.ext ((HEA.out.trans e5).trans e10) (by first|exact hlo|omega);clear hG11 hat11 hlo hw9 C9 B10 e5 e10 hsz10 hxl hzl p0;go_wp2;go_roundw
     case rel=>exact⟨a+1,_,_,by omega,by go_num,rfl,HG11,HE11⟩
     case measure=>simp[intOf];omega
    obtain⟨b,off,rfl,hx⟩:=(HU.out.ext (HEK.out.trans HEA.out)).addr (by omega);have p0:=hx i (by omega);rw[<-hS.out] at p0;have v1:decide ((a:Int)<(S:Int))=false:=q_f (by omega);have v1':decide (a<S)=false:=q_f hla;have v2:(i:Int)<(ns:Int):=by omega
    obtain rfl:S=a:=by omega
    clear hx hla;have HIR:Hid (IzV N 0 0 wr (.slice At S ct) S (fun a=>((P+a:Nat):Int))):=q3b HGA.out;obtain⟨w6,hw6⟩:∃w6,w6=wr:=⟨_,rfl⟩
    subst hw6;have HE6:=HEA;clear HGA HEA ha9;go_upto_region 14 with (fail);refine qo ?_;intro w7 e7 hsz7 B7;have HG7:Hid (qO 3 w6.heap.size w7 (.slice (some ⟨w6.heap.size,0,none⟩) 0 0) (zvs (fun a=>((L+a:Nat):Int)) 0)):=qO.empty (q_r) B7;have HE7:Hid (Ext w6 w7):=e7;have hK6:wK.heap.size<=w6.heap.size:=HE6.out.size;clear B7 e7 hsz7 p0;go_wp2_with fail
    go_loopw [12,13] (fun tv iv wr=>∃(a:Nat) (A:Option Addr) (c:Nat),a<=C/\iv=.int .i64 (a:Int)/\tv=.slice A a c/\Hid (qO 3 w6.heap.size wr (.slice A a c) (zvs (fun a=>((L+a:Nat):Int)) a))/\Hid (Ext w6 wr)) (fun _ iv _=>C-(intOf iv).toNat)
    case atStart=>exact⟨0,_,0,Nat.zero_le _,rfl,rfl,HG7,HE7⟩
    case round =>
     clear HG7 HE7 v1 v1' v2;obtain⟨a,Au,cu,ha9,rfl,rfl,HGA,HEA⟩:=hrel
     by_cases hla:a<C
     case pos =>
      obtain⟨b',off',hA9,hx⟩:=(HU.out.ext ((HEK.out.trans HE6.out).trans HEA.out)).addr (by omega);obtain⟨rfl,rfl⟩:b=b'/\off=off':=by injection hA9 with hA9;injection hA9 with q1 q2;exact⟨q1,q2⟩
      have p0:=hx j (by omega);rw[<-hC.out] at p0;have v1:decide ((a:Int)<(C:Int))=true:=q_t (by omega);have v1':decide (a<C)=true:=q_t hla;have v2:(j:Int)<(ns:Int):=by omega
      have v3:IntKind.i64.wrap ((L:Int)+(a:Int))=((L+a:Nat):Int):=by rw[wrp (by omega) (by omega)];omega
      clear hx hA9;go_wp2_with (go_at_call 31;refine q_o ?_);refine (XP (HU.out.ext ((HEK.out.trans HE6.out).trans HEA.out)) (z:=z) (fun _ _=>rfl) (k:=j) (by omega) HOF.out (by omega)).mono ?_;rintro e w5 ⟨rfl,e5⟩;rw[<-hL.out];have hzl:(zvs (fun a=>((L+a:Nat):Int)) a).length=a:=jQ _ _;have hxl:(zvs (fun a=>((L+a:Nat):Int)) a).length+1<=1000000000:=by omega
      go_wp2_with (at_builtin;refine q_o ?_);refine qo ?_;intro w10 e10 hsz10 B10;refine zB jZ rfl _ _ 25 Tryz.underlying25 rfl (by rfl) ((HGA.out.ext e5).ext e10) (m:=1) (c:=1) (news:=[.int .i64 ((L+a:Nat):Int)]) (by rfl) rfl (xZ B10) (fun x hx=>by rw[List.mem_singleton.1 hx];rfl) (by omega) hxl ?_;rintro g11 cap11 w11 hG11 hat11 ⟨g9,hlo,hw9,C9,-⟩;rw[JQ (fun a=>((L+a:Nat):Int)),hzl] at hG11;rw[hzl];have HG11:=q_h hG11;have HE11:Hid (Ext w6 w11):=C9.ext ((HEA.out.trans e5).trans e10) (by first|exact hlo|omega);clear hG11 hat11 hlo hw9 C9 B10 e5 e10 hsz10 hxl hzl p0;go_wp2;go_roundw
      case rel=>exact⟨a+1,_,_,by omega,by go_num,rfl,HG11,HE11⟩
      case measure=>simp[intOf];omega
     obtain⟨b',off',hA9,hx⟩:=(HU.out.ext ((HEK.out.trans HE6.out).trans HEA.out)).addr (by omega);obtain⟨rfl,rfl⟩:b=b'/\off=off':=by injection hA9 with hA9;injection hA9 with q1 q2;exact⟨q1,q2⟩
     have p0:=hx j (by omega);rw[<-hC.out] at p0;have v1:decide ((a:Int)<(C:Int))=false:=q_f (by omega);have v1':decide (a<C)=false:=q_f hla;have v2:(j:Int)<(ns:Int):=by omega
     obtain rfl:C=a:=by omega
     clear hx hA9 hla;have HIC:Hid (IzV N 0 0 wr (.slice Au C cu) C (fun a=>((L+a:Nat):Int))):=q3b HGA.out;have HIR9:=q_h (HIR.out.ext HEA.out);have HEw:Hid (Ext wK wr):=HE6.out.trans HEA.out;obtain⟨w8,hw8⟩:∃w8,w8=wr:=⟨_,rfl⟩
     subst hw8;have hK8:wK.heap.size<=w8.heap.size:=HEw.out.size;clear HGA HEA HE6 HIR hK6 ha9;go_wp2_with (go_at_call 32;refine q_o ?_);refine (q70 (HM.out.ext (HEK.out.trans HEw.out)) (ro:=fun a=>P+a) (co:=fun e=>L+e) HIR9.out HIC.out (fun i hi=>by omega) (fun j hj=>by omega) hn0 (by omega) (by omega) (by omega)).mono ?_;rintro e w9 ⟨hA,cA,βA,κA,rfl,hcA,hoA,e9⟩;have HMV:Hid (MtV N w8.heap.size w9.heap.size w9 (.slice (some ⟨hA,0,none⟩) S cA) S C (fun a e=>M (P+a) (L+e))):=hoA.mtv hoA.mle hcA;have HE9:Hid (Ext wK w9):=HEw.out.trans e9;obtain⟨g,hg⟩:=qc (nzM S C (fun a e=>M (P+a) (L+e)));have HG:Hid (g=!allB S (fun a=>allB C (fun e=>decide (M (P+a) (L+e)=0)))):=by rw[Hid,hg.out,q7g]
     clear hoA e9 HIC HIR9 p0;go_wp2_with (go_at_call 33;refine q_o ?_);refine (q0O HMV.out (fun i hi j hj=>(HH.out (P+i) (by omega) (L+j) (by omega)).sz hK)).mono ?_;rintro e w10 ⟨rfl,e10⟩;rw[<-hg.out];have HE10:Hid (Ext wK w10):=HE9.out.trans e10;have HMV':Hid (MtR N w8.heap.size w9.heap.size w10 (.slice (some ⟨hA,0,none⟩) S cA) S (fun _=>C) (fun a e=>raw (M (P+a) (L+e)))):=HMV.out.ext e10;have HSX:=q_h (HE10.out.block HSB.out);have HGX:=q_h (HBG.out.ext HE10.out);have HCX:Hid (Chg (g6+1) (g6+2) w2 w10):=HCI.out.trans (HE10.out.chg _ _);have hwr9:=HE10.out.size;have v3:IntKind.i64.wrap ((j:Int)+1)=(j:Int)+1:=wrp (by omega) (by omega);clear HMV hg e10 HE9;cases g with
     | false =>
      have HSN:=q_h (HSK'.out fun a ha e he=>by
       have h1:allB S (fun a=>allB C (fun e=>decide (M (P+a) (L+e)=0)))=true:=by
        have:=HG.out;simpa using this.symm
       exact of_decide_eq_true (qm.1 (qm.1 h1 a ha) e he))
      clear HSK' HSA' HG HMV';go_wp2;go_roundw
      case rel=>exact⟨j+1,nb,bs,Ab,cb,by omega,by go_num,by omega,HSX,HGX,HSN,HNZ,HCX⟩
      case measure=>simp[intOf];omega
     | true =>
      have HNA:Hid (NzB (JL bs nb ⟨(i:Int),(j:Int),S,fun _=>C,fun a e=>raw (M (P+a) (L+e))⟩) (nb+1)):=NzB.add HNZ.out HG.out;clear HSK' HG HNZ;obtain⟨m0,m1,m2,f0,f1,f2⟩:=cells3 HSX.out;obtain⟨xs,hG,hBX⟩:=HGX.out;have hxl:=hG.2.1;have HBX:=q_h hBX;clear hBX;go_wp2_with (at_builtin;refine q_o ?_);refine qo ?_;intro w11 e11 hsz11 B11;refine xI q3J rfl _ _ 39 Tryz.underlying39 rfl (by rfl) (hG.ext e11) (by rfl) (m:=1) (news:=[.int .i64 (i:Int),.int .i64 (j:Int),.slice (some ⟨hA,0,none⟩) S cA]) rfl (fun j u hj=>by rw[jH,qh B11,Nat.zero_add];simpa using hj) (fun u hu=>by simp at hu;rcases hu with rfl|rfl|rfl<;>rfl) (by omega) ?_;rintro v12 w12 hG12 ho12 ⟨g12,hg12,hgo12,C12⟩;have HX12:=q_h (BlX.snoc (B:=⟨(i:Int),(j:Int),S,fun _=>C,fun a e=>raw (M (P+a) (L+e))⟩) (v':=v12) hxl (HBX.out.ext e11) (MtR.ext HMV'.out e11) (by omega) (fun g hg=>by have:=(HGO.out g hg).2;omega) ho12 ⟨g12,hg12,hgo12,C12⟩);obtain⟨A12,c12,rfl⟩:=hG12.form;have HG12:Hid (BlG N w2.heap.size w12 (.slice A12 (nb+1) c12) (nb+1) (JL bs nb ⟨(i:Int),(j:Int),S,fun _=>C,fun a e=>raw (M (P+a) (L+e))⟩)):=⟨_,hG12,HX12.out⟩
      have hS12:=C12.blk (e11.block HSX.out) (.inl (by omega));have HC12:Hid (Chg (g6+1) (g6+2) w2 w12):=(HCX.out.trans (e11.chg _ _)).newer C12 (by omega);clear m0 m1 m2 f0 f1 f2 HX12 HBX hG hG12 ho12 hgo12 C12 B11 e11 HSX HCX HGX HMV' HGO hxl;obtain⟨m0,m1,m2,f0,f1,f2⟩:=cells3 hS12;go_wp2_with fail;obtain⟨w13,E13,D13,U13⟩:=q8u hS12 (.slice A12 (nb+1) c12);rw[E13];have C13:=U13.chg (NoU.mk hS12 (by decide));have HG13:=q_h (HG12.out.chg C13 (by omega) (by omega));have HC13:Hid (Chg (g6+1) (g6+2) w2 w13):=HC12.out.trans C13;have HD13:=q_h D13;clear m0 m1 m2 f0 f1 f2 hS12 E13 D13 U13 C13 HG12 HC12;try go_wp2
      go_roundw
      case rel=>exact⟨j+1,nb+1,_,A12,c12,by omega,by go_num,by omega,HD13,HG13,HSA',HNA,HC13⟩
      case measure=>simp[intOf];omega
end
section
section
variable {z o:Nat->Nat}{m K0 Kx:Nat}
theorem q2T (hl:∀t,t<m->o t<m) (hi:∀a b,a<m->b<m->o a=o b->a=b) (hz:∀i,i<m->0<z i/\z i<=5) (hn:ql z m<=6) (hK0:K0<=41){t:Nat}(ht:t<m) :
  KS z o K0 t<=KS z o K0 (t+1)/\KS z o K0 (t+1)<=76000000/\5 ^ z (o t)*(KS z o K0 t+1)<=76000000:=by
 have hz5:∀t,t<m->0<z (o t)/\z (o t)<=5:=fun t ht=>hz _ (hl t ht)
 have h1:=hz5 t ht
 have hB:11 ^ ql (fun s=>z (o s)) (t+1)*(K0+1)<=76000000:=by
  have h2:ql (fun s=>z (o s)) (t+1)<=6:=q_l (qK _ (show t+1<=m by omega)) (by rw[WJ hl hi];exact hn);have h3:(11:Nat) ^ ql (fun s=>z (o s)) (t+1)<=11 ^ 6:=Nat.pow_le_pow_right (by decide) h2;exact q_l (Nat.mul_le_mul h3 (show K0+1<=42 by omega)) (by decide)
 refine⟨q7y _ _,?_,?_⟩
 ·have:=q47 (K0:=K0) hz5 (t+1) (by omega);omega
 ·refine q_l (q7z h1.1 h1.2).2 (q_l ?_ hB)
  show 11 ^ z (o t)*(KS z o K0 t+1)<=11 ^ (ql (fun s=>z (o s)) t+z (o t))*(K0+1)
  rw[Nat.pow_add,Nat.mul_comm (11 ^ _) (11 ^ z (o t)),Nat.mul_assoc];exact Nat.mul_le_mul_left _ (q47 (K0:=K0) hz5 t (by omega))
theorem q7r (hl:∀t,t<m->o t<m) (hi:∀a b,a<m->b<m->o a=o b->a=b) (hz:∀i,i<m->0<z i/\z i<=5) (hm:m<=5) (hn:ql z m<=6) (hK0:K0<=41) (hKx:Kx<=7400000){t:Nat}(ht:t<m) :
  5*(5 ^ z (o t)*(KS z o K0 t+1))<=29000000000/\z (o t)*(z (o t)*(KS z o K0 t+5 ^ z (o t)*(KS z o K0 t+1)+1)+1+KS z o K0 t+1)+1<=29000000000/\z (o t)*(5 ^ z (o t)*(KS z o K0 t+1)+yH z o (KS z o K0 t) Kx t (m-(t+1))+1)+1<=29000000000:=by
 obtain⟨h3,h4,h5⟩:=q2T (K0:=K0) hl hi hz hn hK0 ht;have h2:=(hz _ (hl t ht)).2;have h6:=q6I (o:=o) (Kx:=Kx) (fun t ht=>(hz _ (hl t ht)).2) (K:=KS z o K0 t) (t:=t) (m-(t+1)) (by omega);have h7:KS z o K0 (t+1)=KS z o K0 t+(z (o t)*(z (o t)*(KS z o K0 t+5 ^ z (o t)*(KS z o K0 t+1)+1)+1+KS z o K0 t+1)+1)+1:=rfl;refine⟨by omega,by omega,?_⟩;have h8:(m-(t+1))*(5*(KS z o K0 t+Kx+1)+2)<=4*(5*(KS z o K0 t+Kx+1)+2):=Nat.mul_le_mul_right _ (by omega);have h9:z (o t)*(5 ^ z (o t)*(KS z o K0 t+1)+yH z o (KS z o K0 t) Kx t (m-(t+1))+1)<=5*(5 ^ z (o t)*(KS z o K0 t+1)+yH z o (KS z o K0 t) Kx t (m-(t+1))+1):=Nat.mul_le_mul_right _ h2;omega
end
section
variable {Z:Sys}{z:Nat->Nat}{M:q_m}{y:q_v}
theorem q6M (H:V4 Z z M y){o:Nat->Nat}(hl:∀t,t<Z.ns->o t<Z.ns) (hi:∀a b,a<Z.ns->b<Z.ns->o a=o b->a=b) (hz:∀i,i<Z.ns->0<z i/\z i<=5) (hm:Z.ns<=5) (hn:ql z Z.ns<=6) (hs:∀i j,M i j=M j i)
  {K0:Nat}(hK0:K0<=41) (hM:HtM (ql z Z.ns) (ql z Z.ns) K0 M) (hy:HtL (ql z Z.ns) K0 y):SvH Z z o (blF z M) (blR z y) (KS z o K0) 7400000 (nsv (ql z Z.ns) M y):=by
 have hB:=q0r (z:=z) (y:=y) hl hi hs;have hof:∀r,r<Z.ns->ql z r+z r<=ql z Z.ns:=fun r hr=>qK z (show r+1<=Z.ns by omega)
 have hht:=q7A (z:=z) (o:=o) (m:=Z.ns) (K0:=K0) (F:=blF z M) (R:=blR z y) hl (fun r c hc hr a ha b hb=>hM _ (by have:=hof r hr;omega) _ (by have:=hof c (by omega);omega)) (fun r hr a ha=>hy _ (by have:=hof r hr;omega));refine⟨H.hz,hl,hi,fun i hi' a ha b hb=>?_,fun r c hc hr hno a ha b hb=>H.zero r c hc hr hno a ha b hb,fun r hr a ha=>?_,fun t ht=>hht t ht,fun t ht=>?_,fun t ht=>?_,fun t ht=>?_,fun hp=>⟨fun t ht a ha=>?_,fun r hr a ha=>?_⟩,fun t ht=>?_⟩
 ·obtain⟨r,c,h3,h4,h5,h6,h7,h8,h9⟩:=H.bk i hi';rw[h5,Int.toNat_natCast] at ha ⊢;rw[h6,Int.toNat_natCast] at hb ⊢;rw[h9 a ha b hb,kw]
  rfl
 ·have:=hof r hr;rw[H.R _ (by rw[H.k];omega),kw]
  rfl
 ·have h1:=q2T hl hi hz hn hK0 ht;exact⟨h1.1,by omega⟩
 ·exact (q7r (Kx:=7400000) hl hi hz hm hn hK0 (by omega) ht).1
 ·exact (q7r (Kx:=7400000) hl hi hz hm hn hK0 (by omega) ht).2.1
 ·have hreg:=q6c hB hp;have hsol:∀i,i<ql z Z.ns->av (ql z Z.ns) M (nsv (ql z Z.ns) M y) i=y i:=fun i hi=>Vs hreg i hi
  exact x_st hB hsol (WF hB Z.ns (q_r) hp) ht ha
 ·have h1:=q2A (P:=6) hM hy hn (ql z r+a) (by have:=hof r hr;omega);refine h1.mono ?_;have h2:ql z Z.ns*(5 ^ 6*K0+2)<=6*(15625*41+2):=Nat.mul_le_mul hn (by omega);omega
 ·exact (q7r (Kx:=7400000) hl hi hz hm hn hK0 (by omega) ht).2.2
end
end
section
open Go.RowKit
theorem q0l (E:Nat->Bool):∀n,xe E n+xe (kJ E) n=n
 | 0=>rfl
 | n+1=>by
  have ih:=q0l E n;unfold xe at ih ⊢;rw[wS,wS,List.length_append,List.length_append];unfold kJ at ih ⊢;cases h:E n<;>simp<;>omega
section
variable {Z Z1 Z2 Z3:Sys}{na nb:Nat}{La Lb Lr:Nat->Int}
end
end
section
open Go.RowKit
theorem Xe{A B:q_m}(h:V6 n A) (he:∀i,i<n->∀j,j<n->A i j=B i j):V6 n B:=by
 intro x hx;have h1:=h x hx
 rw[show sum n (fun i=>x i*av n B x i)=sum n (fun i=>x i*av n A x i) from qf fun i hi=>by
  congr 1
  exact qf fun j hj=>by rw[he i hi j hj]]
 exact h1
structure Qe (K:Nat) (Z:Sys) (z:Nat->Nat) (M:q_m) (y:q_v) (n:Nat):Prop where
 ok:V4 Z z M y
 sym:∀i j,M i j=M j i
 off:ql z Z.ns=n
 n0:0<n
 n6:n<=6
 zs:∀i,i<Z.ns->1<=z i/\z i<=12
 code:vH Z=0
 pd:V6 n M
 hM:HtM n n K M
 hy:HtL n K y
theorem gk18:∀k,k<=6->5*(5 ^ k*(18+1))<=29000000000/\gK k 18<=11000000:=fun k hk=>by
 rcases (by omega:k=0\/k=1\/k=2\/k=3\/k=4\/k=5\/k=6) with rfl|rfl|rfl|rfl|rfl|rfl|rfl<;>decide
theorem db6:∀k,k<=6->dB k 11000000<=29000000000:=fun k hk=>by
 rcases (by omega:k=0\/k=1\/k=2\/k=3\/k=4\/k=5\/k=6) with rfl|rfl|rfl|rfl|rfl|rfl|rfl<;>decide
section
variable {K n:Nat}{Z:Sys}{z:Nat->Nat}{M:q_m}{y:q_v}
theorem Qe.den (h:Qe K Z z M y n):∀i,i<n->∀j,j<n->kK Z z i j=M i j:=by
 have h1:=q8o h.ok (QG h.code) (fun i j _ _=>h.sym i j);rw[h.off] at h1;exact h1
theorem Qe.pdD (h:Qe K Z z M y n):V6 n (kK Z z):=Xe h.pd fun i hi j hj=>(h.den i hi j hj).symm
theorem Qe.bz (h:Qe K Z z M y n) (hK:K<=29000000000):(∀i,i<Z.nb->q6C (Z.b i))/\∀i,i<Z.k->jJ (Z.R i) :=
 ⟨q1F h.ok (K:=K) (by rw[h.off];exact h.hM) hK,q63 h.ok (K:=K) (by rw[h.off];exact h.hy) hK⟩
theorem Qe.bkht (h:Qe K Z z M y n) (hK:K<=29000000000):BkHt K Z:=by
 intro i hi a ha c hc;obtain⟨r,s,h3,h4,h5,h6,h7,h8,h9⟩:=h.ok.bk i hi;rw[h7] at ha;rw[h8 a ha] at hc;have hr:ql z r+z r<=ql z Z.ns:=qK z (show r+1<=Z.ns by omega);have hs:ql z s+z s<=ql z Z.ns:=qK z (show s+1<=Z.ns by omega);have ho:=h.off;have h10:=h.hM (ql z r+a) (by omega) (ql z s+c) (by omega);rw[h9 a ha c hc];exact⟨(h10.sz hK).raw,fun _=>by rw[kw];exact h10⟩
theorem Qe.reg (h:Qe K Z z M y n) (E:Nat->Bool):Reg (xe E n) (x9 (kK Z z) (enF E n)):=q2a (ZO E n) (wJ h.pdD E)
theorem Qe.elim (h:Qe 18 Z z M y n){L:Nat->Int}{nl:Nat}(hl:yG L nl Z.ns=0) (hpos:0<xe (kJ (goE Z z L nl)) n){Z':Sys}(g1:Z'.ns=xe (fun k=>!inL L nl k) Z.ns)
  (g3:V4 Z' (fun a=>z (enF (fun k=>!inL L nl k) Z.ns a)) (Xp (kK Z z) (goE Z z L nl) n) (q1b (kK Z z) y (goE Z z L nl) n)) :
  Qe 11000000 Z' (fun a=>z (enF (fun k=>!inL L nl k) Z.ns a)) (Xp (kK Z z) (goE Z z L nl) n) (q1b (kK Z z) y (goE Z z L nl) n) (xe (kJ (goE Z z L nl)) n):=by
 have hok:=QG h.code;have ho:ql (fun a=>z (enF (fun k=>!inL L nl k) Z.ns a)) Z'.ns=xe (kJ (goE Z z L nl)) n:=by rw[g1,<-h.off];exact q3I
 have hzr:∀i,i<Z'.ns->1<=z (enF (fun k=>!inL L nl k) Z.ns i)/\z (enF (fun k=>!inL L nl k) Z.ns i)<=12:=fun i hi=>h.zs _ ((ZO (fun k=>!inL L nl k) Z.ns).low i (by rw[<-g1];exact hi))
 have hcb:=q0l (goE Z z L nl) n;have hDM:HtM n n 18 (kK Z z):=fun i hi j hj=>by rw[h.den i hi j hj];exact h.hM i hi j hj
 have hn6:=h.n6
 have hsym:∀i j,Xp (kK Z z) (goE Z z L nl) n i j=Xp (kK Z z) (goE Z z L nl) n j i:=fun i j=>by
  rw[Jy,Jy];exact Y4 (Zg Z z) (h.reg _) _ _
 have hns1:1<=Z'.ns:=by
  rcases Nat.eq_zero_or_pos Z'.ns with h9|h9
  ·rw[h9] at ho;have:0=xe (kJ (goE Z z L nl)) n:=ho;omega
  ·exact h9
 have hns2:Z'.ns<=12:=by
  have h1:=XT (fun t ht=>(xW hl t ht).1) (Vy hl) Z.ns;have:=hok.n2;omega
 have hK:=(gk18 (xe (goE Z z L nl) n) (by omega)).2;refine⟨g3,hsym,ho,hpos,by omega,hzr,Va g3 hns1 hns2 hzr (by rw[ho];omega) hsym,?_,fun i hi j hj=>(q3t (E:=goE Z z L nl) hDM i hi j hj).mono hK,fun i hi=>(q7M (E:=goE Z z L nl) hDM h.hy i hi).mono hK⟩;have h1:=q1T (ZO (goE Z z L nl) n) (wJ h.pdD (goE Z z L nl));have h2:=q4Q h.pdD (ZO (kJ (goE Z z L nl)) n) h1.1 h1.2;exact Xe h2 fun i _ j _=>by rw[Jy];rfl
end
end
section
open Go.RowKit
def RetX (N:Nat) (w:World) (n:Nat) (x:q_v) (e:Ending) (w':World):Prop:=∃(A:Option Addr) (c:Nat),e=.returned (.tuple #[.slice A n c,.int .i64 0])/\LsV N 0 w'.heap.size w' (.slice A n c) n x/\Ext w w'
theorem q0v {lo' hi' nl:Nat}{u:Value}{Z:Sys}{z:Nat->Nat}{M:q_m}{y:q_v}(h:jI N lo hi w v Z) (H:Qe 18 Z z M y n) (hz5:∀i,i<Z.ns->z i<=5) (hm:Z.ns<=5){o:Nat->Int}(hu:IzV N lo' hi' w u nl o) (hnl:nl=Z.ns) (hl:yG o nl Z.ns=0) :
  Calls Tryz.prog 9 #[v,u] w (RetX N w n (nsv n M y)):=by
 have hz:=H.zs;have ho:∀t,t<nl->o t=((o t).toNat:Int):=fun t ht=>by have:=(xW hl t ht).1;omega
 have hlow:∀t,t<Z.ns->(fun t=>(o t).toNat) t<Z.ns:=fun t ht=>by
  have:=xW hl t (by omega)
  show (o t).toNat<Z.ns
  omega
 have hinj:∀a b,a<Z.ns->b<Z.ns->(fun t=>(o t).toNat) a=(fun t=>(o t).toNat) b->a=b:=fun a b ha hb e=>by
  refine Vy hl a b (by omega) (by omega) ?_;have h1:=ho a (by omega);have h2:=ho b (by omega);have h3:(o a).toNat=(o b).toNat:=e;omega
 have hoff:=H.off;have hn6:=H.n6;have hsv:=q6M (o:=fun t=>(o t).toNat) H.ok hlow hinj (fun i hi=>⟨(hz i hi).1,hz5 i hi⟩) hm (by rw[hoff];exact hn6) H.sym (K0:=18) (by omega) (by rw[hoff];exact H.hM) (by rw[hoff];exact H.hy);obtain⟨hb,hk⟩:=H.bz (by omega);have hpv:=q2s (q0r (z:=z) (y:=y) hlow hinj H.sym) (by rw[hoff];exact H.pd);rw[hoff] at hsv;refine (q3X h hb hk H.code hu (q78 hnl hl) (o:=fun t=>(o t).toNat) ho hsv).mono ?_;rintro e w' ⟨e1,⟨-,t,ht,-,h9⟩|⟨A,c,l1,l2,rfl,-,hx⟩⟩
 ·exact absurd (hpv t ht) h9
 ·have hk9:Z.k=n:=by rw[<-hoff];exact H.ok.k
  rw[hk9] at hx ⊢;exact⟨A,c,rfl,LsR.wide hx (Nat.zero_le _) hx.2.1 (q_r),e1⟩
theorem q85 {lo' hi' nl:Nat}{u:Value}{Z:Sys}{z:Nat->Nat}{M:q_m}{y:q_v}(h:jI N lo hi w v Z) (H:Qe 18 Z z M y n){L:Nat->Int}(hu:IzV N lo' hi' w u nl L) (hnl:nl<1000) (hl:yG L nl Z.ns=0) (hpos:0<xe (kJ (goE Z z L nl)) n) :
  Calls Tryz.prog 14 #[v,u] w (q6r N w (fun Z'=>∃z' M' y' n',Qe 11000000 Z' z' M' y' n')):=by
 obtain⟨hb,hk⟩:=H.bz (by omega);have hn6:=H.n6;have hD:HtM n n 18 (kK Z z):=fun i hi j hj=>by rw[H.den i hi j hj];exact H.hM i hi j hj
 refine (ZZ h hb hk H.code H.ok.hz hu hnl H.off H.ok.R (K0:=18) hD H.hy (fun k hk=>⟨(gk18 k (by omega)).1,q_l (gk18 k (by omega)).2 (by omega)⟩)).mono ?_;rintro e w' ⟨e1,⟨h1,-⟩|⟨-,h2,-⟩|⟨-,-,h3,-⟩|⟨-,-,-,v',Z',rfl,h4,h5,h6,h7,h8⟩⟩
 ·exact absurd hl h1
 ·omega
 ·exact absurd (H.reg _) h3
 ·obtain⟨v1,v2,v3,rfl,-⟩:=id h4;exact⟨v1,v2,v3,rfl,⟨Z',h4,_,_,_,_,H.elim hl hpos h5 h7⟩,e1⟩
theorem q26{Z:Sys}{z:Nat->Nat}{M:q_m}{y:q_v}(h:jI N lo hi w v Z) (H:Qe 11000000 Z z M y n) :
  Calls Tryz.prog 15 #[v] w (zH w (.int .i64 0)):=by
 have h1:=q27 h (H.bkht (by omega)) (H.bz (by omega)).2 (by omega);rw[H.code] at h1;exact h1
theorem q25{Z:Sys}{z:Nat->Nat}{M:q_m}{y:q_v}(h:jI N lo hi w v Z) (H:Qe 11000000 Z z M y n) :
  Calls Tryz.prog 17 #[v] w (zY N w n n (kK Z z)):=by
 have h1:=q4y h (QG H.code) H.ok.hz;rw[H.off] at h1;exact h1
theorem Yd{Z:Sys}{z:Nat->Nat}{M:q_m}{y:q_v}(H:Qe 11000000 Z z M y n) (h:MtV N lo hi w v n n (kK Z z)) :
  Calls Tryz.prog 16 #[v] w (zH w (.bool true)):=by
 have hn6:=H.n6;exact Vm h H.n0 (by omega) H.pdD (K:=11000000) (fun i hi j hj=>by rw[H.den i hi j hj];exact H.hM i hi j hj) (fun k hk=>db6 k (by omega))
end
end Go.Proofs.YtflhlobiipejeaaGreat
