import Derived.Test.YtpkmjhmmmdkodaaGreatWx29
import Derived.Deep.Slices
import Derived.Deep.Strs
import Derived.Lib.SmallJoins
import Derived.OpenShut
import Derived.Below
import Derived.WideKeyPair
set_option linter.all false
set_option maxHeartbeats 8000000
namespace Go.Proofs.YtpkmjhmmmdkodaaGreat
open Go.RowKit
variable {w:World} {N n lo hi i:Nat} {v:Value} {R:Raw}
def BkBr (Z:Sys):Prop:=∀i,i<Z.nb->∀a,a<(Z.b i).m->∀c,c<(Z.b i).L a->kG ((Z.b i).A a c)=true
theorem q6n {Z:Sys}(h:(Z.b i).c<0\/(Z.b i).r<(Z.b i).c\/(Z.ns:Int)<=(Z.b i).r):bkC Z i=2:=by unfold bkC;rw[if_pos h]
theorem q6m {Z:Sys}(h:¬((Z.b i).c<0\/(Z.b i).r<(Z.b i).c\/(Z.ns:Int)<=(Z.b i).r)) (h':wW Z.z (Z.b i)=false):bkC Z i=4:=by unfold bkC;rw[if_neg h,if_pos h']
theorem q6o {Z:Sys}(h:¬((Z.b i).c<0\/(Z.b i).r<(Z.b i).c\/(Z.ns:Int)<=(Z.b i).r)) (h':wW Z.z (Z.b i)=true) (h2:0<i) (h3:Vj (Z.b (i-1)) (Z.b i)=false):bkC Z i=5:=by unfold bkC;rw[if_neg h,if_neg (by rw[h'];decide),if_pos ⟨h2,h3⟩]
theorem q7E {Z:Sys}(h:¬((Z.b i).c<0\/(Z.b i).r<(Z.b i).c\/(Z.ns:Int)<=(Z.b i).r)) (h':wW Z.z (Z.b i)=true) (h2:0<i->Vj (Z.b (i-1)) (Z.b i)=true):bkC Z i=0:=by
 unfold bkC;rw[if_neg h,if_neg (by rw[h'];decide),if_neg];rintro⟨h3,h4⟩;rw[h2 h3] at h4;cases h4
theorem q4I (Z:Sys):QI Z.ns Z.z=Z4 Z:=by
 unfold QI Z4;rw[Bool.and_assoc]
theorem q0I {B:Bkk}:q2Y B=allB B.m (fun i=>allB B.m (fun j=>decide (zl (B.A i j)=zl (B.A j i)))):=by
 rw[Bool.eq_iff_iff];unfold q2Y;rw[ql,ql]
 constructor
 ·intro h i hi;rw[ql];intro j hj
  rcases Nat.lt_trichotomy i j with h1|h1|h1
  ·have:=of_decide_eq_true (ql.1 (h j hj) i h1);exact decide_eq_true this.symm
  ·rw[h1];exact decide_eq_true rfl
  ·exact ql.1 (h i hi) j h1
 ·intro h i hi;rw[ql];intro j hj;exact ql.1 (h i hi) j (by omega)
set_option maxRecDepth 100000 in
theorem rf_Check{Z:Sys}(h:Qn N lo hi w v Z) (hB:BkBr Z) (hK:∀i,i<Z.k->kG (Z.R i)=true) :
  Calls Tryz.prog 10 #[v] w (zI w (.int .i64 (yN Z))):=by
 have HSZ:=q_h hB;have HKZ:=q_h hK;obtain⟨A1,c1,A2,c2,A3,c3,rfl,s1,s2,s3,k1,k2,k3⟩:=h.parts;have HI:=q_h s1;have HB:=q_h s2;have HL:=q_h s3;obtain⟨r,hr⟩:=qc (yN Z);obtain⟨Q,hQ⟩:=qc (zI w (.int .i64 (yN Z)));rw[<-hQ.out];rw[<-hr.out] at hQ;have F1:Hid (ZF Z=false->r=1):=fun h=>by rw[hr.out];unfold yN;rw[if_pos h]
 have F3:Hid (ZF Z=true->Z4 Z=false->r=3):=fun h h'=>by rw[hr.out];unfold yN;rw[if_neg (by rw[h];decide),if_pos h']
 have F2:Hid (ZF Z=true->Z4 Z=true->∀i,i<Z.nb->(∀j,j<i->bkC Z j=0)->∀c,bkC Z i=c->c≠0->r=c):=fun h h' i hi hj c hc h0=>by
  have e:=XR hi hj (by rw[hc];exact h0);rw[hr.out];unfold yN;rw[if_neg (by rw[h];decide),if_neg (by rw[h'];decide),if_pos (by rw[e,hc];exact h0),e,hc]
 have F0:Hid (ZF Z=true->Z4 Z=true->(∀i,i<Z.nb->bkC Z i=0)->r=if (Z.k:Int)=xZ Z.z Z.ns then 0 else 4):=fun h h' hi=>by
  rw[hr.out];unfold yN;rw[if_neg (by rw[h];decide),if_neg (by rw[h'];decide),if_neg (by rw[vT hi];decide)]
 clear h s1 s2 s3 hr hB hK;obtain⟨n,hn⟩:=qc Z.nb;rw[<-hn.out] at k2 HB;obtain⟨ns,hns⟩:=qc Z.ns;rw[<-hns.out] at HI k1;obtain⟨kk,hkk⟩:=qc Z.k;rw[<-hkk.out] at k3 HL;rw[<-hn.out,<-hns.out,<-hkk.out];go_enter Tryz.func10,Tryz.ntmps10;go_upto_region 1 with (fail);refine qp ?_;intro w1 hE hsz B0;obtain⟨g1,hg1⟩:=qc w.heap.size;have hg1':w.heap.size<=g1:=by rw[hg1.out];exact q_r
 have hg1s:g1<w1.heap.size:=by rw[hg1.out];omega
 rw[<-hg1.out] at B0 ⊢;have HB0:=q_h B0;have HE1:=q_h hE;obtain⟨a0,a1,a2,-⟩:=cells3 B0;clear hg1 hsz B0 hE;go_wp2_with fail
 go_loopw [3] (fun iv wr=>∃i:Nat,i<=n/\iv=.int .i64 (i:Int)/\Hid (Ext w1 wr)/\Hid (∀j,j<i->Ve (Z.b j)=true)) (fun iv _=>n-(intOf iv).toNat)
 case atStart=>exact⟨0,Nat.zero_le _,rfl,Ext.refl _,fun j hj=>absurd hj (Nat.not_lt_zero j)⟩
 case round =>
  obtain⟨i,hi8,rfl,hE1,HC⟩:=hrel;clear a0 a1 a2;obtain⟨a0,a1,a2,-⟩:=cells3 (hE1.out.block HB0.out)
  by_cases hlt:i<n
  case pos =>
   have t1:decide ((i:Int)<(n:Int))=true:=q_t (by omega);have t2:(i:Int)<(n:Int):=by omega
   obtain⟨b,off,rfl,hx⟩:=(HB.out.ext (HE1.out.trans hE1.out)).addr (by omega);obtain⟨Ab,cb,p0,p1,p2,hM,hm9⟩:=(hx i hlt).box;obtain⟨mb,hmb⟩:=qc (Z.b i).m;have HM:=q_h hM;rw[<-hmb.out] at p2 HM hm9;have HIB:Hid (i<Z.nb):=by rw[Hid,<-hn.out];exact hlt
   have HP2:=q_h p2;obtain⟨wq,hwq⟩:∃wq,wq=wr:=⟨_,rfl⟩
   subst hwq;clear hx hM p0 p1;go_wp2_with fail
   go_loopw [4] (fun jv wr=>∃j:Nat,j<=mb/\jv=.int .i64 (j:Int)/\Hid (Ext wq wr)/\Hid (∀a,a<j->allB ((Z.b i).L a) (fun c=>okR ((Z.b i).A a c))=true)) (fun jv _=>mb-(intOf jv).toNat)
   case atStart=>exact⟨0,Nat.zero_le _,rfl,Ext.refl _,fun j hj=>absurd hj (Nat.not_lt_zero j)⟩
   case round =>
    obtain⟨j,hj9,rfl,hEj,HCj⟩:=hrel;have HEw:Hid (Ext w wr):=(HE1.out.trans hE1.out).trans hEj.out;clear a0 a1 a2 p2;obtain⟨a0,a1,a2,-⟩:=cells3 (hEj.out.block (hE1.out.block HB0.out));have p2:=hEj.out.cell HP2.out
    by_cases hjl:j<mb
    case neg =>
     have t3:decide ((j:Int)<(mb:Int))=false:=q_f (by omega);obtain rfl:mb=j:=by omega
     have HC2:Hid (∀j,j<i+1->Ve (Z.b j)=true):=fun j hj=>by
      by_cases hji:j=i
      ·rw[hji];unfold Ve;rw[ql,<-hmb.out];exact HCj.out
      ·exact HC.out j (by omega)
     have HE2:Hid (Ext w1 wr):=hE1.out.trans hEj.out;go_wp2;go_roundw
     case rel=>exact⟨i+1,by omega,by go_num,HE2,HC2⟩
     case measure=>simp[intOf];omega
    have t3:decide ((j:Int)<(mb:Int))=true:=q_t (by omega);have t4:(j:Int)<(mb:Int):=by omega
    obtain⟨bm,om,rfl,-,-,hxm⟩:=MtR.addr (MtR.ext HM.out hEj.out) (by omega);obtain⟨A7,c7,q0,-,-,hl⟩:=hxm j hjl;have HLJ:=q_h hl;obtain⟨x,hx1⟩:=qc ((Z.b i).L j);rw[<-hx1.out] at q0 HLJ;obtain⟨ok,hok⟩:=qc (allB x (fun c=>okR ((Z.b i).A j c)));clear hxm hl;go_wp2_with (go_at_call 20;refine q_o ?_);refine (Qr HLJ.out (fun c hc=>(wH (HSZ.out i HIB.out j (by rw[<-hmb.out];exact hjl) c (by rw[<-hx1.out];exact hc))).1)).mono ?_;rintro e w5 ⟨rfl,e5⟩;rw[<-hok.out];have HE5:Hid (Ext w w5):=HEw.out.trans e5;have HX5:Hid (Ext wq w5):=hEj.out.trans e5;clear a0 a1 a2 p2 q0 e5;cases ok with
    | false =>
     have HN:Hid (r=1):=F1.out (by
      unfold ZF
      rw[qE HIB.out (by
       unfold Ve
       exact qE (by rw[<-hmb.out];exact hjl) (by rw[<-hx1.out];exact hok.out.symm)),Bool.false_and])
     go_wp2
     first|go_ret|skip
     rw[hQ.out,HN.out];exact⟨rfl,HE5.out⟩
    | true =>
     have HS2:Hid (∀a,a<j+1->allB ((Z.b i).L a) (fun c=>okR ((Z.b i).A a c))=true):=fun a ha=>by
      by_cases hja:a=j
      ·rw[hja,<-hx1.out];exact hok.out.symm
      ·exact HCj.out a (by omega)
     go_wp2;go_roundw
     case rel=>exact⟨j+1,by omega,by go_num,HX5,HS2⟩
     case measure=>simp[intOf];omega
  have t1:decide ((i:Int)<(n:Int))=false:=q_f (by omega);obtain rfl:n=i:=by omega
  have HEw:Hid (Ext w wr):=HE1.out.trans hE1.out;have HCB:Hid (∀j,j<Z.nb->Ve (Z.b j)=true):=fun j hj=>HC.out j (by rw[hn.out];exact hj)
  obtain⟨ok,hok⟩:=qc (allB kk (fun i=>okR (Z.R i)));go_wp2_with (go_at_call 20;refine q_o ?_);refine (Qr (HL.out.ext HEw.out) (fun i hi=>(wH (HKZ.out i (by rw[<-hkk.out];exact hi))).1)).mono ?_;rintro e w5 ⟨rfl,e5⟩;rw[<-hok.out];have HE5:Hid (Ext w w5):=HEw.out.trans e5;have HB5:=q_h (e5.block (hE1.out.block HB0.out));clear a0 a1 a2 e5 t1;obtain⟨a0,a1,a2,-⟩:=cells3 HB5.out;cases ok with
  | false =>
   have HN:Hid (r=1):=F1.out (by
    unfold ZF
    rw[<-hkk.out,<-hok.out,Bool.and_false])
   go_wp2
   first|go_ret|skip
   rw[hQ.out,HN.out];exact⟨rfl,HE5.out⟩
  | true =>
  have HCS:Hid (ZF Z=true):=by
   unfold ZF;rw[<-hkk.out,<-hok.out,Bool.and_true,Hid,ql];exact HCB.out
  go_wp2_with (go_at_call 41;refine q_o ?_);refine (Vu (HI.out.ext HE5.out)).mono ?_;rintro e w6 ⟨rfl,e6⟩;have HE6:Hid (Ext w w6):=HE5.out.trans e6;have HB6:=q_h (e6.block HB5.out);clear a0 a1 a2 e6;obtain⟨a0,a1,a2,-⟩:=cells3 HB6.out;have HSZ9:Hid (QI ns Z.z=Z4 Z):=by rw[hns.out];exact q4I Z
  rw[HSZ9.out];obtain⟨sz,hsz⟩:=qc (Z4 Z);rw[<-hsz.out];cases sz with
  | false =>
   have HN:Hid (r=3):=F3.out HCS.out hsz.out.symm;go_wp2
   first|go_ret|skip
   rw[hQ.out,HN.out];exact⟨rfl,HE6.out⟩
  | true =>
  rw[if_pos rfl];obtain⟨T,hT⟩:=qc (xZ Z.z ns);rw[<-hT.out]
  have HSS:Hid (1<=ns/\ns<=12/\(∀i,i<ns->sz1 (Z.z i)=true)/\T<=64):=by
   have h9:=hsz.out.symm;rw[<-q4I Z] at h9;unfold QI at h9;rw[Bool.and_eq_true,Bool.and_eq_true,Bool.and_eq_true,ql,decide_eq_true_eq,decide_eq_true_eq,decide_eq_true_eq,<-hns.out,<-hT.out] at h9;exact⟨h9.1.1.1,h9.1.1.2,h9.1.2,h9.2⟩
  have hT1:0<=T:=by have:=(QW ns HSS.out.2.2.1).1;rw[<-hT.out] at this;omega
  have hns12:ns<=12:=HSS.out.2.1;have t3:decide (T<0)=false:=q_f (by omega);have HOKS:Hid (∀i,i<n->(∀j,j<i->bkC Z j=0)->∀c,bkC Z i=c->c≠0->r=c):=fun i hi hj c hc h0=>F2.out HCS.out hsz.out.symm i (by rw[<-hn.out];exact hi) hj c hc h0
  go_wp2_with fail
  go_loopw [6] (fun iv wr=>∃i:Nat,i<=n/\iv=.int .i64 (i:Int)/\Hid (Ext w6 wr)/\Hid (∀j,j<i->bkC Z j=0)) (fun iv _=>n-(intOf iv).toNat)
  case atStart=>exact⟨0,Nat.zero_le _,rfl,Ext.refl _,fun j hj=>absurd hj (Nat.not_lt_zero j)⟩
  case round =>
   obtain⟨i,hi9,rfl,hEi,HCK⟩:=hrel;clear a0 a1 a2 t3;have HEr:Hid (Ext w wr):=HE6.out.trans hEi.out;obtain⟨a0,a1,a2,-⟩:=cells3 (hEi.out.block HB6.out)
   by_cases hlt:i<n
   case neg =>
    have t1:decide ((i:Int)<(n:Int))=false:=q_f (by omega);obtain rfl:n=i:=by omega
    have HR9:Hid (r=if (kk:Int)=T then 0 else 4):=by
     have h9:=F0.out HCS.out hsz.out.symm (fun j hj=>HCK.out j (by rw[hn.out];exact hj));rw[<-hkk.out,<-hns.out,<-hT.out] at h9;exact h9
    by_cases hkT:(kk:Int)=T
    ·have t4:((kk:Int) != T)=false:=by simpa using hkT
     have HN:Hid (r=0):=by rw[HR9.out,if_pos hkT];rfl
     clear hkT;go_wp2
     first|go_ret|skip
     rw[hQ.out,HN.out];exact⟨rfl,HEr.out⟩
    have t4:((kk:Int) != T)=true:=by simpa using hkT
    have HN:Hid (r=4):=by rw[HR9.out,if_neg hkT];rfl
    clear hkT;go_wp2
    first|go_ret|skip
    rw[hQ.out,HN.out];exact⟨rfl,HEr.out⟩
   have t1:decide ((i:Int)<(n:Int))=true:=q_t (by omega);have t2:(i:Int)<(n:Int):=by omega
   have HIB:Hid (i<Z.nb):=by rw[Hid,<-hn.out];exact hlt
   obtain⟨b,off,rfl,hx⟩:=(HB.out.ext HEr.out).addr (by omega);obtain⟨Ab,cb,p0,p1,p2,hM,hm9⟩:=(hx i hlt).box
   have HPV:Hid (∀j,j<n->wr.cell? ⟨b,off+j*3,none⟩=some (.int .i64 (Z.b j).r)/\wr.cell? ⟨b,off+j*3+1,none⟩=some (.int .i64 (Z.b j).c)):=fun j hj=>by
    obtain⟨A9,c9,x0,x1,-⟩:=(hx j hj).box;exact⟨x0,x1⟩
   obtain⟨mb,hmb⟩:=qc (Z.b i).m;obtain⟨R,hR⟩:=qc (Z.b i).r;obtain⟨C,hC⟩:=qc (Z.b i).c;have HM:=q_h hM;rw[<-hmb.out] at p2 HM hm9;rw[<-hR.out] at p0;rw[<-hC.out] at p1;have HGO:Hid (∀c,bkC Z i=c->c≠0->r=c):=HOKS.out i hlt HCK.out;obtain⟨wq,hwq⟩:∃wq,wq=wr:=⟨_,rfl⟩
   subst hwq;clear hx hM;go_upto_region 18 with (fail);refine qp ?_;intro w7 e7 hsz7 B7;obtain⟨g7,hg7⟩:=qc wq.heap.size;rw[<-hg7.out] at B7 ⊢;have HX7:=q_h e7;have HE7:Hid (Ext w w7):=HEr.out.trans e7;have HB7:=q_h B7;have HB07:=q_h (e7.block (hEi.out.block HB6.out));obtain⟨b0,b1,b2,-⟩:=cells3 B7;clear e7 hsz7 B7 p0 p1 p2 a0 a1 a2;obtain⟨a0,a1,a2,-⟩:=cells3 HB07.out
   by_cases hbad:C<0\/R<C\/(ns:Int)<=R
   ·have HN:Hid (r=2):=HGO.out 2 (q6n (by rw[<-hR.out,<-hC.out,<-hns.out];exact hbad)) (by decide)
    by_cases h1:C<0
    ·have t4:decide (C<0)=true:=q_t h1;clear h1 hbad;go_wp2
     first|go_ret|skip
     rw[hQ.out,HN.out];exact⟨rfl,HE7.out⟩
    have t4:decide (C<0)=false:=q_f h1
    by_cases h2:R<C
    ·have t5:decide (R<C)=true:=q_t h2;clear h1 h2 hbad;go_wp2
     first|go_ret|skip
     rw[hQ.out,HN.out];exact⟨rfl,HE7.out⟩
    have t5:decide (R<C)=false:=q_f h2;have t6:decide ((ns:Int)<=R)=true:=q_t (by omega);clear h1 h2 hbad;go_wp2
    first|go_ret|skip
    rw[hQ.out,HN.out];exact⟨rfl,HE7.out⟩
   have t4:decide (C<0)=false:=q_f (by omega);have t5:decide (R<C)=false:=q_f (by omega);have t6:decide ((ns:Int)<=R)=false:=q_f (by omega);have HRG:Hid (¬((Z.b i).c<0\/(Z.b i).r<(Z.b i).c\/(Z.ns:Int)<=(Z.b i).r)):=by rw[Hid,<-hR.out,<-hC.out,<-hns.out];exact hbad
   obtain⟨rr,hrr⟩:=qc R.toNat;obtain⟨cc,hcc⟩:=qc C.toNat;have hRr:R=(rr:Int):=by have:=hrr.out;omega
   have hCc:C=(cc:Int):=by have:=hcc.out;omega
   have hrn:rr<ns:=by omega
   have hcn:cc<ns:=by omega
   have hHR:=q_h hRr;have hHC:=q_h hCc;subst hRr;subst hCc;clear hbad;obtain⟨bz,oz,rfl,hzx⟩:=(HI.out.ext HE7.out).addr (by omega);have d0:=hzx rr hrn;have d1:=hzx cc hcn;obtain⟨zr,hzr⟩:=qc (Z.z rr);obtain⟨zc,hzc⟩:=qc (Z.z cc);rw[<-hzr.out] at d0;rw[<-hzc.out] at d1;clear hzx;obtain⟨sh,hsh⟩:=qc (decide ((mb:Int)=zr)&&allB mb (fun a=>decide (((Z.b i).L a:Int)=zc)));obtain⟨shp,hshp⟩:=qc (wW Z.z (Z.b i))
   have HSHP:Hid (shp=(sh&&(!(decide ((rr:Int)=(cc:Int)))||q2Y (Z.b i)))):=by
    rw[hshp.out,hsh.out];unfold wW;rw[<-hR.out,<-hC.out,Int.toNat_natCast,Int.toNat_natCast,<-hzr.out,<-hzc.out,<-hmb.out,Bool.and_assoc]
    rfl
   have HM7:=q_h (MtR.ext HM.out HX7.out);have hrrcc:(cc:Int)<=(rr:Int):=of_decide_eq_false t5 |> Int.not_lt.1
   clear t4 t5 t6;go_upto_region 20 with (fail)
   go_cut [104] (fun bv wx=>bv=.bool (!shp)/\Ext w7 wx)
   case first =>
    cases sh with
    | false =>
     have HSF:Hid (shp=false):=by rw[HSHP.out,Bool.false_and];rfl
     refine jL [Mn.q g7 2,Mn.eq (.slice Ab mb cb),Mn.q g1 0,Mn.eq (.slice (some ⟨bz,oz,none⟩) ns c1),Mn.q g7 0,Mn.i (rr:Int),Mn.q bz (oz+rr),Mn.i zr,Mn.q g1 0,Mn.eq (.slice (some ⟨bz,oz,none⟩) ns c1),Mn.q g7 1,Mn.i (cc:Int),Mn.q bz (oz+cc),Mn.i zc,Mn.t false,Mn.t true,Mn.t true,Mn.eq undef,Mn.eq undef,Mn.eq undef,Mn.eq undef,Mn.eq undef,Mn.eq undef,Mn.eq undef,Mn.eq undef,Mn.eq undef,Mn.eq undef,Mn.eq undef,Mn.t true] (sM [76,77,78,79,80,81,82,83,84,85,86,87,88,89,90,91,92,93,94,95,96,97,98,99,100,101,102,103,104]) [] (rQ 29 0) 0 (by kernel_rfl) ?_ ?_
     ·show ∀i,i<29->_
      iterate 29 refine fs ?_ ?_
      ·exact fz
      all_goals intro hl;clear hl;refine stp rfl ?_;intro ac wi eI hB hA K hK
      have o7:=oOf (hB 7) rfl;rotate_left;obtain⟨_,s76,rfl⟩:=hA 0 76;have cc0:=eI.cell b2;rotate_left;have o1:=oOf (hB 1) rfl;rotate_left;obtain⟨_,s78,rfl⟩:=hA 2 78;have cc0:=eI.cell a0;rotate_left;have o7:=oOf (hB 7) rfl;rotate_left;obtain⟨_,s80,rfl⟩:=hA 4 80;have cc0:=eI.cell b0;rotate_left;obtain⟨_,s79,rfl⟩:=hA 3 79;obtain⟨_,s81,rfl⟩:=hA 5 81;rotate_left;obtain⟨_,s82,rfl⟩:=hA 6 82;have cc0:=eI.cell d0;rotate_left;have o1:=oOf (hB 1) rfl;rotate_left;obtain⟨_,s84,rfl⟩:=hA 8 84;have cc0:=eI.cell a0;rotate_left;have o7:=oOf (hB 7) rfl;rotate_left;obtain⟨_,s86,rfl⟩:=hA 10 86;have cc0:=eI.cell b1;rotate_left;obtain⟨_,s85,rfl⟩:=hA 9 85;obtain⟨_,s87,rfl⟩:=hA 11 87;rotate_left;obtain⟨_,s88,rfl⟩:=hA 12 88;have cc0:=eI.cell d1;rotate_left;obtain⟨_,s77,rfl⟩:=hA 1 77;obtain⟨_,s83,rfl⟩:=hA 7 83;obtain⟨_,s89,rfl⟩:=hA 13 89;clear hB hA
      ·go_simp;refine (vw (MtR.ext HM7.out eI) zr zc).mono ?_;rw[<-hsh.out];rintro e wj ⟨rfl,ej⟩;go_wp2_with fail;exact hK.out _ _ ej rfl
      obtain⟨_,s90,rfl⟩:=hA 14 90;rotate_left;obtain⟨_,s91,rfl⟩:=hA 15 91;rotate_left
      iterate 6 (obtain⟨_,s92,rfl⟩:=hA 16 92;clear hB hA;rw[if_neg (by simp[Region.wanted,yielded,s92,undef])];exact q_k hK rfl)
      iterate 4 (obtain⟨_,s98,rfl⟩:=hA 22 98;clear hB hA;rw[if_neg (by simp[Region.wanted,yielded,s98,undef])];exact q_k hK rfl)
      obtain⟨_,s92,rfl⟩:=hA 16 92;clear hB hA;rw[if_neg (by simp[Region.wanted,yielded,s92,undef])];exact q_k hK rfl;obtain⟨_,s92,rfl⟩:=hA 16 92;obtain⟨_,s103,rfl⟩:=hA 27 103;rotate_left
      all_goals clear hB hA;go_simp;exact q_k hK rfl
     intro vals wz eZ hJ;have J104:vals 28=_:=hJ 28 (by decide) (by decide);clear hJ;simp only[pr,Nat.reduceAdd,J104];clear J104;refine qg (by kernel_rfl) ?_ _;go_wp2_with fail
     go_meet
     exact⟨by rw[HSF.out];rfl,eZ⟩
    | true =>
     by_cases hrc:rr=cc
     case neg =>
      have t7:((rr:Int) == (cc:Int))=false:=by simpa using fun e:(rr:Int)=cc=>hrc (by omega)
      have HSF:Hid (shp=true):=by rw[HSHP.out,q_f (by omega)];rfl
      clear hrc;refine jL [Mn.q g7 2,Mn.eq (.slice Ab mb cb),Mn.q g1 0,Mn.eq (.slice (some ⟨bz,oz,none⟩) ns c1),Mn.q g7 0,Mn.i (rr:Int),Mn.q bz (oz+rr),Mn.i zr,Mn.q g1 0,Mn.eq (.slice (some ⟨bz,oz,none⟩) ns c1),Mn.q g7 1,Mn.i (cc:Int),Mn.q bz (oz+cc),Mn.i zc,Mn.t true,Mn.t false,Mn.t false,Mn.q g7 0,Mn.i (rr:Int),Mn.q g7 1,Mn.i (cc:Int),Mn.t false,Mn.t false,Mn.eq undef,Mn.eq undef,Mn.eq undef,Mn.eq undef,Mn.t false,Mn.t false] (sM [76,77,78,79,80,81,82,83,84,85,86,87,88,89,90,91,92,93,94,95,96,97,98,99,100,101,102,103,104]) [] (rQ 29 0) 0 (by kernel_rfl) ?_ ?_
      ·show ∀i,i<29->_
       iterate 29 refine fs ?_ ?_
       ·exact fz
       all_goals intro hl;clear hl;refine stp rfl ?_;intro ac wi eI hB hA K hK
       have o7:=oOf (hB 7) rfl;rotate_left;obtain⟨_,s76,rfl⟩:=hA 0 76;have cc0:=eI.cell b2;rotate_left;have o1:=oOf (hB 1) rfl;rotate_left;obtain⟨_,s78,rfl⟩:=hA 2 78;have cc0:=eI.cell a0;rotate_left;have o7:=oOf (hB 7) rfl;rotate_left;obtain⟨_,s80,rfl⟩:=hA 4 80;have cc0:=eI.cell b0;rotate_left;obtain⟨_,s79,rfl⟩:=hA 3 79;obtain⟨_,s81,rfl⟩:=hA 5 81;rotate_left;obtain⟨_,s82,rfl⟩:=hA 6 82;have cc0:=eI.cell d0;rotate_left;have o1:=oOf (hB 1) rfl;rotate_left;obtain⟨_,s84,rfl⟩:=hA 8 84;have cc0:=eI.cell a0;rotate_left;have o7:=oOf (hB 7) rfl;rotate_left;obtain⟨_,s86,rfl⟩:=hA 10 86;have cc0:=eI.cell b1;rotate_left;obtain⟨_,s85,rfl⟩:=hA 9 85;obtain⟨_,s87,rfl⟩:=hA 11 87;rotate_left;obtain⟨_,s88,rfl⟩:=hA 12 88;have cc0:=eI.cell d1;rotate_left;obtain⟨_,s77,rfl⟩:=hA 1 77;obtain⟨_,s83,rfl⟩:=hA 7 83;obtain⟨_,s89,rfl⟩:=hA 13 89;clear hB hA
       ·go_simp;refine (vw (MtR.ext HM7.out eI) zr zc).mono ?_;rw[<-hsh.out];rintro e wj ⟨rfl,ej⟩;go_wp2_with fail;exact hK.out _ _ ej rfl
       obtain⟨_,s90,rfl⟩:=hA 14 90;rotate_left;obtain⟨_,s91,rfl⟩:=hA 15 91;rotate_left;obtain⟨_,s92,rfl⟩:=hA 16 92;have o7:=oOf (hB 7) rfl;rw[if_pos (by simp[Region.wanted,yielded,s92])];rotate_left;obtain⟨_,s92,rfl⟩:=hA 16 92;obtain⟨_,s93,rfl⟩:=hA 17 93;rw[if_pos (by simp[Region.wanted,yielded,s92])];have cc0:=eI.cell b0;rotate_left;obtain⟨_,s92,rfl⟩:=hA 16 92;have o7:=oOf (hB 7) rfl;rw[if_pos (by simp[Region.wanted,yielded,s92])];rotate_left;obtain⟨_,s92,rfl⟩:=hA 16 92;obtain⟨_,s95,rfl⟩:=hA 19 95;rw[if_pos (by simp[Region.wanted,yielded,s92])];have cc0:=eI.cell b1;rotate_left;obtain⟨_,s92,rfl⟩:=hA 16 92;obtain⟨_,s94,rfl⟩:=hA 18 94;obtain⟨_,s96,rfl⟩:=hA 20 96;rw[if_pos (by simp[Region.wanted,yielded,s92])];rotate_left;obtain⟨_,s92,rfl⟩:=hA 16 92;obtain⟨_,s97,rfl⟩:=hA 21 97;rw[if_pos (by simp[Region.wanted,yielded,s92])];rotate_left
       iterate 4 (obtain⟨_,s98,rfl⟩:=hA 22 98;clear hB hA;rw[if_neg (by simp[Region.wanted,yielded,s98,undef])];exact q_k hK rfl)
       obtain⟨_,s92,rfl⟩:=hA 16 92;obtain⟨_,s98,rfl⟩:=hA 22 98;obtain⟨_,s102,rfl⟩:=hA 26 102;rw[if_pos (by simp[Region.wanted,yielded,s92])];rotate_left;obtain⟨_,s92,rfl⟩:=hA 16 92;obtain⟨_,s103,rfl⟩:=hA 27 103;rotate_left
       all_goals clear hB hA;go_simp;exact q_k hK rfl
      intro vals wz eZ hJ;have J104:vals 28=_:=hJ 28 (by decide) (by decide);clear hJ;simp only[pr,Nat.reduceAdd,J104];clear J104;refine qg (by kernel_rfl) ?_ _;go_wp2_with fail
      go_meet
      exact⟨by rw[HSF.out];rfl,eZ⟩
     subst hrc;have h9:=hsh.out.symm;rw[Bool.and_eq_true,ql,decide_eq_true_eq] at h9;have hzz:zr=zc:=by rw[hzr.out,hzc.out]
     have h10:=zQ.1 (HSS.out.2.2.1 rr hrn);rw[<-hzr.out] at h10;have hmb1:0<mb:=by omega
     have hmb2:mb<1000000:=by omega
     subst hzz
     have HLL:Hid (∀a,a<mb->(Z.b i).L a=mb):=fun a ha=>by
      have:=of_decide_eq_true (h9.2 a ha);omega
     have HOK9:Hid (∀a,a<mb->∀c,c<mb->(Z.b i).A a c=raw (zl ((Z.b i).A a c))/\Ht 17 (zl ((Z.b i).A a c))):=fun a ha c hc=>by
      have h1:=HCB.out i HIB.out;unfold Ve at h1;have h2:=ql.1 (ql.1 h1 a (by rw[<-hmb.out];exact ha)) c (by rw[HLL.out a ha];exact hc);have h3:=HSZ.out i HIB.out a (by rw[<-hmb.out];exact ha) c (by rw[HLL.out a ha];exact hc);have h4:=vG h2;refine⟨h4,q4i ?_⟩;rw[<-h4];exact h3
     have HMV:Hid (MtV N lo hi w7 (.slice Ab mb cb) mb mb (fun a c=>zl ((Z.b i).A a c))):=MtR.congr HM7.out (fun a ha=>HLL.out a ha) (fun a ha c hc=>(HOK9.out a ha c (by rw[<-HLL.out a ha];exact hc)).1)
     have HSY:Hid (allB mb (fun a=>allB mb (fun c=>decide (zl ((Z.b i).A a c)=zl ((Z.b i).A c a))))=shp):=by
      rw[HSHP.out,decide_eq_true rfl,q0I,<-hmb.out]
      rfl
     have t7:((rr:Int) == (rr:Int))=true:=by simp
     clear h9 h10;cases shp with
     | true =>
      refine jL [Mn.q g7 2,Mn.eq (.slice Ab mb cb),Mn.q g1 0,Mn.eq (.slice (some ⟨bz,oz,none⟩) ns c1),Mn.q g7 0,Mn.i (rr:Int),Mn.q bz (oz+rr),Mn.i zr,Mn.q g1 0,Mn.eq (.slice (some ⟨bz,oz,none⟩) ns c1),Mn.q g7 1,Mn.i (rr:Int),Mn.q bz (oz+rr),Mn.i zr,Mn.t true,Mn.t false,Mn.t false,Mn.q g7 0,Mn.i (rr:Int),Mn.q g7 1,Mn.i (rr:Int),Mn.t true,Mn.t true,Mn.q g7 2,Mn.eq (.slice Ab mb cb),Mn.t true,Mn.t false,Mn.t false,Mn.t false] (sM [76,77,78,79,80,81,82,83,84,85,86,87,88,89,90,91,92,93,94,95,96,97,98,99,100,101,102,103,104]) [] (rQ 29 0) 0 (by kernel_rfl) ?_ ?_
      ·show ∀i,i<29->_
       iterate 29 refine fs ?_ ?_
       ·exact fz
       all_goals intro hl;clear hl;refine stp rfl ?_;intro ac wi eI hB hA K hK
       have o7:=oOf (hB 7) rfl;rotate_left;obtain⟨_,s76,rfl⟩:=hA 0 76;have cc0:=eI.cell b2;rotate_left;have o1:=oOf (hB 1) rfl;rotate_left;obtain⟨_,s78,rfl⟩:=hA 2 78;have cc0:=eI.cell a0;rotate_left;have o7:=oOf (hB 7) rfl;rotate_left;obtain⟨_,s80,rfl⟩:=hA 4 80;have cc0:=eI.cell b0;rotate_left;obtain⟨_,s79,rfl⟩:=hA 3 79;obtain⟨_,s81,rfl⟩:=hA 5 81;rotate_left;obtain⟨_,s82,rfl⟩:=hA 6 82;have cc0:=eI.cell d0;rotate_left;have o1:=oOf (hB 1) rfl;rotate_left;obtain⟨_,s84,rfl⟩:=hA 8 84;have cc0:=eI.cell a0;rotate_left;have o7:=oOf (hB 7) rfl;rotate_left;obtain⟨_,s86,rfl⟩:=hA 10 86;have cc0:=eI.cell b1;rotate_left;obtain⟨_,s85,rfl⟩:=hA 9 85;obtain⟨_,s87,rfl⟩:=hA 11 87;rotate_left;obtain⟨_,s88,rfl⟩:=hA 12 88;have cc0:=eI.cell d0;rotate_left;obtain⟨_,s77,rfl⟩:=hA 1 77;obtain⟨_,s83,rfl⟩:=hA 7 83;obtain⟨_,s89,rfl⟩:=hA 13 89;clear hB hA
       ·go_simp;refine (vw (MtR.ext HM7.out eI) zr zr).mono ?_;rw[<-hsh.out];rintro e wj ⟨rfl,ej⟩;go_wp2_with fail;exact hK.out _ _ ej rfl
       obtain⟨_,s90,rfl⟩:=hA 14 90;rotate_left;obtain⟨_,s91,rfl⟩:=hA 15 91;rotate_left;obtain⟨_,s92,rfl⟩:=hA 16 92;have o7:=oOf (hB 7) rfl;rw[if_pos (by simp[Region.wanted,yielded,s92])];rotate_left;obtain⟨_,s92,rfl⟩:=hA 16 92;obtain⟨_,s93,rfl⟩:=hA 17 93;rw[if_pos (by simp[Region.wanted,yielded,s92])];have cc0:=eI.cell b0;rotate_left;obtain⟨_,s92,rfl⟩:=hA 16 92;have o7:=oOf (hB 7) rfl;rw[if_pos (by simp[Region.wanted,yielded,s92])];rotate_left;obtain⟨_,s92,rfl⟩:=hA 16 92;obtain⟨_,s95,rfl⟩:=hA 19 95;rw[if_pos (by simp[Region.wanted,yielded,s92])];have cc0:=eI.cell b1;rotate_left;obtain⟨_,s92,rfl⟩:=hA 16 92;obtain⟨_,s94,rfl⟩:=hA 18 94;obtain⟨_,s96,rfl⟩:=hA 20 96;rw[if_pos (by simp[Region.wanted,yielded,s92])];rotate_left;obtain⟨_,s92,rfl⟩:=hA 16 92;obtain⟨_,s97,rfl⟩:=hA 21 97;rw[if_pos (by simp[Region.wanted,yielded,s92])];rotate_left;obtain⟨_,s98,rfl⟩:=hA 22 98;have o7:=oOf (hB 7) rfl;rw[if_pos (by simp[Region.wanted,yielded,s98])];rotate_left;obtain⟨_,s98,rfl⟩:=hA 22 98;obtain⟨_,s99,rfl⟩:=hA 23 99;rw[if_pos (by simp[Region.wanted,yielded,s98])];have cc0:=eI.cell b2;rotate_left;obtain⟨_,s98,rfl⟩:=hA 22 98;obtain⟨_,s100,rfl⟩:=hA 24 100;clear hB hA;rw[if_pos (by simp[Region.wanted,yielded,s98])]
       ·go_simp;refine (Qq (MtR.ext HMV.out eI) hmb1 hmb2 (fun a ha c hc=>⟨(HOK9.out a ha c hc).2.sz (by omega),(HOK9.out c hc a ha).2.sz (by omega),((HOK9.out a ha c hc).2.sub (HOK9.out c hc a ha).2).sz (by omega)⟩)).mono ?_;rw[HSY.out];rintro e wj ⟨rfl,ej⟩;go_wp2_with fail;exact hK.out _ _ ej rfl
       obtain⟨_,s98,rfl⟩:=hA 22 98;obtain⟨_,s101,rfl⟩:=hA 25 101;rw[if_pos (by simp[Region.wanted,yielded,s98])];rotate_left;obtain⟨_,s92,rfl⟩:=hA 16 92;obtain⟨_,s98,rfl⟩:=hA 22 98;obtain⟨_,s102,rfl⟩:=hA 26 102;rw[if_pos (by simp[Region.wanted,yielded,s92])];rotate_left;obtain⟨_,s92,rfl⟩:=hA 16 92;obtain⟨_,s103,rfl⟩:=hA 27 103;rotate_left
       all_goals clear hB hA;go_simp;exact q_k hK rfl
      intro vals wz eZ hJ;have J104:vals 28=_:=hJ 28 (by decide) (by decide);clear hJ;simp only[pr,Nat.reduceAdd,J104];clear J104;refine qg (by kernel_rfl) ?_ _;go_wp2_with fail
      go_meet
      exact⟨rfl,eZ⟩
     | false =>
      refine jL [Mn.q g7 2,Mn.eq (.slice Ab mb cb),Mn.q g1 0,Mn.eq (.slice (some ⟨bz,oz,none⟩) ns c1),Mn.q g7 0,Mn.i (rr:Int),Mn.q bz (oz+rr),Mn.i zr,Mn.q g1 0,Mn.eq (.slice (some ⟨bz,oz,none⟩) ns c1),Mn.q g7 1,Mn.i (rr:Int),Mn.q bz (oz+rr),Mn.i zr,Mn.t true,Mn.t false,Mn.t false,Mn.q g7 0,Mn.i (rr:Int),Mn.q g7 1,Mn.i (rr:Int),Mn.t true,Mn.t true,Mn.q g7 2,Mn.eq (.slice Ab mb cb),Mn.t false,Mn.t true,Mn.t true,Mn.t true] (sM [76,77,78,79,80,81,82,83,84,85,86,87,88,89,90,91,92,93,94,95,96,97,98,99,100,101,102,103,104]) [] (rQ 29 0) 0 (by kernel_rfl) ?_ ?_
      ·show ∀i,i<29->_
       iterate 29 refine fs ?_ ?_
       ·exact fz
       all_goals intro hl;clear hl;refine stp rfl ?_;intro ac wi eI hB hA K hK
       have o7:=oOf (hB 7) rfl;rotate_left;obtain⟨_,s76,rfl⟩:=hA 0 76;have cc0:=eI.cell b2;rotate_left;have o1:=oOf (hB 1) rfl;rotate_left;obtain⟨_,s78,rfl⟩:=hA 2 78;have cc0:=eI.cell a0;rotate_left;have o7:=oOf (hB 7) rfl;rotate_left;obtain⟨_,s80,rfl⟩:=hA 4 80;have cc0:=eI.cell b0;rotate_left;obtain⟨_,s79,rfl⟩:=hA 3 79;obtain⟨_,s81,rfl⟩:=hA 5 81;rotate_left;obtain⟨_,s82,rfl⟩:=hA 6 82;have cc0:=eI.cell d0;rotate_left;have o1:=oOf (hB 1) rfl;rotate_left;obtain⟨_,s84,rfl⟩:=hA 8 84;have cc0:=eI.cell a0;rotate_left;have o7:=oOf (hB 7) rfl;rotate_left;obtain⟨_,s86,rfl⟩:=hA 10 86;have cc0:=eI.cell b1;rotate_left;obtain⟨_,s85,rfl⟩:=hA 9 85;obtain⟨_,s87,rfl⟩:=hA 11 87;rotate_left;obtain⟨_,s88,rfl⟩:=hA 12 88;have cc0:=eI.cell d0;rotate_left;obtain⟨_,s77,rfl⟩:=hA 1 77;obtain⟨_,s83,rfl⟩:=hA 7 83;obtain⟨_,s89,rfl⟩:=hA 13 89;clear hB hA
       ·go_simp;refine (vw (MtR.ext HM7.out eI) zr zr).mono ?_;rw[<-hsh.out];rintro e wj ⟨rfl,ej⟩;go_wp2_with fail;exact hK.out _ _ ej rfl
       obtain⟨_,s90,rfl⟩:=hA 14 90;rotate_left;obtain⟨_,s91,rfl⟩:=hA 15 91;rotate_left;obtain⟨_,s92,rfl⟩:=hA 16 92;have o7:=oOf (hB 7) rfl;rw[if_pos (by simp[Region.wanted,yielded,s92])];rotate_left;obtain⟨_,s92,rfl⟩:=hA 16 92;obtain⟨_,s93,rfl⟩:=hA 17 93;rw[if_pos (by simp[Region.wanted,yielded,s92])];have cc0:=eI.cell b0;rotate_left;obtain⟨_,s92,rfl⟩:=hA 16 92;have o7:=oOf (hB 7) rfl;rw[if_pos (by simp[Region.wanted,yielded,s92])];rotate_left;obtain⟨_,s92,rfl⟩:=hA 16 92;obtain⟨_,s95,rfl⟩:=hA 19 95;rw[if_pos (by simp[Region.wanted,yielded,s92])];have cc0:=eI.cell b1;rotate_left;obtain⟨_,s92,rfl⟩:=hA 16 92;obtain⟨_,s94,rfl⟩:=hA 18 94;obtain⟨_,s96,rfl⟩:=hA 20 96;rw[if_pos (by simp[Region.wanted,yielded,s92])];rotate_left;obtain⟨_,s92,rfl⟩:=hA 16 92;obtain⟨_,s97,rfl⟩:=hA 21 97;rw[if_pos (by simp[Region.wanted,yielded,s92])];rotate_left;obtain⟨_,s98,rfl⟩:=hA 22 98;have o7:=oOf (hB 7) rfl;rw[if_pos (by simp[Region.wanted,yielded,s98])];rotate_left;obtain⟨_,s98,rfl⟩:=hA 22 98;obtain⟨_,s99,rfl⟩:=hA 23 99;rw[if_pos (by simp[Region.wanted,yielded,s98])];have cc0:=eI.cell b2;rotate_left;obtain⟨_,s98,rfl⟩:=hA 22 98;obtain⟨_,s100,rfl⟩:=hA 24 100;clear hB hA;rw[if_pos (by simp[Region.wanted,yielded,s98])]
       ·go_simp;refine (Qq (MtR.ext HMV.out eI) hmb1 hmb2 (fun a ha c hc=>⟨(HOK9.out a ha c hc).2.sz (by omega),(HOK9.out c hc a ha).2.sz (by omega),((HOK9.out a ha c hc).2.sub (HOK9.out c hc a ha).2).sz (by omega)⟩)).mono ?_;rw[HSY.out];rintro e wj ⟨rfl,ej⟩;go_wp2_with fail;exact hK.out _ _ ej rfl
       obtain⟨_,s98,rfl⟩:=hA 22 98;obtain⟨_,s101,rfl⟩:=hA 25 101;rw[if_pos (by simp[Region.wanted,yielded,s98])];rotate_left;obtain⟨_,s92,rfl⟩:=hA 16 92;obtain⟨_,s98,rfl⟩:=hA 22 98;obtain⟨_,s102,rfl⟩:=hA 26 102;rw[if_pos (by simp[Region.wanted,yielded,s92])];rotate_left;obtain⟨_,s92,rfl⟩:=hA 16 92;obtain⟨_,s103,rfl⟩:=hA 27 103;rotate_left
       all_goals clear hB hA;go_simp;exact q_k hK rfl
      intro vals wz eZ hJ;have J104:vals 28=_:=hJ 28 (by decide) (by decide);clear hJ;simp only[pr,Nat.reduceAdd,J104];clear J104;refine qg (by kernel_rfl) ?_ _;go_wp2_with fail
      go_meet
      exact⟨rfl,eZ⟩
   obtain⟨rfl,hcut⟩:=hcut;obtain⟨w8,hw8⟩:∃w8,w8=wc:=⟨_,rfl⟩
   subst hw8;have HX8:=q_h hcut;have HE8:Hid (Ext w w8):=HE7.out.trans HX8.out;have HB8:=q_h (HX8.out.block HB7.out);have HB08:=q_h (HX8.out.block HB07.out);have HX68:Hid (Ext w6 w8):=(hEi.out.trans HX7.out).trans HX8.out;clear hcut HB7 HB07 a0 a1 a2 b0 b1 b2 d0 d1;obtain⟨a0,a1,a2,-⟩:=cells3 HB08.out;obtain⟨b0,b1,b2,-⟩:=cells3 HB8.out;cases shp with
   | false =>
    have HN:Hid (r=4):=HGO.out 4 (q6m HRG.out hshp.out.symm) (by decide);go_wp2
    first|go_ret|skip
    rw[hQ.out,HN.out];exact⟨rfl,HE8.out⟩
   | true =>
   obtain⟨ob,hob⟩:=qc (decide (0<i) && !Vj (Z.b (i-1)) (Z.b i));go_upto_region 22 with (fail)
   go_cut [142] (fun bv wx=>bv=.bool ob/\Ext w8 wx)
   case first =>
    by_cases hi0:i=0
    ·have t7:decide (0<(i:Int))=false:=q_f (by omega);have t7':decide (0<i)=false:=q_f (by omega);have HOB:Hid (ob=false):=by rw[Hid,hob.out,q_f (by omega)];rfl
     clear hi0
     go_quiet (fail)
     go_wp2
     go_meet
     exact⟨by rw[HOB.out],(Ext.refl _).drewN _⟩
    have t7:decide (0<(i:Int))=true:=q_t (by omega);have t7':decide (0<i)=true:=q_t (by omega);have hi00:0<i:=by omega
    obtain⟨i',hi'⟩:=qc (i-1);have hii:i'+1=i:=by have:=hi'.out;omega
    have t8:IntKind.i64.wrap ((i:Int)-1)=(i':Int):=by rw[wrp (by omega) (by omega)];omega
    obtain⟨d0,d1⟩:=HPV.out i' (by omega);replace d0:=(HX7.out.trans HX8.out).cell d0;replace d1:=(HX7.out.trans HX8.out).cell d1;obtain⟨pr,hpr⟩:=qc (Z.b i').r;obtain⟨pc,hpc⟩:=qc (Z.b i').c;rw[<-hpr.out] at d0;rw[<-hpc.out] at d1;have t9:(i':Int)<(n:Int):=by omega
    have t9':i' < n:=by omega
    clear hii
    have HOB:Hid (ob=!(decide (pr<(rr:Int))||decide (pr=(rr:Int))&&decide (pc<(cc:Int)))):=by
     rw[Hid,hob.out,q_t (by omega),Bool.true_and,<-hi'.out];unfold Vj;rw[<-hpr.out,<-hpc.out,<-hR.out,<-hC.out]
    by_cases h1:(rr:Int)<pr
    ·have t10:decide ((rr:Int)<pr)=true:=q_t h1;have HO1:Hid (ob=true):=by rw[Hid,HOB.out,q_f (by omega),q_f (by omega)];rfl
     clear h1
     go_quiet (fail)
     go_wp2
     go_meet
     exact⟨by rw[HO1.out],(Ext.refl _).drewN _⟩
    have t10:decide ((rr:Int)<pr)=false:=q_f h1
    by_cases h2:pr=(rr:Int)
    case neg =>
     have t11:(pr == (rr:Int))=false:=by simpa using h2
     have HO1:Hid (ob=false):=by rw[Hid,HOB.out,q_t (show pr<(rr:Int) by omega)];rfl
     clear h1 h2
     go_quiet (fail)
     go_wp2
     go_meet
     exact⟨by rw[HO1.out],(Ext.refl _).drewN _⟩
    have t11:(pr == (rr:Int))=true:=by simpa using h2
    have HO1:Hid (decide ((cc:Int)<=pc)=ob):=by
     rw[Hid,HOB.out,q_f (show ¬pr<(rr:Int) by omega),q_t h2,Bool.false_or,Bool.true_and,Bool.eq_iff_iff];simp only[decide_eq_true_eq,Bool.not_eq_true',decide_eq_false_iff_not];omega
    have t12:=HO1.out;clear h1 h2
    go_quiet (fail)
    go_wp2
    go_meet
    exact⟨rfl,(Ext.refl _).drewN _⟩
   obtain⟨rfl,hcut⟩:=hcut;have HE9:Hid (Ext w wc):=HE8.out.trans hcut;have HX9:Hid (Ext w6 wc):=HX68.out.trans hcut;clear hcut a0 a1 a2 b0 b1 b2;cases ob with
   | true =>
    have HN:Hid (r=5):=by
     have h9:=hob.out.symm;rw[Bool.and_eq_true,decide_eq_true_eq,Bool.not_eq_true'] at h9;exact HGO.out 5 (q6o HRG.out hshp.out.symm h9.1 h9.2) (by decide)
    go_wp2
    first|go_ret|skip
    rw[hQ.out,HN.out];exact⟨rfl,HE9.out⟩
   | false =>
    have HCK2:Hid (∀j,j<i+1->bkC Z j=0):=fun j hj=>by
     by_cases hji:j=i
     ·rw[hji];refine q7E HRG.out hshp.out.symm fun h0=>?_
      have h9:=hob.out.symm;rw[q_t h0,Bool.true_and,Bool.not_eq_false'] at h9;exact h9
     ·exact HCK.out j (by omega)
    go_wp2;go_roundw
    case rel=>exact⟨i+1,by omega,by go_num,HX9,HCK2⟩
    case measure=>simp[intOf];omega
def zN (Z:Sys) (i:Nat):Nat:=(Z.z i).toNat
theorem zN_ok {Z:Sys}(h:Okk Z):∀i,i<Z.ns->Z.z i=(zN Z i:Int):=fun i hi=>by
 have:=zQ.1 (h.szs i hi);unfold zN;omega
theorem q2x(h:kG R=true):Ht 17 (zl R):=by
 unfold kG at h;simp only[Bool.and_eq_true,decide_eq_true_eq] at h;obtain⟨⟨⟨h1,h2⟩,h3⟩,h4⟩:=h;rw[<-Xc h1] at h3;rw[<-Xc h2] at h4;have h5:(2:Nat) ^ 17=131072:=by decide
 have h6:∀(b:Bool) (l:List Nat),(yl b l).natAbs=val l:=fun b l=>by
  unfold yl;cases b<;>simp
 exact vS (by rw[h6];omega) (by rw[h6];omega) (by omega)
structure FewF (Z:Sys):Prop where
 ns:Z.ns<=14
 nb:Z.nb<=20
 br:BkBr Z
 kb:∀i,i<Z.k->kG (Z.R i)=true
 bz:∀i,i<Z.nb->q57 (Z.b i)
 kz:∀i,i<Z.k->jD (Z.R i)
 n7:yN Z=0->qm (zN Z) Z.ns<=7
theorem few_sys {Z:Sys}(h:q5Y Z=true):FewF Z:=by
 unfold q5Y at h;simp only[Bool.and_eq_true,decide_eq_true_eq] at h;obtain⟨⟨⟨⟨h1,h2⟩,h3⟩,h4⟩,h5⟩:=h
 have hbr:BkBr Z:=fun i hi a ha c hc=>by
  have h6:=ql.1 h5 i hi;unfold shM at h6;rw[Bool.and_eq_true,ql] at h6;have h7:=h6.2 a ha;unfold shB at h7;rw[Bool.and_eq_true,ql] at h7;exact h7.2 c hc
 have hkb:∀i,i<Z.k->kG (Z.R i)=true:=fun i hi=>by
  unfold shB at h3;rw[Bool.and_eq_true,ql] at h3;exact h3.2 i hi
 refine⟨h1,h2,hbr,hkb,fun i hi a ha c hc=>⟨(wH (hbr i hi a ha c hc)).1,(q2x (hbr i hi a ha c hc)).sz (by omega)⟩,fun i hi=>(wH (hkb i hi)).1,fun h0=>?_⟩;have h9:=ZY h0
 have hs:QI Z.ns Z.z=true:=by
  unfold QI;rw[q_t h9.n1,q_t h9.n2,ql.2 h9.szs,q_t h9.tot]
  rfl
 rw[hs,Bool.true_and,Bool.not_eq_true',decide_eq_false_iff_not,Vq Z.ns h9.szs,kw (zN_ok h9)] at h4;omega
end Go.Proofs.YtpkmjhmmmdkodaaGreat
namespace Go.Proofs.YtpkmjhmmmdkodaaGreat
open Go.RowKit Go.ChangeShapes Go.ChangeAt
variable {w:World} {N n lo hi i:Nat} {v:Value} {R:Raw}
theorem q2s:Tryz.prog.cellsOf 46=2:=by kernel_rfl
theorem q2q:Tryz.prog.cellsOf 48=4:=by kernel_rfl
theorem q0m:Tryz.prog.cellsOf 4=1:=by kernel_rfl
theorem q2p:Tryz.prog.cellsOf 150=1:=by kernel_rfl
theorem q0k:Tryz.prog.cellsOf 44=1:=by kernel_rfl
theorem q0l:Tryz.prog.cellsOf 24=1:=by kernel_rfl
section
variable {H:Type}{enc:TypeId×Value->H}{w:World}{spare:Nat->Bool}{held:Bool}
instance:Inhabited Raw:=⟨⟨false,[],false,[]⟩⟩
theorem jJ(a:Addr) (h:w.cell? (a.add 0)=some v):a=⟨a.block,a.off,none⟩:=by
 obtain⟨b,off,spot⟩:=a;have hs:=World.cell?_spot h;have h2:spot=none:=by simpa[Addr.add] using hs
 subst h2;rfl
theorem KI{x:DataW H×List MemPlace}(h:DataW.trod enc Tryz.prog w 0 spare held n 44 [v]=some x):∃l,Gs w.heap.size w v l:=by
 rcases Go.Deep.open_slice1 Tryz.underlying44 q2p h with ⟨hcs,-⟩|⟨a,len,cap,m,n',V,D,Pl,hcs,-,hl,hm,hmm,-,hx⟩
 ·simp only[List.cons.injEq,and_true] at hcs;subst hcs;exact⟨[],Gs.nil (q_r) _ (Nat.zero_le _)⟩
 ·simp only[List.cons.injEq,and_true] at hcs;subst hcs;have hlm:len<=m:=by rw[hmm];split<;>omega
  have hv:∀i,i<len->∃z:Nat,V i=.int .u32 (z:Int)/\z<4294967296:=fun i hi=>by
   obtain⟨-,h2⟩:=hx i (by omega);obtain⟨z,hz,-,hw⟩:=DataW.trod_int Tryz.underlying150 h2;simp only[List.cons.injEq,and_true] at hz;have hb:=bounds_u32 hw;exact⟨z.toNat,by rw[hz];congr 1;omega,by omega⟩
  obtain⟨f,hf⟩:=Go.Deep.choose_lt (α:=Nat) hv;refine⟨(List.range len).map f,q_r,_,len,cap,rfl,by simp,hl,hm,fun y hy=>?_,fun h0=>?_⟩
  ·obtain⟨i,hi,rfl⟩:=List.mem_map.1 hy;exact (hf i (by simpa using hi)).2
  ·have h1:=(hx 0 (by omega)).1;have ha:=jJ a h1;refine⟨a.block,a.off,by rw[<-ha],⟨?_,.inl ?_⟩,fun i hi=>?_⟩
   ·rw[ha,kM] at h1;exact cell_lt (p:=⟨a.block,a.off+0,none⟩) h1
   ·rw[ha,kM] at h1;exact cell_lt (p:=⟨a.block,a.off+0,none⟩) h1
   ·have h2:=(hx i (by omega)).1;rw[ha,kM,(hf i hi).1] at h2;rw[h2];simp[hi]
theorem YA{c0 c1 c2 c3:Value}{x:DataW H×List MemPlace}(h:DataW.trod enc Tryz.prog w 0 spare held n 48 [c0,c1,c2,c3]=some x) :
  ∃R:Raw,c0=.bool R.b1/\c2=.bool R.b2/\Gs w.heap.size w c1 R.l1/\Gs w.heap.size w c3 R.l2:=by
 obtain⟨y0,y1,n1,-,-,h0,h1⟩:=trod_struct2 Tryz.underlying48 h;simp only[q2s,List.drop_zero,List.take_succ_cons,List.take_zero,List.drop_succ_cons] at h0 h1;obtain⟨z0,z1,n2,-,-,k0,k1⟩:=trod_struct2 Tryz.underlying46 h0;obtain⟨z2,z3,n3,-,-,k2,k3⟩:=trod_struct2 Tryz.underlying46 h1;simp only[q0m,q0k,List.drop_zero,List.take_succ_cons,List.take_zero,List.drop_succ_cons] at k0 k1 k2 k3;obtain⟨b1,e1,-⟩:=DataW.trod_bool Tryz.underlying4 k0;obtain⟨b2,e2,-⟩:=DataW.trod_bool Tryz.underlying4 k2;obtain⟨l1,g1⟩:=KI k1;obtain⟨l2,g2⟩:=KI k3;simp only[List.cons.injEq,and_true] at e1 e2;exact⟨⟨b1,l1,b2,l2⟩,e1,e2,g1,g2⟩
theorem q06{x:DataW H×List MemPlace}(h:DataW.trod enc Tryz.prog w 0 spare held n 24 [v]=some x):∃k R,LsR w.heap.size 0 w.heap.size w v k R:=by
 rcases Go.Deep.open_slice Tryz.underlying24 h with ⟨hcs,-⟩|⟨a,len,cap,m,n',D,Pl,hcs,-,hl,hm,hmm,-,hx⟩
 ·simp only[List.cons.injEq,and_true] at hcs;subst hcs;exact⟨0,fun _=>default,q_r,q_r,_,_,rfl,q_r,Nat.zero_le _,fun h0=>absurd h0 (by omega)⟩
 ·simp only[List.cons.injEq,and_true] at hcs;subst hcs;have hlm:len<=m:=by rw[hmm];split<;>omega
  rw[q2q] at hx
  rcases Nat.eq_zero_or_pos len with hl0|hl0
  ·subst hl0;exact⟨0,fun _=>default,q_r,q_r,_,_,rfl,hl,hm,fun h0=>absurd h0 (by omega)⟩
  obtain⟨B,O,rfl⟩:∃B O,a=⟨B,O,none⟩:=by
   obtain⟨cs,h1,h2⟩:=hx 0 (by omega);obtain⟨-,hlen,hc⟩:=World.cells?_some h1;have k0:=hc 0 (by omega);have hz:(a.add (0*4)).add 0=a.add 0:=by rw[Go.Deep.add_add]
   rw[hz,List.getElem?_eq_getElem (by omega)] at k0;exact⟨_,_,jJ a k0⟩
  have hv:∀i,i<len->∃R:Raw,At4 w.heap.size w B (O+i*4) R:=fun i hi=>by
   obtain⟨cs,h1,h2⟩:=hx i (by omega);obtain⟨-,hlen,hc⟩:=World.cells?_some h1
   match cs,hlen with
   | [c0,c1,c2,c3],_ =>
    obtain⟨R,e0,e2,g1,g3⟩:=YA h2;have k0:=hc 0 (by omega);have k1:=hc 1 (by omega);have k2:=hc 2 (by omega);have k3:=hc 3 (by omega);rw[kM,kM] at k0 k1 k2 k3;refine⟨R,c1,c3,?_,?_,?_,?_,g1,g3⟩
    ·rw[<-e0];exact k0
    ·exact k1
    ·rw[<-e2];exact k2
    ·exact k3
  obtain⟨f,hf⟩:=Go.Deep.choose_lt (α:=Raw) hv;refine⟨len,f,q_r,q_r,_,cap,rfl,hl,hm,fun h0=>⟨B,O,rfl,Nat.zero_le _,?_,fun i hi=>hf i hi⟩⟩;obtain⟨s,t,k0,-⟩:=hf 0 h0;exact cell_lt k0
theorem WY{x:DataW H×List MemPlace}(h:DataW.trod enc Tryz.prog w 0 spare held n 42 [v]=some x):∃k L R,MtR w.heap.size 0 w.heap.size w v k L R:=by
 rcases Go.Deep.open_slice1 Tryz.underlying42 q0l h with ⟨hcs,-⟩|⟨a,len,cap,m,n',V,D,Pl,hcs,-,hl,hm,hmm,-,hx⟩
 ·simp only[List.cons.injEq,and_true] at hcs;subst hcs;exact⟨0,fun _=>0,fun _ _=>default,q_r,q_r,_,_,rfl,q_r,Nat.zero_le _,fun h0=>absurd h0 (by omega)⟩
 ·simp only[List.cons.injEq,and_true] at hcs;subst hcs;have hlm:len<=m:=by rw[hmm];split<;>omega
  rcases Nat.eq_zero_or_pos len with hl0|hl0
  ·subst hl0;exact⟨0,fun _=>0,fun _ _=>default,q_r,q_r,_,_,rfl,hl,hm,fun h0=>absurd h0 (by omega)⟩
  obtain⟨B,O,rfl⟩:∃B O,a=⟨B,O,none⟩:=⟨_,_,jJ a (hx 0 (by omega)).1⟩
  have hv:∀i,i<len->∃kR:Nat×(Nat->Raw),w.cell? ⟨B,O+i,none⟩=some (V i)/\LsR w.heap.size 0 w.heap.size w (V i) kR.1 kR.2:=fun i hi=>by
   obtain⟨h1,h2⟩:=hx i (by omega);rw[kM] at h1;obtain⟨k,R,hR⟩:=q06 h2;exact⟨(k,R),h1,hR⟩
  obtain⟨f,hf⟩:=Go.Deep.choose_lt (α:=Nat×(Nat->Raw)) hv;refine⟨len,fun i=>(f i).1,fun i=>(f i).2,q_r,q_r,_,cap,rfl,hl,hm,fun h0=>⟨B,O,rfl,Nat.zero_le _,cell_lt (hf 0 h0).1,fun i hi=>⟨V i,(hf i hi).1,(hf i hi).2⟩⟩⟩
end
theorem own:ownKnob Tryz.prog.godebug=none:=by kernel_rfl
theorem laidOut:laidOutB Tryz.prog=true:=by kernel_rfl
end Go.Proofs.YtpkmjhmmmdkodaaGreat
set_option maxRecDepth 100000
namespace Go.Proofs.YtpkmjhmmmdkodaaGreat
open Go.ChangeShapes Go.WideShapes Go.ChangeAt Go.RowKit Go.Joins
variable {w:World} {N n lo hi i:Nat} {v:Value} {R:Raw}
theorem Yd:Tryz.prog.cellsOf 3=1:=by kernel_rfl
section
variable {H:Type}{enc:TypeId×Value->H}{w:World}{spare:Nat->Bool}{held:Bool}
theorem q6H{x:DataW H×List MemPlace}(h:DataW.trod enc Tryz.prog w 0 spare held n 22 [v]=some x):∃k z,IzV w.heap.size 0 0 w v k z:=by
 rcases Go.Deep.open_slice1 Tryz.underlying22 Yd h with ⟨hcs,-⟩|⟨a,len,cap,m,n',V,D,Pl,hcs,-,hl,hm,hmm,-,hx⟩
 ·simp only[List.cons.injEq,and_true] at hcs;subst hcs;exact⟨0,fun _=>0,rfl,_,_,rfl,q_r,Nat.zero_le _,fun h0=>absurd h0 (by omega)⟩
 ·simp only[List.cons.injEq,and_true] at hcs;subst hcs;have hlm:len<=m:=by rw[hmm];split<;>omega
  have hv:∀i,i<len->∃z:Int,V i=.int .i64 z:=fun i hi=>by
   obtain⟨-,h2⟩:=hx i (by omega);obtain⟨z,hz,-,-⟩:=DataW.trod_int Tryz.underlying3 h2;simp only[List.cons.injEq,and_true] at hz;exact⟨z,hz⟩
  obtain⟨f,hf⟩:=Go.Deep.choose_lt (α:=Int) hv;refine⟨len,f,rfl,_,cap,rfl,hl,hm,fun h0=>?_⟩;have h1:=(hx 0 (by omega)).1;have ha:=jJ a h1;refine⟨a.block,a.off,by rw[<-ha],fun i hi=>?_⟩;have h2:=(hx i (by omega)).1;rw[ha,kM,hf i hi] at h2;exact h2
end
end Go.Proofs.YtpkmjhmmmdkodaaGreat
set_option maxRecDepth 100000
namespace Go.Proofs.YtpkmjhmmmdkodaaGreat
open Go.ChangeShapes Go.WideShapes Go.ChangeAt Go.RowKit Go.Joins
variable {w:World} {N n lo hi i:Nat} {v:Value} {R:Raw}
theorem q2r:Tryz.prog.cellsOf 42=1:=by kernel_rfl
theorem q2t:Tryz.prog.cellsOf 66=3:=by kernel_rfl
theorem q7y:Tryz.prog.cellsOf 26=3:=by kernel_rfl
section
variable {H:Type}{enc:TypeId×Value->H}{w:World}{spare:Nat->Bool}{held:Bool}
instance:Inhabited Bkk:=⟨⟨0,0,0,fun _=>0,fun _ _=>default⟩⟩
theorem Vh{c0 c1 c2:Value}{x:DataW H×List MemPlace}(h:DataW.trod enc Tryz.prog w 0 spare held n 66 [c0,c1,c2]=some x):∃B:Bkk,c0=.int .i64 B.r/\c1=.int .i64 B.c/\MtR w.heap.size 0 w.heap.size w c2 B.m B.L B.A:=by
 obtain⟨xs,m,-,-,-,hlen,hq⟩:=DataW.trod_struct Tryz.underlying66 h
 match xs,hlen with
 | [y0,y1,y2],_ =>
  have h0:DataW.trod enc Tryz.prog w 0 spare held m 3 (List.take (Tryz.prog.cellsOf 3) (List.drop 0 [c0,c1,c2]))=some y0:=hq 0 _ rfl;have h1:DataW.trod enc Tryz.prog w 0 spare held m 3 (List.take (Tryz.prog.cellsOf 3) (List.drop 1 [c0,c1,c2]))=some y1:=hq 1 _ rfl;have h2:DataW.trod enc Tryz.prog w 0 spare held m 42 (List.take (Tryz.prog.cellsOf 42) (List.drop 2 [c0,c1,c2]))=some y2:=hq 2 _ rfl;simp only[Yd,q2r,List.drop_zero,List.take_succ_cons,List.take_zero,List.drop_succ_cons] at h0 h1 h2;obtain⟨z0,e0,-⟩:=DataW.trod_int Tryz.underlying3 h0;obtain⟨z1,e1,-⟩:=DataW.trod_int Tryz.underlying3 h1;obtain⟨k,L,R,hm⟩:=WY h2;simp only[List.cons.injEq,and_true] at e0 e1;exact⟨⟨z0,z1,k,L,R⟩,e0,e1,hm⟩
theorem q6l{x:DataW H×List MemPlace}(h:DataW.trod enc Tryz.prog w 0 spare held n 23 [v]=some x):∃k B,q2R w.heap.size 0 w.heap.size w v k B:=by
 rcases Go.Deep.open_slice Tryz.underlying23 h with ⟨hcs,-⟩|⟨a,len,cap,m,n',D,Pl,hcs,-,hl,hm,hmm,-,hx⟩
 ·simp only[List.cons.injEq,and_true] at hcs;subst hcs;exact⟨0,fun _=>default,_,_,rfl,q_r,Nat.zero_le _,fun h0=>absurd h0 (by omega)⟩
 ·simp only[List.cons.injEq,and_true] at hcs;subst hcs;have hlm:len<=m:=by rw[hmm];split<;>omega
  rw[q2t] at hx
  rcases Nat.eq_zero_or_pos len with hl0|hl0
  ·subst hl0;exact⟨0,fun _=>default,_,_,rfl,hl,hm,fun h0=>absurd h0 (by omega)⟩
  obtain⟨B,O,rfl⟩:∃B O,a=⟨B,O,none⟩:=by
   obtain⟨cs,h1,h2⟩:=hx 0 (by omega);obtain⟨-,hlen,hc⟩:=World.cells?_some h1;have k0:=hc 0 (by omega);have hz:(a.add (0*3)).add 0=a.add 0:=by rw[Go.Deep.add_add]
   rw[hz,List.getElem?_eq_getElem (by omega)] at k0;exact⟨_,_,jJ a k0⟩
  have hv:∀i,i<len->∃Bk:Bkk,q58 w.heap.size 0 w.heap.size w B (O+i*3) Bk:=fun i hi=>by
   obtain⟨cs,h1,h2⟩:=hx i (by omega);obtain⟨-,hlen,hc⟩:=World.cells?_some h1
   match cs,hlen with
   | [c0,c1,c2],_ =>
    obtain⟨Bk,e0,e1,e2⟩:=Vh h2;have k0:=hc 0 (by omega);have k1:=hc 1 (by omega);have k2:=hc 2 (by omega);rw[kM,kM] at k0 k1 k2;obtain⟨A,c,hA,-⟩:=MtR.form e2;subst hA;refine⟨Bk,?_,?_,A,c,k2,e2⟩
    ·rw[<-e0];exact k0
    ·rw[<-e1];exact k1
  obtain⟨f,hf⟩:=Go.Deep.choose_lt (α:=Bkk) hv;exact⟨len,f,_,cap,rfl,hl,hm,fun h0=>⟨B,O,rfl,fun i hi=>hf i hi⟩⟩
end
end Go.Proofs.YtpkmjhmmmdkodaaGreat
