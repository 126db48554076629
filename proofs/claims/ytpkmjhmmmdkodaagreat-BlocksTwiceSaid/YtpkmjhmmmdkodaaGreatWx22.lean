import Derived.Test.YtpkmjhmmmdkodaaGreatWx21
set_option linter.all false
set_option maxHeartbeats 8000000
namespace Go.Proofs.YtpkmjhmmmdkodaaGreat
open Go.RowKit
variable {w w':World} {N n lo hi k g i m c b j:Nat} {v:Value} {R:Raw}
def YK (a b c d:Int):Int:=if wu a c≠0 then wu a c else wu b d
theorem q7c {a b c d:Int}:YK a b c d<=0↔¬(c<a\/(c=a/\d<b)):=by
 unfold YK wu
 rcases Int.lt_trichotomy a c with h|h|h
 ·simp only[if_pos h]
  simp
  omega
 ·subst h;simp only[if_neg (show ¬a<a by omega),if_true]
  rcases Int.lt_trichotomy b d with h|h|h
  ·simp[if_pos h];omega
  ·subst h
   simp
  ·simp[if_neg (show ¬b<d by omega),if_neg (show ¬b=d by omega)]
   omega
 ·simp only[if_neg (show ¬a<c by omega),if_neg (show ¬a=c by omega)]
  simp
  omega
theorem q0V{g':Nat}{a b c d:Int}(p0:w.cell? ⟨g,0,none⟩=some (.int .i64 a)) (p1:w.cell? ⟨g,1,none⟩=some (.int .i64 b)) (q0:w.cell? ⟨g',0,none⟩=some (.int .i64 c)) (q1:w.cell? ⟨g',1,none⟩=some (.int .i64 d)) :
  Calls Tryz.prog 79 #[.slice (some ⟨g,0,none⟩) 2 2,.slice (some ⟨g',0,none⟩) 2 2] w (zI w (.int .i64 (YK a b c d))):=by
 obtain⟨s,hs⟩:=qc (wu a c);obtain⟨t,ht⟩:=qc (wu b d);obtain⟨r,hr⟩:=qc (YK a b c d);rw[<-hr.out];have H1:Hid (s≠0->r=s):=fun h=>by rw[hr.out];unfold YK;rw[if_pos (by rw[<-hs.out];exact h),hs.out]
 have H2:Hid (s=0->r=t):=fun h=>by rw[hr.out];unfold YK;rw[if_neg (by rw[<-hs.out];omega),ht.out]
 clear hr;go_enter Tryz.func79,Tryz.ntmps79;go_wp2_with fail
 go_loopw [11] (fun iv wr=>∃i:Nat,i<=2/\iv=.int .i64 (i:Int)/\Hid (1<=i->s=0)/\Hid (i=2->t=0)/\Hid (w=wr)) (fun iv _=>2-(intOf iv).toNat)
 case atStart=>exact⟨0,Nat.zero_le _,rfl,fun h=>by omega,fun h=>by omega,rfl⟩
 case round =>
  obtain⟨i,hi,rfl,HS,HT,HW⟩:=hrel;have hw:=HW.out;subst hw;clear HW
  rcases (by omega:i=0\/i=1\/i=2) with rfl|rfl|rfl
  ·by_cases h:s=0
   ·have t1:(s != 0)=false:=by simpa using h
    have HS2:Hid (s=0):=h;clear h HS HT;go_wp2_with (go_at_call 133;refine (Qj _ _ _).mono ?_;rw[<-hs.out];rintro e w' ⟨rfl,rfl⟩);go_roundw
    case rel=>exact⟨1,by omega,by go_num,fun _=>HS2.out,fun h=>by omega,by first|rfl|trivial⟩
    case measure=>simp[intOf]
   ·have t1:(s != 0)=true:=by simpa using h
    obtain rfl:r=s:=H1.out h;clear h HS HT;go_wp2_with (go_at_call 133;refine (Qj _ _ _).mono ?_;rw[<-hs.out];rintro e w' ⟨rfl,rfl⟩);go_ret;exact⟨rfl,Ext.refl _⟩
  ·obtain rfl:r=t:=H2.out (HS.out (q_r))
   by_cases h:r=0
   ·have t1:(r != 0)=false:=by simpa using h
    have HT2:Hid (r=0):=h;have HS2:Hid (s=0):=HS.out (by omega);clear h HS HT;go_wp2_with (go_at_call 133;refine (Qj _ _ _).mono ?_;rw[<-ht.out];rintro e w' ⟨rfl,rfl⟩);go_roundw
    case rel=>exact⟨2,by omega,by go_num,fun _=>HS2.out,fun _=>HT2.out,by first|rfl|trivial⟩
    case measure=>simp[intOf]
   ·have t1:(r != 0)=true:=by simpa using h
    clear h HS HT;go_wp2_with (go_at_call 133;refine (Qj _ _ _).mono ?_;rw[<-ht.out];rintro e w' ⟨rfl,rfl⟩);go_ret;exact⟨rfl,Ext.refl _⟩
  ·obtain rfl:r=t:=H2.out (HS.out (by omega));obtain rfl:r=0:=HT.out rfl;go_wp2;go_ret;exact⟨rfl,Ext.refl _⟩
def q57 (B:Bkk):Prop:=∀a,a<B.m->∀c,c<B.L a->jD (B.A a c)/\Sz (zl (B.A a c))
theorem q58.box{o:Nat}{B:Bkk}(h:q58 N lo hi w b o B):∃(A:Option Addr) (c:Nat),w.cell? ⟨b,o,none⟩=some (.int .i64 B.r)/\w.cell? ⟨b,o+1,none⟩=some (.int .i64 B.c)/\w.cell? ⟨b,o+2,none⟩=some (.slice A B.m c)/\MtR N lo hi w (.slice A B.m c) B.m B.L B.A/\B.m<=9223372036854775807:=by
 obtain⟨h0,h1,A,c,h2,h3⟩:=h;refine⟨A,c,h0,h1,h2,h3,?_⟩;obtain⟨-,-,A9,c9,hv,h4,h5,-⟩:=h3;simp only[Value.slice.injEq] at hv;unfold maxLen at h5;omega
theorem q7D {Z:Sys}(h:(Z.b i).c<0\/(Z.b i).r<(Z.b i).c\/(Z.ns:Int)<=(Z.b i).r):bkC Z i=2:=by
 unfold bkC;rw[if_pos h]
theorem q7C {Z:Sys}(h:¬((Z.b i).c<0\/(Z.b i).r<(Z.b i).c\/(Z.ns:Int)<=(Z.b i).r)) (h':wW Z.z (Z.b i)=false):bkC Z i=4:=by
 unfold bkC;rw[if_neg h,if_pos h']
theorem Yg {B C:Bkk}:Vj B C=false↔¬(B.r<C.r\/(B.r=C.r/\B.c<C.c)):=by
 unfold Vj;rw[Bool.or_eq_false_iff,Bool.and_eq_false_iff,decide_eq_false_iff_not,decide_eq_false_iff_not,decide_eq_false_iff_not];omega
theorem q4V {Z:Sys}{lr lc:Int}(h:¬((Z.b i).c<0\/(Z.b i).r<(Z.b i).c\/(Z.ns:Int)<=(Z.b i).r)) (h':wW Z.z (Z.b i)=true) (h0:i=0->lr = -1/\lc = -1) (h1:0<i->lr=(Z.b (i-1)).r/\lc=(Z.b (i-1)).c) :
  (YK (Z.b i).r (Z.b i).c lr lc<=0->bkC Z i=5)/\(¬YK (Z.b i).r (Z.b i).c lr lc<=0->bkC Z i=0):=by
 unfold bkC;rw[if_neg h,if_neg (by rw[h'];decide),q7c]
 rcases Nat.eq_zero_or_pos i with hi|hi
 ·obtain⟨rfl,rfl⟩:=h0 hi;subst hi
  constructor
  ·intro h9;exact absurd (by omega) h9
  ·intro h9;rw[if_neg (by omega)]
 ·obtain⟨rfl,rfl⟩:=h1 hi
  constructor
  ·intro h9;rw[if_pos ⟨hi,Yg.2 h9⟩]
  ·intro h9;rw[if_neg (fun h8=>h9 (Yg.1 h8.2))]
set_option maxRecDepth 100000 in
theorem Jb{Z:Sys}(h:Qn N lo hi w v Z) (hB:∀i,i<Z.nb->q57 (Z.b i)) (hK:∀i,i<Z.k->jD (Z.R i)) :
  Calls Tryz.prog 35 #[v] w (zI w (.int .i64 (yN Z))):=by
 have HS:=q_h h;have HSZ:=q_h hB;have HKZ:=q_h hK;obtain⟨A1,c1,A2,c2,A3,c3,rfl,s1,s2,s3,k1,k2,k3⟩:=h.parts;have HI:=q_h s1;have HB:=q_h s2;have HL:=q_h s3;obtain⟨r,hr⟩:=qc (yN Z);rw[<-hr.out];have F1:Hid (ZF Z=false->r=1):=fun h=>by rw[hr.out];unfold yN;rw[if_pos h]
 have F3:Hid (ZF Z=true->Z4 Z=false->r=3):=fun h h'=>by rw[hr.out];unfold yN;rw[if_neg (by rw[h];decide),if_pos h']
 have F2:Hid (ZF Z=true->Z4 Z=true->∀i,i<Z.nb->(∀j,j<i->bkC Z j=0)->bkC Z i≠0->r=bkC Z i):=fun h h' i hi hj h0=>by
  have e:=XR hi hj h0;rw[hr.out];unfold yN;rw[if_neg (by rw[h];decide),if_neg (by rw[h'];decide),if_pos (by rw[e];exact h0),e]
 have F0:Hid (ZF Z=true->Z4 Z=true->(∀i,i<Z.nb->bkC Z i=0)->r=if (Z.k:Int)=xZ Z.z Z.ns then 0 else 4):=fun h h' hi=>by
  rw[hr.out];unfold yN;rw[if_neg (by rw[h];decide),if_neg (by rw[h'];decide),if_neg (by rw[vT hi];decide)]
 clear h s1 s2 s3 hr hB hK;obtain⟨n,hn⟩:=qc Z.nb;rw[<-hn.out] at k2;obtain⟨ns,hns⟩:=qc Z.ns;obtain⟨kk,hkk⟩:=qc Z.k;rw[<-hkk.out] at k3;go_enter Tryz.func35,Tryz.ntmps35;go_upto_region 1 with (fail);refine qp ?_;intro w1 hE hsz B0;rw[<-hn.out,<-hns.out,<-hkk.out] at B0;obtain⟨g1,hg1⟩:=qc w.heap.size;have hg1':w.heap.size<=g1:=by rw[hg1.out];exact q_r
 have hg1s:g1<w1.heap.size:=by rw[hg1.out];omega
 rw[<-hg1.out] at B0 ⊢;clear hg1 hsz;obtain⟨a0,a1,a2,-⟩:=cells3 B0;go_wp2_with fail
 go_loopw [15] (fun iv wr=>∃i:Nat,i<=n/\iv=.int .i64 (i:Int)/\Ext w1 wr/\Hid (∀j,j<i->Ve (Z.b j)=true)) (fun iv _=>n-(intOf iv).toNat)
 case atStart=>exact⟨0,Nat.zero_le _,rfl,Ext.refl _,fun j hj=>absurd hj (Nat.not_lt_zero j)⟩
 case round =>
  obtain⟨i,hi,rfl,hE1,HC⟩:=hrel;clear a0 a1 a2;obtain⟨a0,a1,a2,-⟩:=cells3 (hE1.block B0)
  by_cases hlt:i<n
  case pos =>
   have t1:decide ((i:Int)<(n:Int))=true:=q_t (by omega);have t2:(i:Int)<(n:Int):=by omega
   have HBi:=(HB.out.ext (hE.trans hE1))
   rw[<-hn.out] at HBi;obtain⟨b,off,rfl,hx⟩:=HBi.addr (by omega);obtain⟨Ab,cb,p0,p1,p2,hM,hm9⟩:=(hx i hlt).box;have HM:=q_h hM;obtain⟨m,hm⟩:=qc (Z.b i).m;rw[<-hm.out] at p2 hm9 HM;obtain⟨br,hbr⟩:=qc (Z.b i).r;obtain⟨bc,hbc⟩:=qc (Z.b i).c;rw[<-hbr.out] at p0;rw[<-hbc.out] at p1;clear hx hM HBi;go_upto_region 4 with (fail);refine qp ?_;intro w3 e3 hsz3 B3;clear p0 p1 p2 a0 a1 a2;obtain⟨b0,b1,b2,-⟩:=cells3 B3;have hE3:=hE1.trans e3;obtain⟨ws,hws⟩:∃ws,ws=w3:=⟨_,rfl⟩
   subst hws;go_wp2_with fail
   go_loopw [22] (fun jv wr=>∃j:Nat,j<=m/\jv=.int .i64 (j:Int)/\Ext ws wr/\Hid (∀q,q<j->allB ((Z.b i).L q) (fun c=>okR ((Z.b i).A q c))=true)) (fun jv _=>m-(intOf jv).toNat)
   case atStart=>exact⟨0,Nat.zero_le _,rfl,Ext.refl _,fun j hj=>absurd hj (Nat.not_lt_zero j)⟩
   case round =>
    obtain⟨j,hj,rfl,hE4,HQ⟩:=hrel;clear b0 b1 b2
    by_cases hlt2:j<m
    case neg =>
     have t3:decide ((j:Int)<(m:Int))=false:=q_f (by omega)
     have HC2:Hid (∀j,j<i+1->Ve (Z.b j)=true):=fun q hq=>by
      by_cases hqi:q=i
      ·subst hqi;unfold Ve;rw[ql];intro a ha;exact HQ.out a (by have:=hm.out;omega)
      ·exact HC.out q (by omega)
     have hE5:=hE3.trans hE4;go_wp2;go_roundw
     case rel=>exact⟨i+1,by omega,by go_num,hE5,HC2⟩
     case measure=>simp[intOf];omega
    have t3:decide ((j:Int)<(m:Int))=true:=q_t (by omega);have t4:(j:Int)<(m:Int):=by omega
    obtain⟨bb,ob,A',c',rfl,q0,hrow,hLj⟩:=XA (HM.out.ext (e3.trans hE4)) hlt2;have HROW:=q_h hrow;have HRZ:Hid (∀c,c<(Z.b i).L j->jD ((Z.b i).A j c)):=fun c hc=>(HSZ.out i (by rw[<-hn.out];exact hlt) j (by rw[<-hm.out];exact hlt2) c hc).1
    have HCAN:=q_h (Zz hrow HRZ.out);obtain⟨lj,hlj⟩:=qc ((Z.b i).L j);obtain⟨o,ho⟩:=qc (allB ((Z.b i).L j) (fun c=>okR ((Z.b i).A j c)));rw[<-ho.out,<-hlj.out] at HCAN;rw[<-hlj.out] at q0 hLj;clear hrow;go_wp2_with (go_at_call 88;refine q_o ?_);refine (HCAN.out).mono ?_;rintro e w6 ⟨rfl,e6⟩;cases o with
    | true =>
     have HQ2:Hid (∀q,q<j+1->allB ((Z.b i).L q) (fun c=>okR ((Z.b i).A q c))=true):=fun q hq=>by
      by_cases hqj:q=j
      ·rw[hqj];exact ho.out.symm
      ·exact HQ.out q (by omega)
     have hE6:=hE4.trans e6;clear q0;go_wp2;go_roundw
     case rel=>exact⟨j+1,by omega,by go_num,hE6,HQ2⟩
     case measure=>simp[intOf];omega
    | false =>
     have HR:Hid (r=1):=F1.out (by
      unfold ZF;have:Ve (Z.b i)=false:=qE (i:=j) (by rw[<-hm.out];exact hlt2) ho.out.symm
      rw[qE (i:=i) (by rw[<-hn.out];exact hlt) this,Bool.false_and])
     have hE6:=(hE.trans hE3).trans (hE4.trans e6);clear q0;go_wp2;go_ret;exact⟨qK HR.out.symm,hE6⟩
  have t1:decide ((i:Int)<(n:Int))=false:=q_f (by omega);have hE2:=hE.trans hE1;have HCB:Hid (∀j,j<n->Ve (Z.b j)=true):=fun j hj=>HC.out j (by omega)
  replace B0:=hE1.block B0;have hgs:=Nat.lt_of_lt_of_le hg1s hE1.size;obtain⟨wA,hwA⟩:∃wA,wA=wr:=⟨_,rfl⟩
  subst hwA;have HCR:=q_h (Zz (HL.out.ext hE2) HKZ.out);obtain⟨o,ho⟩:=qc (allB Z.k (fun i=>okR (Z.R i)));rw[<-ho.out,<-hkk.out] at HCR
  have HCS:Hid (ZF Z=o):=by
   rw[Hid,ho.out];unfold ZF;rw[ql.2 (fun j hj=>HCB.out j (by rw[hn.out];exact hj)),Bool.true_and]
  clear HC hE hE1;go_wp2_with (go_at_call 88;refine q_o ?_);refine (HCR.out).mono ?_;rintro e w6 ⟨rfl,e6⟩;have hE6:=hE2.trans e6;cases o with
  | false =>
   have HR:Hid (r=1):=F1.out HCS.out;go_wp2;go_ret;exact⟨qK HR.out.symm,hE6⟩
  | true =>
  clear a0 a1 a2 HCR;replace B0:=e6.block B0;replace hgs:=Nat.lt_of_lt_of_le hgs e6.size;obtain⟨a0,a1,a2,-⟩:=cells3 B0;have HZS:=q_h (q6r (HS.out.ext hE6));rw[<-hns.out,<-hn.out,<-hkk.out] at HZS;obtain⟨sb,hsb⟩:=qc (Z4 Z);rw[<-hsb.out] at HZS;obtain⟨q,hq⟩:=qc (if sb=true then (0:Int) else 3);rw[<-hq.out] at HZS;go_wp2_with (go_at_call 89;refine q_o ?_);refine (HZS.out).mono ?_;rintro e w7 ⟨rfl,e7⟩;replace hE6:=hE6.trans e7;replace B0:=e7.block B0;replace hgs:=Nat.lt_of_lt_of_le hgs e7.size;clear a0 a1 a2 HZS;cases sb with
  | false =>
   obtain rfl:q=3:=hq.out;have HR:Hid (r=3):=F3.out HCS.out hsb.out.symm;go_wp2;go_ret;exact⟨qK HR.out.symm,hE6⟩
  | true =>
  obtain rfl:q=0:=hq.out;clear hq;go_upto_region 17 with (fail);refine qp ?_;intro w8 e8 hsz8 B8;obtain⟨g8,hg8⟩:=qc w7.heap.size;have hg8':w.heap.size<=g8:=by have:=hE6.size;rw[hg8.out];omega
  have hg81:g1<g8:=by rw[hg8.out];exact hgs
  have hg8s:g8<w8.heap.size:=by rw[hg8.out];omega
  rw[<-hg8.out] at B8 ⊢;replace hE6:=hE6.trans e8;replace B0:=e8.block B0;clear hg8 hsz8 hgs e8 e7 e6 hE2 hg1s;obtain⟨a0,a1,a2,-⟩:=cells3 B0;go_wp2_with fail
  go_loopw [44] (fun iv wr=>∃(i:Nat) (lr lc:Int),i<=n/\iv=.int .i64 (i:Int)/\Ext w wr/\Hid (wr.heap[g1]?=some (.cells #[.slice A1 ns c1,.slice A2 n c2,.slice A3 kk c3] 26 (0,0)))/\Hid (wr.heap[g8]?=some (.cells #[.int .i64 lr,.int .i64 lc] 69 (0,0)))/\g8<wr.heap.size/\Hid (i=0->lr = -1/\lc = -1)/\Hid (0<i->lr=(Z.b (i-1)).r/\lc=(Z.b (i-1)).c)/\Hid (∀j,j<i->bkC Z j=0)) (fun iv _=>n-(intOf iv).toNat)
  case atStart=>exact⟨0,-1,-1,Nat.zero_le _,rfl,hE6,B0,B8,hg8s,fun _=>⟨rfl,rfl⟩,fun h=>absurd h (by omega),fun j hj=>absurd hj (Nat.not_lt_zero j)⟩
  case round =>
   clear a0 a1 a2 B0 B8 hg8s hE6 hi hlt t1;obtain⟨i,lr,lc,hi,rfl,hE1,HB0,HB8,hg8s,HL0,HL1,HC⟩:=hrel
   by_cases hlt:i<n
   case neg =>
    have t1:decide ((i:Int)<(n:Int))=false:=q_f (by omega);have HR:=q_h (F0.out HCS.out hsb.out.symm (fun j hj=>HC.out j (by have:=hn.out;omega)));have B0:=HB0.out;obtain⟨a0,a1,a2,-⟩:=cells3 B0;obtain⟨T,hT⟩:=qc (xZ Z.z Z.ns)
    have HSZB:Hid (Z.ns<=12/\∀i,i<Z.ns->sz1 (Z.z i)=true):=by
     have h9:=hsb.out.symm;unfold Z4 at h9;simp only[Bool.and_eq_true,decide_eq_true_eq] at h9;exact⟨h9.1.2,ql.1 h9.2.1⟩
    rw[<-hT.out,<-hkk.out] at HR
    have HTT:Hid (∀w',Ext wr w'->Calls Tryz.prog 91 #[.agg #[.slice A1 ns c1,.slice A2 n c2,.slice A3 kk c3]] w' (zI w' (.int .i64 T))):=fun w' e=>by
     rw[hns.out,hn.out,hkk.out,hT.out];exact q2E (HS.out.ext (hE1.trans e)) HSZB.out.1 HSZB.out.2
    obtain⟨wx,hwx⟩:∃wx,wx=wr:=⟨_,rfl⟩
    subst hwx;clear B0;go_upto_region 29 with (fail);refine jL [Mn.q g1 2,Mn.eq (.slice A3 kk c3),Mn.i (kk:Int),Mn.eq (.agg #[.slice A1 ns c1,.slice A2 n c2,.slice A3 kk c3]),Mn.i T,Mn.t ((kk:Int) != T)] (sM [84,85,86,87,88,89]) [] (rQ 6 0) 0 (by kernel_rfl) ?_ ?_
    ·show ∀i,i<6->_
     iterate 6 refine fs ?_ ?_
     ·exact fz
     all_goals intro hl;clear hl;refine stp rfl ?_;intro ac wi eI hB hA K hK
     have o1:=oOf (hB 1) rfl;rotate_left;obtain⟨_,s84,rfl⟩:=hA 0 84;have cc0:=eI.cell a2;rotate_left;obtain⟨_,s85,rfl⟩:=hA 1 85;rotate_left;have o1:=oOf (hB 1) rfl;have cc0:=eI.cell a0;have cc1:=eI.cell a1;have cc2:=eI.cell a2;rotate_left;obtain⟨_,s87,rfl⟩:=hA 3 87;clear hB hA
     ·go_simp;refine (HTT.out _ eI).mono ?_;rintro e wj ⟨rfl,ej⟩;go_wp2_with fail;exact hK.out _ _ ej rfl
     obtain⟨_,s86,rfl⟩:=hA 2 86;obtain⟨_,s88,rfl⟩:=hA 4 88;rotate_left
     all_goals clear hB hA;go_simp;exact q_k hK rfl
    intro vals wz eZ hJ;have J89:vals 5=_:=hJ 5 (by decide) (by decide);clear hJ;simp only[pr,Nat.reduceAdd,J89];clear J89;refine qg (by kernel_rfl) ?_ _;have hE2:=hE1.trans eZ;clear a0 a1 a2 eZ
    by_cases h:(kk:Int)=T
    ·have t2:((kk:Int) != T)=false:=by simpa using h
     obtain rfl:r=0:=by rw[HR.out,if_pos h]
     clear h;go_wp2;go_ret;exact⟨rfl,hE2⟩
    ·have t2:((kk:Int) != T)=true:=by simpa using h
     obtain rfl:r=4:=by rw[HR.out,if_neg h]
     clear h;go_wp2;go_ret;exact⟨rfl,hE2⟩
   have t1:decide ((i:Int)<(n:Int))=true:=q_t (by omega);have t2:(i:Int)<(n:Int):=by omega
   have HBi:=HB.out.ext hE1;rw[<-hn.out] at HBi;obtain⟨b,off,rfl,hx⟩:=HBi.addr (by omega);obtain⟨Ab,cb,p0,p1,p2,hM,hm9⟩:=(hx i hlt).box;have HM:=q_h hM;obtain⟨m,hm⟩:=qc (Z.b i).m;rw[<-hm.out] at p2 hm9;obtain⟨br,hbr⟩:=qc (Z.b i).r;obtain⟨bc,hbc⟩:=qc (Z.b i).c;rw[<-hbr.out] at p0;rw[<-hbc.out] at p1;have F2i:Hid (bkC Z i≠0->r=bkC Z i):=fun h=>F2.out HCS.out hsb.out.symm i (by rw[<-hn.out];exact hlt) HC.out h
   have F5:Hid (bc<0\/br<bc\/(ns:Int)<=br->r=2):=fun h=>by
    have e:=q7D (Z:=Z) (i:=i) (by rw[<-hbr.out,<-hbc.out,<-hns.out];exact h);rw[F2i.out (by rw[e];decide),e]
   have F6:Hid (¬(bc<0\/br<bc\/(ns:Int)<=br)->wW Z.z (Z.b i)=false->r=4):=fun h h'=>by
    have e:=q7C (Z:=Z) (i:=i) (by rw[<-hbr.out,<-hbc.out,<-hns.out];exact h) h';rw[F2i.out (by rw[e];decide),e]
   have F7:Hid (¬(bc<0\/br<bc\/(ns:Int)<=br)->wW Z.z (Z.b i)=true->YK br bc lr lc<=0->r=5):=fun h h' h9=>by
    have e:=(q4V (Z:=Z) (i:=i) (lr:=lr) (lc:=lc) (by rw[<-hbr.out,<-hbc.out,<-hns.out];exact h) h' HL0.out HL1.out).1 (by rw[<-hbr.out,<-hbc.out];exact h9);rw[F2i.out (by rw[e];decide),e]
   have F8:Hid (¬(bc<0\/br<bc\/(ns:Int)<=br)->wW Z.z (Z.b i)=true->¬YK br bc lr lc<=0->bkC Z i=0):=fun h h' h9 =>
    (q4V (Z:=Z) (i:=i) (lr:=lr) (lc:=lc) (by rw[<-hbr.out,<-hbc.out,<-hns.out];exact h) h' HL0.out HL1.out).2 (by rw[<-hbr.out,<-hbc.out];exact h9)
   clear hx hM HBi;go_upto_region 20 with (fail);refine qp ?_;intro w3 e3 hsz3 B3;obtain⟨g3,hg3⟩:=qc wr.heap.size;rw[<-hg3.out] at B3 ⊢;have hg83:g8<g3:=by rw[hg3.out];exact hg8s
   clear p0 p1 p2;obtain⟨b0,b1,b2,-⟩:=cells3 B3;have hs3:g3<w3.heap.size:=by rw[hg3.out];omega
   go_upto_region 21 with (fail);refine qp ?_;intro w4 e4 hsz4 B4;obtain⟨g4,hg4⟩:=qc w3.heap.size;rw[<-hg4.out] at B4 ⊢;have hg84:g8<g4:=by rw[hg4.out];omega
   clear b0 b1 b2;obtain⟨b0,b1,b2,-⟩:=cells3 (e4.block B3);replace e3:=e3.trans e4;have hE3:=hE1.trans e3;clear hg3 hg4 hsz3 hsz4 hs3 B3
   by_cases c0:bc<0
   ·have t3:decide (bc<0)=true:=decide_eq_true c0;have HR:Hid (r=2):=F5.out (.inl c0);clear c0;go_wp2;go_ret;exact⟨qK HR.out.symm,hE3⟩
   have t3:decide (bc<0)=false:=decide_eq_false c0
   by_cases c1:br<bc
   ·have t4:decide (br<bc)=true:=decide_eq_true c1;have HR:Hid (r=2):=F5.out (.inr (.inl c1));clear c0 c1;go_wp2;go_ret;exact⟨qK HR.out.symm,hE3⟩
   have t4:decide (br<bc)=false:=decide_eq_false c1;have B0:=e3.block HB0.out;obtain⟨a0,a1,a2,-⟩:=cells3 B0
   by_cases c2:(ns:Int)<=br
   ·have t5:decide ((ns:Int)<=br)=true:=decide_eq_true c2;have HR:Hid (r=2):=F5.out (.inr (.inr c2));clear c0 c1 c2;go_wp2;go_ret;exact⟨qK HR.out.symm,hE3⟩
   have t5:decide ((ns:Int)<=br)=false:=decide_eq_false c2;have HNB:Hid (¬(bc<0\/br<bc\/(ns:Int)<=br)):=by rw[Hid];omega
   have HIN:Hid (0<=(Z.b i).c/\(Z.b i).c<=(Z.b i).r/\(Z.b i).r<(Z.ns:Int)):=by rw[Hid,<-hbr.out,<-hbc.out,<-hns.out];omega
   have HIB:Hid (i<Z.nb):=by rw[Hid,<-hn.out];exact hlt
   have HSH:=q_h (q4m (HS.out.ext hE3) (HM.out.ext e3) HIN.out.1 HIN.out.2.1 HIN.out.2.2 (HCB.out i hlt) (fun a ha c hc=>(HSZ.out i HIB.out a ha c hc).2));rw[<-hns.out,<-hn.out,<-hkk.out,<-hm.out,<-hbr.out,<-hbc.out] at HSH;obtain⟨o,ho⟩:=qc (wW Z.z (Z.b i));rw[<-ho.out] at HSH;clear c0 c1 c2;go_upto_region 23 with (fail);go_wp2_with (go_at_call 90;refine q_o ?_);refine (HSH.out).mono ?_;rintro e w5 ⟨rfl,e5⟩;have hE5:=hE3.trans e5;cases o with
   | false =>
    have HR:Hid (r=4):=F6.out HNB.out ho.out.symm;go_wp2;go_ret;exact⟨qK HR.out.symm,hE5⟩
   | true =>
   clear HSH a0 a1 a2 b0 b1 b2;replace e3:=e3.trans e5;have B0:=e3.block HB0.out;have B8:=e3.block HB8.out;replace B4:=e5.block B4;have hs5:=e3.size;go_upto_region 25 with (fail);obtain⟨q0,q1,q2,q3⟩:=cells2 B8;obtain⟨p0,p1,-⟩:=cells2 B4;obtain⟨s,hs⟩:=qc (YK br bc lr lc);obtain⟨wx,hwx⟩:∃wx,wx=w5:=⟨_,rfl⟩
   subst hwx;refine jL [Mn.eq (.slice (some ⟨g4,0,none⟩) 2 2),Mn.eq (.slice (some ⟨g8,0,none⟩) 2 2),Mn.i s,Mn.t (decide (s<=0)),Mn.t (decide (s<=0))] (sM [78,79,80,81,77]) [] (rQ 5 0) 0 (by kernel_rfl) ?_ ?_
   ·show ∀i,i<5->_
    iterate 5 refine fs ?_ ?_
    ·exact fz
    all_goals intro hl;clear hl;refine stp rfl ?_;intro ac wi eI hB hA K hK
    have o11:=oOf (hB 11) rfl;rotate_left;have o8:=oOf (hB 8) rfl;rotate_left;obtain⟨_,s78,rfl⟩:=hA 0 78;obtain⟨_,s79,rfl⟩:=hA 1 79;clear hB hA
    ·go_simp;refine (q0V (eI.cell p0) (eI.cell p1) (eI.cell q0) (eI.cell q1)).mono ?_;rw[<-hs.out];rintro e wj ⟨rfl,ej⟩;go_wp2_with fail;exact hK.out _ _ ej rfl
    obtain⟨_,s80,rfl⟩:=hA 2 80;rotate_left;obtain⟨_,s81,rfl⟩:=hA 3 81;rotate_left
    all_goals clear hB hA;go_simp;exact q_k hK rfl
   intro vals wz eZ hJ;have J77:vals 4=_:=hJ 4 (by decide) (by decide);clear hJ;simp only[pr,Nat.reduceAdd,J77];clear J77;refine qg (by kernel_rfl) ?_ _;have hE6:=hE5.trans eZ
   by_cases h5:s<=0
   ·rw[q_t h5];have HR:Hid (r=5):=F7.out HNB.out ho.out.symm (by rw[<-hs.out];exact h5);clear h5;go_wp2;go_ret;exact⟨qK HR.out.symm,hE6⟩
   rw[q_f h5];have HZ0:Hid (bkC Z i=0):=F8.out HNB.out ho.out.symm (by rw[<-hs.out];omega)
   have HCN:Hid (∀j,j<i+1->bkC Z j=0):=fun j hj=>by
    by_cases hji:j=i
    ·rw[hji];exact HZ0.out
    ·exact HC.out j (by omega)
   clear h5 p0 p1 q0 q1 q2 q3;replace B0:=eZ.block B0;replace B8:=eZ.block B8;obtain⟨p0,p1,-⟩:=cells2 (eZ.block B4);obtain⟨q0,q1,q2,q3⟩:=cells2 B8;have hsz9:wr.heap.size<=wz.heap.size:=(e3.trans eZ).size;go_upto_region 28 with (fail);refine upd2 B8 ?_;intro w9 B9 U9;have hE9:=U9.ext hE6 hg8';have B09:=U9.blk B0 (by omega);have hs9:=U9.size;have HL8:Hid (0<i+1->br=(Z.b (i+1-1)).r/\bc=(Z.b (i+1-1)).c):=fun _=>⟨hbr.out,hbc.out⟩
   clear p0 p1 q0 q1 q2 q3 B8 B0 B4 U9;go_wp2;go_roundw
   case rel=>exact⟨i+1,br,bc,by omega,by go_num,hE9,B09,B9,by omega,fun h=>by omega,HL8.out,HCN⟩
   case measure=>simp[intOf];omega
theorem q5F:One 42 (.slice none 0 0) 24:=⟨by kernel_rfl,rfl,by omega,by decide⟩
theorem q76:42≠150:=by decide
theorem q5K:48≠150:=by decide
theorem StM.far {B0 B1 l u:Nat}{bz oz gm gr:Nat}{z:Nat->Nat}{F:Nat->Nat->Nat->Nat->Rat}{R:q_m}(h:StM N B0 B1 w bz oz gm gr m z F R) (C:Chg l u w w') (hl:B0<=l) (hu:u<=B1) (h1:gm<l\/u<=gm) (h2:gr<l\/u<=gr):StM N B0 B1 w' bz oz gm gr m z F R:=by
 obtain⟨⟨s1,s2⟩,⟨l',h3,h4⟩,⟨cs,h5,h6⟩,h7,h8,h9,h10⟩:=h;refine⟨⟨s1,fun a ha=>C.cell (s2 a ha) (by show bz<l\/u<=bz;omega)⟩,⟨l',?_,fun r c hc hr=>(h4 r c hc hr).chg C (by omega) hl hu⟩,⟨cs,C.blk h5 h2,fun i hi=>?_⟩,h7,h8,h9,q_l h10 C.size⟩
 ·obtain⟨es,q,h11,h12⟩:=h3;exact⟨es,q,C.blk h11 h1,h12⟩
 ·obtain⟨v,h11,h12⟩:=h6 i hi;exact⟨v,h11,h12.chg C (by omega) hl hu⟩
def q0C (N:Nat) (w:World) (g n:Nat) (S:Nat->Prop) (x:q_v):Prop :=
 N<=g/\(∃cs,w.heap[g]?=some (.cells cs 48 (0,0))/\cs.size=n*4)/\∀i,i<n->S i->At4 N w g (i*4) (raw (x i))
theorem q0C.lt{S:Nat->Prop}{x:q_v}(h:q0C N w g n S x):g<w.heap.size:=by
 obtain⟨-,⟨cs,h1,-⟩,-⟩:=h;exact qF h1
theorem At4.ext'{o:Nat}(h:At4 N w b o R) (e:Ext w w'):At4 N w' b o R:=by
 obtain⟨s',t',d0,d1,d2,d3,g1,g2⟩:=h;exact⟨s',t',e.cell d0,e.cell d1,e.cell d2,e.cell d3,g1.ext e,g2.ext e⟩
theorem q0C.ext{S:Nat->Prop}{x:q_v}(h:q0C N w g n S x) (e:Ext w w'):q0C N w' g n S x:=by
 obtain⟨h0,⟨cs,h1,h2⟩,h3⟩:=h;exact⟨h0,⟨cs,e.block h1,h2⟩,fun i hi hs=>(h3 i hi hs).ext' e⟩
theorem q0C.part{S:Nat->Prop}{x:q_v}(h:q0C N w g n S x){l s:Nat}(hs:l+s<=n) (hS:∀i,i<s->S (l+i)) (hc:s<=c) (hm:c<=maxLen) :
  LsV N g (g+1) w (.slice (some ⟨g,l*4,none⟩) s c) s (fun i=>x (l+i)):=by
 have hl:=h.lt;have hN:=h.1;refine⟨by omega,by omega,_,c,rfl,hc,hm,fun _=>⟨g,l*4,rfl,q_r,by omega,fun i hi=>?_⟩⟩;have h9:=h.2.2 (l+i) (by omega) (hS i hi);rw[show (l+i)*4=l*4+i*4 by omega] at h9;exact h9
theorem Jp(t ty:TypeId) (ht:Tryz.prog.underlying t=some (.slice 48)){S:Nat->Prop}{x:q_v}(h:q0C N w g n S x){u:Value}{s l:Nat}{y:q_v}(hy:LsV N lo hi w u s y) (hsn:l+s<=n) (hyx:∀j,j<s->y j=x (l+j)) (h0:0<s){dc:Nat} :
  ∃w',(Builtin.copy_ #[t,t] ty #[.slice (some ⟨g,l*4,none⟩) (n-l) dc,u]).run Tryz.prog w=.ok (.int .i64 ((s:Nat):Int)) w'/\q0C N w' g n (fun i=>S i\/(l<=i/\i<l+s)) x/\Chg g (g+1) w w'/\w'.heap.size=w.heap.size:=by
 obtain⟨A,sc,rfl,-,-⟩:=LsR.form hy;obtain⟨b,so,rfl,-,-,hs⟩:=LsV.addr hy h0;obtain⟨i0,hi0,hz0,hz1,hz2⟩:=info_parts yc;have hn:Nat.min s (n-l)=s:=Nat.min_eq_left (by omega);have hN:=h.1;obtain⟨cs0,ha3,ha3'⟩:=h.2.1
 have hone:∀j,j<s*4->∃v,w.cell? ⟨b,so+j,none⟩=some v/\v.oneCell'=true:=by
  intro j hj;have:=(hs (j / 4) (by omega)).one (r:=j % 4) (by omega)
  rwa [show so+j / 4*4+j % 4=so+j by omega] at this
 obtain⟨cs,hcs⟩:∃cs,cs=(List.range (s*4)).map (fun j=>(w.cell? ⟨b,so+j,none⟩).getD undef):=⟨_,rfl⟩
 have hlen:cs.length=s*4:=by rw[hcs];simp
 have hat:∀j v,cs[j]?=some v->w.cell? ⟨b,so+j,none⟩=some v:=by
  intro j v hv;have hj:j<cs.length:=(List.getElem?_eq_some_iff.1 hv).1;rw[hlen] at hj;obtain⟨u,hu,-⟩:=hone j hj;rw[hcs] at hv;simp[hj,hu] at hv
  rw[hu,hv]
 have h1:∀v∈cs,v.oneCell'=true:=by
  intro v hv;obtain⟨j,hj,hjv⟩:=List.getElem_of_mem hv;have hj2:=hat j v (by rw[<-hjv];exact List.getElem?_eq_getElem hj);rw[hlen] at hj;obtain⟨u,hu,ho⟩:=hone j hj;rw[hu] at hj2;have h7:=Option.some.inj hj2;rw[<-h7];exact ho
 have hl:=run_loadCells_list (P:=Tryz.prog) w ⟨b,so,none⟩ cs (fun j v hv=>by rw[kM];exact hat j v hv)
 have hc:∀j,j<cs.length->(w.cell? ⟨g,l*4+j,none⟩).isSome=true:=by
  intro j hj;rw[qh ha3,Array.getElem?_eq_getElem (by omega)];rfl
 have hf:∀j,j<cs.length->w.frozen? ⟨g,l*4+j,none⟩=false:=fun j _=>qP ha3 _
 have hst:=run_storeCells_cells (P:=Tryz.prog) g (l*4) cs 0 w (by simpa using hc) (by simpa using hf) h1;have hT:=NoU.mk ha3 q5K;have U:=Jh g cs (l*4) w w (Upd.refl g w);have hC:=U.chg hT;have hin:=World.cell?_setCells_in g cs (l*4) w hc;refine⟨w.setCells g (l*4) cs,?_,?_,hC,U.size⟩
 ·rw[hlen] at hl;simp[Builtin.copy_,run_underlying ht,Builtin.lenOf,Builtin.firstCells,sizeOf,typeInfo,hi0,hz1,hn,hl,hst,goInt]
 ·refine⟨hN,?_,fun i hi hS=>?_⟩
  ·obtain⟨cs',b1,b2⟩:=Yf g _ _ cs (l*4) cs0 w ha3;exact⟨cs',b1,by omega⟩
  ·by_cases hic:l<=i/\i<l+s
   ·obtain⟨j,rfl⟩:∃j,i=l+j:=⟨i-l,by omega⟩
    rw[<-hyx j (by omega)];obtain⟨s',t',d0,d1,d2,d3,g1,g2⟩:=hs j (by omega)
    have hget:∀r v,r<4->w.cell? ⟨b,so+j*4+r,none⟩=some v->(w.setCells g (l*4) cs).cell? ⟨g,(l+j)*4+r,none⟩=some v:=by
     intro r v hr hv;have h9:=hin (j*4+r) (by omega);rw[show l*4+(j*4+r)=(l+j)*4+r by omega] at h9;rw[h9];have h8:=hat (j*4+r) _ (List.getElem?_eq_getElem (by omega));rw[show so+(j*4+r)=so+j*4+r by omega,hv] at h8;exact h8.symm
    exact⟨s',t',hget 0 _ (by omega) d0,hget 1 _ (by omega) d1,hget 2 _ (by omega) d2,hget 3 _ (by omega) d3,g1.chg hC hN,g2.chg hC hN⟩
   ·obtain⟨s',t',d0,d1,d2,d3,g1,g2⟩:=h.2.2 i hi (hS.resolve_right hic);refine⟨s',t',?_,?_,?_,?_,g1.chg hC hN,g2.chg hC hN⟩<;>rw[World.cell?_setCells_out g cs (l*4) w _ (fun _ _=>by simp only;omega)]<;>assumption
end Go.Proofs.YtpkmjhmmmdkodaaGreat
namespace Go.Proofs.YtpkmjhmmmdkodaaGreat
variable {w w':World} {N n lo hi k g i m c b j:Nat} {v:Value} {R:Raw}
structure Lft (n:Nat) (M:q_m) (E:Nat->Bool) (S:q_m):Prop where
 reg:q0u n M E
 fil:Fil n M E
 sch:q2Q n M E S
 row:∀i j,i<n->j<n->E i=true->S i j=0
 col:∀i j,i<n->j<n->E j=true->S i j=0
theorem Lft.start (n:Nat) (M:q_m):Lft n M (fun _=>false) M:=by
 refine⟨fun x hx _ i hi=>hx i hi rfl,fun y=>⟨y,fun _ _=>rfl,fun _ _ h=>(by cases h)⟩,fun x _ i _ _=>?_,fun _ _ _ _ h=>(by cases h),fun _ _ _ _ h=>(by cases h)⟩;exact qf fun j _=>by simp
theorem Lft.sum{M S:q_m}{E:Nat->Bool}(h:Lft n M E S){x:q_v}(hx:∀i,i<n->E i=true->av n M x i=0)(hi:i<n) (hE:E i=false):av n M x i=av n S x i:=by
 rw[h.sch x hx i hi hE]
 exact qf fun j hj=>by
  cases hEj:E j with
  | true=>rw[if_pos rfl,h.col i j hi hj hEj];grind
  | false=>simp
theorem q3b{S:q_m}{E:Nat->Bool}{e:Nat->Nat}(he:Enm n k E e) (hr:Reg k (xm S e))(hi:i<n) (hE:E i=true):Jm k S e i j=0:=by
 obtain⟨a,ha,rfl⟩:=he.onto i hi hE;have h1:=(jq hr).1;unfold Jm q0v
 have h2:sum k (fun c=>S (e a) (e c)*sum k (fun b=>kN k (xm S e) c b*S (e b) j))=S (e a) j:=by
  have h3:sum k (fun c=>S (e a) (e c)*sum k (fun b=>kN k (xm S e) c b*S (e b) j))=sum k (fun b=>mm k (xm S e) (kN k (xm S e)) a b*S (e b) j):=by
   have h4:sum k (fun c=>S (e a) (e c)*sum k (fun b=>kN k (xm S e) c b*S (e b) j))=sum k (fun c=>sum k (fun b=>xm S e a c*kN k (xm S e) c b*S (e b) j)):=qf fun c _=>by
    rw[<-zV];exact qf fun b _=>by unfold xm;grind
   rw[h4,zG];exact qf fun b _=>by unfold mm;rw[<-qJ]
  rw[h3];have h5:sum k (fun b=>mm k (xm S e) (kN k (xm S e)) a b*S (e b) j)=sum k (fun b=>dlt a b*S (e b) j):=qf fun b hb=>by rw[h1 a ha b hb]
  rw[h5,zh ha (fun b=>S (e b) j)]
 rw[h2];grind
theorem q3c{S:q_m}{E:Nat->Bool}{e:Nat->Nat}(he:Enm n k E e) (hr:Reg k (xm S e))(hj:j<n) (hE:E j=true):Jm k S e i j=0:=by
 obtain⟨b,hb,rfl⟩:=he.onto j hj hE;have h1:=(jq hr).2;unfold Jm q0v
 have h2:sum k (fun a=>S i (e a)*sum k (fun c=>kN k (xm S e) a c*S (e c) (e b)))=S i (e b):=by
  have h3:sum k (fun a=>S i (e a)*sum k (fun c=>kN k (xm S e) a c*S (e c) (e b)))=sum k (fun a=>S i (e a)*dlt a b):=qf fun a ha=>by
   congr 1
   exact h1 a ha b hb
  rw[h3,yT hb (fun a=>S i (e a))]
 rw[h2];grind
theorem q14{S:q_m}{e:Nat->Nat}(h:∀a,a<k->S i (e a)=0) (j:Nat):Jm k S e i j=S i j:=by
 unfold Jm q0v;rw[qy fun a ha=>by rw[h a ha];grind];grind
theorem q15{S:q_m}{e:Nat->Nat}(h:∀b,b<k->S (e b) j=0) (i:Nat):Jm k S e i j=S i j:=by
 unfold Jm q0v
 rw[qy fun a _=>by
  have:sum k (fun b=>kN k (xm S e) a b*S (e b) j)=0:=qy fun b hb=>by rw[h b hb];grind
  rw[this];grind]
 grind
theorem Lft.reg_iff{M S:q_m}{E E2:Nat->Bool}{e:Nat->Nat}(h:Lft n M E S) (he:Enm n k E2 e) (hd:∀i,E2 i=true->E i=false):Reg k (xm S e)↔q0u n M (both E E2) :=
 ⟨fun hr=>q1e h.reg h.sch (q1d he hr) hd,fun hr=>q4K he (WS h.fil h.sch hr hd)⟩
theorem Lft.step{M S:q_m}{E E2:Nat->Bool}{e:Nat->Nat}(h:Lft n M E S) (he:Enm n k E2 e) (hd:∀i,E2 i=true->E i=false) (hr:Reg k (xm S e)):Lft n M (both E E2) (Jm k S e):=by
 have hR:=q1d he hr;obtain⟨hf2,hs2⟩:=q5o he hR
 have hcol:∀i j,i<n->j<n->both E E2 j=true->Jm k S e i j=0:=fun i j hi hj hb=>by
  cases h1:E j with
  | true=>rw[q15 (fun b hb=>h.col _ _ (he.low b hb) hj h1),h.col i j hi hj h1]
  | false=>exact q3c he hr hj (by unfold both at hb;rw[h1] at hb;simpa using hb)
 refine⟨(h.reg_iff he hd).1 hr,fun y=>?_,fun x hx i hi hb=>?_,fun i j hi hj hb=>?_,hcol⟩
 ·obtain⟨u,hu,hu0⟩:=hf2 (fun i=>if E i=true then 0 else y i);obtain⟨x,hx,hx0⟩:=h.fil u;refine⟨x,fun i hi=>?_,fun i hi hb=>?_⟩
  ·obtain⟨a1,a2⟩:=J5 hi;rw[hx i a1,hu i a2,a1];simp
  ·cases h1:E i with
   | true=>exact hx0 i hi h1
   | false =>
    have h2:E2 i=true:=by unfold both at hb;rw[h1] at hb;simpa using hb
    rw[h.sum hx0 hi h1];refine Eq.trans (qf fun j hj=>?_) (hu0 i hi h2);cases h3:E j with
    | true=>rw[h.col i j hi hj h3];grind
    | false=>rw[hx j h3]
 ·obtain⟨a1,a2⟩:=J5 hb;have hx1:∀i,i<n->E i=true->av n M x i=0:=fun i hi h=>hx i hi (Wu h)
  rw[h.sum hx1 hi a1,hs2 x (fun u hu h2=>by rw[<-h.sum hx1 hu (hd u h2)];exact hx u hu (q2y h2)) i hi a2]
  exact qf fun j hj=>by
   unfold both;cases h1:E j with
   | true =>
    have h2:E2 j=false:=by
     cases h5:E2 j with
     | false=>rfl
     | true=>have:=hd j h5;rw[h1] at this;cases this
    rw[h2,hcol i j hi hj (Wu h1)];simp
   | false=>rfl
 ·cases h1:E i with
  | true=>rw[q14 (fun a ha=>h.row _ _ hi (he.low a ha) h1),h.row i j hi hj h1]
  | false=>exact q3b he hr hi (by unfold both at hb;rw[h1] at hb;simpa using hb)
def Jf (E:Nat->Bool) (n:Nat):List Nat:=(List.range n).filter E
def enF (E:Nat->Bool) (n a:Nat):Nat:=(Jf E n)[a]?.getD 0
theorem q25 (E:Nat->Bool) (n:Nat):Jf E (n+1)=Jf E n++(if E n=true then [n] else []):=by
 unfold Jf;rw[List.range_succ,List.filter_append]
 congr 1
 cases h:E n<;>simp[h]
theorem QN {E:Nat->Bool}:i∈Jf E n↔i<n/\E i=true:=by unfold Jf;simp
theorem vU {E:Nat->Bool}{a:Nat}(h:a<(Jf E n).length):enF E n a=(Jf E n)[a]:=by unfold enF;simp[h]
theorem YW (E:Nat->Bool) (n:Nat):(Jf E n).Pairwise (· < ·):=by
 unfold Jf;exact List.Pairwise.filter _ (List.pairwise_lt_range)
theorem q0e (E:Nat->Bool) (n:Nat):Enm n (Jf E n).length E (enF E n):=by
 refine⟨fun a ha=>?_,fun a ha=>?_,fun a b ha hb h=>?_,fun i hi hE=>?_⟩
 ·rw[vU ha];exact (QN.1 (List.getElem_mem ha)).1
 ·rw[vU ha];exact (QN.1 (List.getElem_mem ha)).2
 ·rw[vU ha,vU hb] at h;have hs:=List.pairwise_iff_getElem.1 (YW E n)
  rcases Nat.lt_trichotomy a b with h1|h1|h1
  ·have:=hs a b ha hb h1;omega
  ·exact h1
  ·have:=hs b a hb ha h1;omega
 ·obtain⟨a,ha,h⟩:=List.getElem_of_mem (QN.2 ⟨hi,hE⟩);exact⟨a,ha,by rw[vU ha];exact h⟩
def qm (z:Nat->Nat):Nat->Nat
 | 0=>0
 | k+1=>qm z k+z k
theorem zC (z:Nat->Nat){a:Nat}(h:a<=b):qm z a<=qm z b:=by
 induction h with
 | refl=>exact q_r
 | step _ ih=>exact q_l ih (Nat.le_add_right _ _)
def wI (z:Nat->Nat):Nat->Nat->Nat
 | 0,_=>0
 | k+1,i=>if qm z k<=i then k else wI z k i
theorem KX {z:Nat->Nat}:∀ {m k i:Nat},k<m->qm z k<=i->i<qm z (k+1)->wI z m i=k
 | 0,_,_,h,_,_=>by omega
 | m+1,k,i,h,h1,h2=>by
  unfold wI
  by_cases h3:qm z m<=i
  ·rw[if_pos h3]
   rcases Nat.lt_or_ge k m with h4|h4
   ·have:=zC z (show k+1<=m by omega);omega
   ·omega
  ·rw[if_neg h3];have:k≠m:=fun e=>h3 (by rw[<-e];exact h1)
   exact KX (by omega) h1 h2
theorem KW {z:Nat->Nat}:∀ {m i:Nat},i<qm z m->wI z m i<m/\qm z (wI z m i)<=i/\i<qm z (wI z m i+1)
 | 0,i,h=>by unfold qm at h;omega
 | m+1,i,h=>by
  unfold wI
  by_cases h3:qm z m<=i
  ·rw[if_pos h3];exact⟨by omega,h3,h⟩
  ·rw[if_neg h3];obtain⟨a,b,c⟩:=KW (z:=z) (m:=m) (i:=i) (by omega);exact⟨by omega,b,c⟩
def JV (z:Nat->Nat) (m k i:Nat):Bool:=wI z m i == k
theorem V4 {z:Nat->Nat}(hk:k<m):Enm (qm z m) (z k) (JV z m k) (fun a=>qm z k+a):=by
 have hle:qm z k+z k<=qm z m:=zC z (show k+1<=m by omega);refine⟨fun a ha=>by omega,fun a ha=>?_,fun a b _ _ h=>by omega,fun i hi hE=>?_⟩
 ·unfold JV;rw[KX hk (by omega) (by show qm z k+a<qm z k+z k;omega)]
  simp
 ·obtain⟨-,h1,h2⟩:=KW hi;have h3:wI z m i=k:=by unfold JV at hE;simpa using hE
  rw[h3] at h1 h2;unfold qm at h2;exact⟨i-qm z k,by omega,by omega⟩
theorem q6w (n k:Nat) (M X:q_m) (e:Nat->Nat) (x:q_v) (i:Nat) :
  av n (q0v k M e X) x i=av n M x i-sum k (fun a=>M i (e a)*sum k (fun b=>X a b*av n M x (e b))):=by
 have h1:∀a,sum n (fun j=>sum k (fun b=>X a b*M (e b) j)*x j)=sum k (fun b=>X a b*av n M x (e b)):=fun a=>by
  have h2:sum n (fun j=>sum k (fun b=>X a b*M (e b) j)*x j)=sum n (fun j=>sum k (fun b=>X a b*M (e b) j*x j)):=qf fun j _=>(qJ k (x j) _).symm
  rw[h2,zG];refine qf fun b _=>?_
  unfold av;rw[<-zV];exact qf fun j _=>by grind
 have h3:sum n (fun j=>sum k (fun a=>M i (e a)*sum k (fun b=>X a b*M (e b) j))*x j)=sum k (fun a=>M i (e a)*sum k (fun b=>X a b*av n M x (e b))):=by
  have h4:sum n (fun j=>sum k (fun a=>M i (e a)*sum k (fun b=>X a b*M (e b) j))*x j)=sum n (fun j=>sum k (fun a=>M i (e a)*sum k (fun b=>X a b*M (e b) j)*x j)):=qf fun j _=>(qJ k (x j) _).symm
  rw[h4,zG];refine qf fun a _=>?_
  rw[<-h1 a,<-zV];exact qf fun j _=>by grind
 rw[<-h3];unfold av q0v;rw[<-Xf];exact qf fun j _=>by grind
def Rs (n:Nat) (M:q_m) (y:q_v) (E:Nat->Bool) (S:q_m) (r:q_v):Prop :=
 ∀x:Nat->Rat,(∀i,i<n->E i=true->av n M x i=y i)->∀i,i<n->E i=false->av n M x i-y i=av n S x i-r i
def q6U (k:Nat) (S:q_m) (e:Nat->Nat) (X:q_m) (r:q_v) (i:Nat):Rat:=r i-sum k (fun a=>S i (e a)*sum k (fun b=>X a b*r (e b)))
theorem Rs.start (n:Nat) (M:q_m) (y:q_v):Rs n M y (fun _=>false) M y:=fun _ _ _ _ _=>rfl
theorem Rs.step{M S:q_m}{y r:q_v}{E E2:Nat->Bool}{e:Nat->Nat}(h:Rs n M y E S r) (he:Enm n k E2 e) (hd:∀i,E2 i=true->E i=false) (X:q_m):Rs n M y (both E E2) (q0v k S e X) (q6U k S e X r):=by
 intro x hx i hi hE;have hE1:=J5 hE;have hx1:∀j,j<n->E j=true->av n M x j=y j:=fun j hj hj'=>hx j hj (Wu hj')
 have h0:=h x hx1 i hi hE1.1
 have h1:∀b,b<k->av n S x (e b)=r (e b):=fun b hb=>by
  have h2:=h x hx1 (e b) (he.low b hb) (hd _ (he.mem b hb));have h3:=hx (e b) (he.low b hb) (q2y (he.mem b hb));rw[h3] at h2
  grind
 rw[h0,q6w];unfold q6U
 have h4:sum k (fun a=>S i (e a)*sum k (fun b=>X a b*av n S x (e b)))=sum k (fun a=>S i (e a)*sum k (fun b=>X a b*r (e b))):=qf fun a _=>by
  rw[qf (fun b hb=>by rw[h1 b hb])]
 rw[h4]
 grind
section
variable (z:Nat->Nat) (o:Nat->Nat)
def blE (t:Nat) (a:Nat):Nat:=qm z (o t)+a
noncomputable def elS (M:q_m):Nat->Nat->Nat->Rat
 | 0=>M
 | t+1=>Jm (z (o t)) (elS M t) (blE z o t)
noncomputable def elX (M:q_m) (t:Nat):Nat->Nat->Rat:=kN (z (o t)) (xm (elS z o M t) (blE z o t))
noncomputable def elR (M:q_m) (y:q_v):Nat->Nat->Rat
 | 0=>y
 | t+1=>q6U (z (o t)) (elS z o M t) (blE z o t) (elX z o M t) (elR M y t)
def elE (m:Nat):Nat->Nat->Bool
 | 0,_=>false
 | t+1,i=>elE m t i||JV z m (o t) i
def q0B (M:q_m) (t:Nat):Prop:=Reg (z (o t)) (xm (elS z o M t) (blE z o t))
end
variable {z:Nat->Nat}{o:Nat->Nat}{m:Nat}{M:q_m}{y:q_v}
theorem XV {t:Nat}:elE z o m t i=true↔∃s,s<t/\wI z m i=o s:=by
 induction t with
 | zero=>exact⟨fun h=>(by cases h),fun ⟨s,h,_⟩=>absurd h (Nat.not_lt_zero s)⟩
 | succ t ih =>
  unfold elE JV;rw[Bool.or_eq_true,ih,beq_iff_eq]
  constructor
  ·rintro (⟨s,h1,h2⟩|h)
   ·exact⟨s,by omega,h2⟩
   ·exact⟨t,by omega,h⟩
  ·rintro⟨s,h1,h2⟩
   by_cases hs:s=t
   ·exact .inr (by rw[<-hs];exact h2)
   ·exact .inl ⟨s,by omega,h2⟩
theorem q2g (hinj:∀a b,a<m->b<m->o a=o b->a=b){t:Nat}(ht:t<m) (h:JV z m (o t) i=true):elE z o m t i=false:=by
 cases h9:elE z o m t i with
 | false=>rfl
 | true =>
  obtain⟨s,h1,h2⟩:=XV.1 h9;unfold JV at h;rw[beq_iff_eq] at h;have:=hinj s t (by omega) ht (by rw[<-h2,h]);omega
theorem QS (hlow:∀a,a<m->o a<m) (hinj:∀a b,a<m->b<m->o a=o b->a=b):∀t,t<=m->(∀s,s<t->q0B z o M s)->Lft (qm z m) M (elE z o m t) (elS z o M t)/\Rs (qm z m) M y (elE z o m t) (elS z o M t) (elR z o M y t)
 | 0,_,_=>⟨Lft.start _ _,Rs.start _ _ _⟩
 | t+1,ht,hp=>by
  obtain⟨h1,h2⟩:=QS hlow hinj t (by omega) (fun s hs=>hp s (by omega));have he:=V4 (z:=z) (hlow t (by omega));have hd:∀i,JV z m (o t) i=true->elE z o m t i=false:=fun i hi=>q2g hinj (by omega) hi
  exact⟨h1.step he hd (hp t (by omega)),h2.step he hd _⟩
theorem q7t (hlow:∀a,a<m->o a<m) (hinj:∀a b,a<m->b<m->o a=o b->a=b){t:Nat}(ht:t<m) (hp:∀s,s<t->q0B z o M s):q0B z o M t↔q0u (qm z m) M (elE z o m (t+1)) :=
 (QS (y:=fun _=>0) hlow hinj t (by omega) hp).1.reg_iff (V4 (z:=z) (hlow t ht)) (fun i hi=>q2g hinj ht hi)
end Go.Proofs.YtpkmjhmmmdkodaaGreat
namespace Go.Proofs.YtpkmjhmmmdkodaaGreat
open Go.RowKit
variable {w w':World} {N n lo hi k g i m c b j:Nat} {v:Value} {R:Raw}
theorem jZ:∀ {m:Nat}{o:Nat->Nat},(∀t,t<m->o t<m)->(∀a b,a<m->b<m->o a=o b->a=b)->∀i,i<m->∃a,a<m/\o a=i
 | 0,_,_,_,i,hi=>absurd hi (Nat.not_lt_zero i)
 | m+1,o,hl,hi,i,h=>by
  have hm:=hl m (by omega)
  have ih:=jZ (m:=m) (o:=fun a=>if o a=m then o m else o a) (fun a ha=>by
   have h1:=hl a (by omega);have h2:o a≠o m:=fun e=>by have:=hi a m (by omega) (by omega) e;omega
   show (if o a=m then o m else o a)<m
   split<;>omega) (fun a b ha hb e=>by
   have h2:o a≠o m:=fun e=>by have:=hi a m (by omega) (by omega) e;omega
   have h3:o b≠o m:=fun e=>by have:=hi b m (by omega) (by omega) e;omega
   have e':(if o a=m then o m else o a)=(if o b=m then o m else o b):=e;refine hi a b (by omega) (by omega) ?_
   split at e'<;>split at e'<;>omega)
  by_cases him:i=m
  ·by_cases hp:o m=m
   ·exact⟨m,by omega,by omega⟩
   ·obtain⟨a,ha,h1⟩:=ih (o m) (by omega);have h1':(if o a=m then o m else o a)=o m:=h1;have h2:o a≠o m:=fun e=>by have:=hi a m (by omega) (by omega) e;omega
    split at h1'
    ·exact⟨a,by omega,by omega⟩
    ·omega
  ·obtain⟨a,ha,h1⟩:=ih i (by omega);have h1':(if o a=m then o m else o a)=i:=h1
   split at h1'
   ·exact⟨m,by omega,h1'⟩
   ·exact⟨a,by omega,h1'⟩
theorem q3t{o:Nat->Nat}(hl:∀t,t<m->o t<m) (hi:∀a b,a<m->b<m->o a=o b->a=b):Enm m m (fun _=>true) o :=
 ⟨hl,fun _ _=>rfl,hi,fun i h _=>jZ hl hi i h⟩
theorem VA{o:Nat->Nat}(hl:∀t,t<m->o t<m) (hi:∀a b,a<m->b<m->o a=o b->a=b) (g:q_v):sum m g=sum m (fun s=>g (o s)):=by
 have h:=(q3t hl hi).sum g;simpa using h
theorem ZZ (z:Nat->Nat) (f:q_v):∀m,sum (qm z m) f=sum m (fun c=>sum (z c) (fun b=>f (qm z c+b)))
 | 0=>rfl
 | m+1=>by
  rw[show qm z (m+1)=qm z m+z m from rfl,QY,ZZ z f m]
  rfl
theorem q09{K K':q_m}(h:∀a,a<k->∀b,b<k->K a b=K' a b) (hr:Reg k K) (hr':Reg k K'){a:Nat}(ha:a<k) (hb:b<k):kN k K a b=kN k K' a b:=by
 have h1:=(jq hr).2;have h2:=(jq hr').1
 have h3:mm k (mm k (kN k K) K) (kN k K') a b=kN k K' a b:=by
  rw[xu (a':=dlt) (b':=kN k K') (fun c hc=>h1 a ha c hc) (fun _ _=>rfl)];exact VB _ ha
 have h4:mm k (kN k K) (mm k K (kN k K')) a b=kN k K a b:=by
  rw[xu (a':=kN k K) (b':=dlt) (fun _ _=>rfl) (fun c hc=>by
   rw[xu (a':=K') (b':=kN k K') (fun d hd=>h c hc d hd) (fun _ _=>rfl)]
   exact h2 c hc b hb)]
  exact q4N _ hb
 rw[<-h4,<-jX,h3]
theorem Jr{K K':q_m}(h:∀a,a<k->∀b,b<k->K a b=K' a b) (hr:Reg k K):Reg k K':=fun x hx=>hr x fun a ha=>by
 rw[<-hx a ha];exact qf fun b hb=>by rw[h a ha b hb]
section
variable {z o:Nat->Nat}{m:Nat}{F:Nat->Nat->Nat->Nat->Rat}{R:q_m}{M:q_m}{y:q_v}
theorem Wl (hs:∀i j,M i j=M j i):∀t,(∀s,s<t->q0B z o M s)->∀i j,elS z o M t i j=elS z o M t j i
 | 0,_=>hs
 | t+1,hp=>fun i j=>q0Z (Wl hs t (fun s h=>hp s (by omega))) (hp t (by omega)) i j
def NoT (o:Nat->Nat) (t r:Nat):Prop:=∀s,s<t->o s≠r
theorem YG (hl:∀t,t<m->o t<m) (hi:∀a b,a<m->b<m->o a=o b->a=b){t r:Nat}(hr:r<m) (h:NoT o (t+1) r):kV (q0w o t) (m-(t+1)) r=true:=by
 obtain⟨a,ha,h1⟩:=jZ hl hi r hr;have h2:¬a<t+1:=fun h9=>h a h9 h1
 exact jY.2 ⟨a-(t+1),by omega,by unfold q0w;rw[show t+1+(a-(t+1))=a by omega];exact h1⟩
theorem q3D (hi:∀a b,a<m->b<m->o a=o b->a=b){t s:Nat}(h:t<=s) (hs:s<m):NoT o t (o s):=fun a ha e=>by
 have:=hi a s (by omega) hs e;omega
structure BlM (z o:Nat->Nat) (m:Nat) (F:Nat->Nat->Nat->Nat->Rat) (R:q_m) (M:q_m) (y:q_v):Prop where
 low:∀t,t<m->o t<m
 inj:∀a b,a<m->b<m->o a=o b->a=b
 sym:∀i j,M i j=M j i
 F1:∀r c,c<=r->r<m->∀a,a<z r->∀b,b<z c->F r c a b=M (qm z r+a) (qm z c+b)
 R1:∀r,r<m->∀a,a<z r->R r a=y (qm z r+a)
theorem q4G {t:Nat}(ht:t<m) (hst:∀a,a<z (o t)->∀b,b<z (o t)->Fsy (fsS z o m F t) (o t) (o t) a b=elS z o M t (qm z (o t)+a) (qm z (o t)+b)):PvF z o m F t↔q0B z o M t:=by
 have h1:∀a,a<z (o t)->∀b,b<z (o t)->fsS z o m F t (o t) (o t) a b=xm (elS z o M t) (blE z o t) a b:=fun a ha b hb=>by
  have h2:=hst a ha b hb;unfold Fsy at h2;rw[if_pos (q_r)] at h2;exact h2
 exact⟨fun h=>Jr h1 h,fun h=>Jr (fun a ha b hb=>(h1 a ha b hb).symm) h⟩
theorem q5i (H:BlM z o m F R M y):∀t,t<=m->(∀s,s<t->q0B z o M s)->(∀r c,r<m->c<m->NoT o t r->NoT o t c->∀a,a<z r->∀b,b<z c->Fsy (fsS z o m F t) r c a b=elS z o M t (qm z r+a) (qm z c+b))/\∀r,r<m->NoT o t r->∀a,a<z r->rsS z o m F R t r a=elR z o M y t (qm z r+a)
 | 0,_,_=>⟨fun r c hr hc _ _ a ha b hb=>by
   unfold Fsy
   split
   ·exact H.F1 r c ‹_› hr a ha b hb
   ·show F c r b a=M _ _
    rw[H.F1 c r (by omega) hc b hb a ha]
    exact H.sym _ _,fun r hr _ a ha=>H.R1 r hr a ha⟩
 | t+1,ht,hp=>by
  obtain⟨ih1,ih2⟩:=q5i H t (by omega) (fun s h=>hp s (by omega));have hkn:NoT o t (o t):=q3D H.inj (Nat.le_refl t) (by omega);have hkm:=H.low t (by omega);have hpv:=(q4G (F:=F) (by omega) (ih1 (o t) (o t) hkm hkm hkn hkn)).2 (hp t (by omega));have hpr:=hp t (by omega)
  have hX:∀a,a<z (o t)->∀b,b<z (o t)->kN (z (o t)) (fsS z o m F t (o t) (o t)) a b=elX z o M t a b:=fun a ha b hb =>
   q09 (fun a ha b hb=>by
    have h2:=ih1 (o t) (o t) hkm hkm hkn hkn a ha b hb;unfold Fsy at h2;rw[if_pos (q_r)] at h2
    exact h2) hpv hpr ha hb
  have hmono:∀ {r},NoT o (t+1) r->NoT o t r:=fun h s hs=>h s (by omega)
  have hlo:∀r c,c<=r->r<m->NoT o (t+1) r->NoT o (t+1) c->∀a,a<z r->∀b,b<z c->fsS z o m F (t+1) r c a b=elS z o M (t+1) (qm z r+a) (qm z c+b):=fun r c hcr hr hnr hnc a ha b hb=>by
   have h1:pA (q0w o t) (m-(t+1)) (m-(t+1)) r c=true:=by
    unfold pA;rw[YG H.low H.inj hr hnr,YG H.low H.inj (by omega) hnc]
    rfl
   have h2:=ih1 r c hr (by omega) (hmono hnr) (hmono hnc) a ha b hb;unfold Fsy at h2;rw[if_pos hcr] at h2
   show Fel _ _ _ _ _ r c a b=Jm _ _ _ _ _
   unfold Fel Jm q0v;rw[if_pos h1,h2]
   congr 1
   unfold Gx Fct;rw[jX];unfold mm;refine qf fun i hi=>?_
   rw[ih1 r (o t) hr hkm (hmono hnr) hkn a ha i hi]
   congr 1
   refine qf fun j hj=>?_
   rw[ih1 (o t) c hkm (by omega) hkn (hmono hnc) j hj b hb,hX i hi j hj]
   rfl
  refine⟨fun r c hr hc hnr hnc a ha b hb=>?_,fun r hr hnr a ha=>?_⟩
  ·unfold Fsy
   split
   ·exact hlo r c ‹_› hr hnr hnc a ha b hb
   ·rw[hlo c r (by omega) hc hnc hnr b hb a ha];exact Wl H.sym (t+1) hp _ _
  ·show Rel _ _ _ _ _ _ r a=q6U _ _ _ _ _ _
   unfold Rel q6U;rw[if_pos (YG H.low H.inj hr hnr),ih2 r hr (hmono hnr) a ha]
   congr 1
   have h3:av (z (o t)) (Fct (o t) (z (o t)) (fsS z o m F t) (kN (z (o t)) (fsS z o m F t (o t) (o t))) r) (rsS z o m F R t (o t)) a=mm (z (o t)) (Fct (o t) (z (o t)) (fsS z o m F t) (kN (z (o t)) (fsS z o m F t (o t) (o t))) r) (fun b _=>rsS z o m F R t (o t) b) a 0:=rfl;rw[h3];unfold Fct;rw[jX];unfold mm;refine qf fun i hi=>?_
   rw[ih1 r (o t) hr hkm (hmono hnr) hkn a ha i hi]
   congr 1
   refine qf fun j hj=>?_
   show _*rsS z o m F R t (o t) j=_
   rw[ih2 (o t) hkm hkn j hj,hX i hi j hj]
   rfl
theorem q1m (H:BlM z o m F R M y){t:Nat}(ht:t<m) (hp:∀s,s<t->q0B z o M s):PvF z o m F t↔q0B z o M t :=
 have hkn:NoT o t (o t):=q3D H.inj (Nat.le_refl t) ht
 q4G ht ((q5i H t (Nat.le_of_lt ht) hp).1 (o t) (o t) (H.low t ht) (H.low t ht) hkn hkn)
theorem q1o (H:BlM z o m F R M y):∀t,t<=m->(∀s,s<t->PvF z o m F s)->∀s,s<t->q0B z o M s
 | 0,_,_,s,hs=>absurd hs (Nat.not_lt_zero s)
 | t+1,ht,h,s,hs=>by
  have ih:=q1o H t (by omega) (fun s h9=>h s (by omega))
  by_cases hst:s=t
  ·rw[hst];exact (q1m H (by omega) ih).1 (h t (by omega))
  ·exact ih s (by omega)
theorem q71 (H:BlM z o m F R M y) (h:∀t,t<m->PvF z o m F t):Reg (qm z m) M:=by
 have hp:=q1o H m (Nat.le_refl m) h;have h1:=(QS (y:=y) H.low H.inj m (Nat.le_refl m) hp).1.reg;refine q5t.2 fun x hx h0 i hi=>h1 x (fun j hj hE=>?_) (fun j hj _=>h0 j hj rfl) i hi
 exfalso
 obtain⟨h3,-,-⟩:=KW hj;obtain⟨s,hs,h4⟩:=jZ H.low H.inj _ h3;have h5:elE z o m m j=true:=XV.2 ⟨s,hs,h4.symm⟩;rw[hE] at h5;cases h5
theorem q5A (H:BlM z o m F R M y) (h:PDef (qm z m) M):∀t,t<m->PvF z o m F t:=by
 have h1:∀t,t<=m->∀s,s<t->q0B z o M s:=fun t=>by
  induction t with
  | zero=>exact fun _ s hs=>absurd hs (Nat.not_lt_zero s)
  | succ t ih =>
   intro ht s hs;have ih':=ih (by omega)
   by_cases hst:s=t
   ·rw[hst];exact (q7t H.low H.inj (by omega) ih').2 (q1t h _)
   ·exact ih' s (by omega)
 exact fun t ht=>(q1m H ht (h1 t (by omega))).2 (h1 (t+1) (by omega) t (by omega))
theorem x_st (H:BlM z o m F R M y){x:q_v}(hx:∀i,i<qm z m->av (qm z m) M x i=y i) (hp:∀s,s<m->q0B z o M s){t:Nat}(ht:t<m){a:Nat}(ha:a<z (o t)):x (qm z (o t)+a)=xS z o m F R (fun r a=>x (qm z r+a)) t a:=by
 have hpt:∀s,s<t->q0B z o M s:=fun s h=>hp s (by omega)
 obtain⟨hL,hR⟩:=QS (y:=y) H.low H.inj t (by omega) hpt;obtain⟨e1,e2⟩:=q5i H t (by omega) hpt;have hkm:=H.low t ht;have hkn:NoT o t (o t):=q3D H.inj (Nat.le_refl t) ht;have hbl:∀ {s c:Nat},s<m->c<z (o s)->qm z (o s)+c<qm z m:=fun {s c} hs hc=>(V4 (z:=z) (H.low s hs)).low c hc
 have hat:∀ {s c:Nat},s<m->c<z (o s)->wI z m (qm z (o s)+c)=o s:=fun {s c} hs hc=>KX (H.low s hs) (by omega) (by show qm z (o s)+c<qm z (o s)+z (o s);omega)
 have hy:∀c,c<z (o t)->yS z o m F R (fun r a=>x (qm z r+a)) t (m-(t+1)) c=sum (z (o t)) (fun b=>fsS z o m F t (o t) (o t) c b*x (qm z (o t)+b)):=fun c hc=>by
  have hno:elE z o m t (qm z (o t)+c)=false:=by
   cases h9:elE z o m t (qm z (o t)+c) with
   | false=>rfl
   | true =>
    obtain⟨s,h1,h2⟩:=XV.1 h9;rw[hat ht hc] at h2;exact absurd h2.symm (hkn s h1)
  have h1:=hR x (fun i hi _=>hx i hi) _ (hbl ht hc) hno;rw[hx _ (hbl ht hc)] at h1;have h2:av (qm z m) (elS z o M t) x (qm z (o t)+c)=elR z o M y t (qm z (o t)+c):=by grind
  have hg:∀j,t+1+j<=m->yS z o m F R (fun r a=>x (qm z r+a)) t j c=elR z o M y t (qm z (o t)+c)-sum j (fun s=>sum (z (o (t+1+s))) (fun b=>elS z o M t (qm z (o t)+c) (qm z (o (t+1+s))+b)*x (qm z (o (t+1+s))+b))):=fun j=>by
   induction j with
   | zero =>
    intro _
    show rsS z o m F R t (o t) c=_
    rw[e2 (o t) hkm hkn c hc,jI]
    grind
   | succ j ih =>
    intro hj;have hs:=H.low (t+1+j) (by omega)
    show yS z o m F R _ t j c-av _ _ _ c=_
    rw[ih (by omega),zg]
    have h5:av (z (o (t+1+j))) (Fsy (fsS z o m F t) (o t) (o (t+1+j))) (fun a=>x (qm z (o (t+1+j))+a)) c=sum (z (o (t+1+j))) (fun b=>elS z o M t (qm z (o t)+c) (qm z (o (t+1+j))+b)*x (qm z (o (t+1+j))+b)):=by
     unfold av;exact qf fun b hb=>by rw[e1 (o t) _ hkm hs hkn (q3D H.inj (by omega) (by omega)) c hc b hb]
    rw[h5]
    grind
  rw[hg _ (by omega),<-h2];unfold av;rw[ZZ,VA H.low H.inj];have h6:m=t+(1+(m-(t+1))):=by omega
  have h7:=QY t (1+(m-(t+1))) (fun s=>sum (z (o s)) (fun b=>elS z o M t (qm z (o t)+c) (qm z (o s)+b)*x (qm z (o s)+b)));rw[<-h6] at h7
  rw[h7,QY,qy (n:=t) (fun s hs=>qy fun b hb=>by
   rw[hL.col _ _ (hbl ht hc) (hbl (by omega) hb) (XV.2 ⟨s,hs,hat (by omega) hb⟩)];grind)]
  have h8:sum 1 (fun j=>sum (z (o (t+j))) (fun b=>elS z o M t (qm z (o t)+c) (qm z (o (t+j))+b)*x (qm z (o (t+j))+b)))=sum (z (o t)) (fun b=>fsS z o m F t (o t) (o t) c b*x (qm z (o t)+b)):=by
   rw[zg,jI];rw[show t+0=t by omega,qf (n:=z (o t)) (fun b hb=>by rw[<-e1 (o t) (o t) hkm hkm hkn hkn c hc b hb])];rw[show Fsy (fsS z o m F t) (o t) (o t)=fsS z o m F t (o t) (o t) by funext a b;unfold Fsy;rw[if_pos (q_r)]]
   grind
  rw[h8];have h9:sum (m-(t+1)) (fun j=>sum (z (o (t+(1+j)))) (fun b=>elS z o M t (qm z (o t)+c) (qm z (o (t+(1+j)))+b)*x (qm z (o (t+(1+j)))+b)))=sum (m-(t+1)) (fun s=>sum (z (o (t+1+s))) (fun b=>elS z o M t (qm z (o t)+c) (qm z (o (t+1+s))+b)*x (qm z (o (t+1+s))+b))):=qf fun j _=>by rw[Nat.add_assoc]
  rw[h9]
  grind
 have hpv:=(q1m H ht hpt).2 (hp t ht);have h1:=(jq hpv).2;unfold xS av;rw[qf (fun c hc=>by rw[hy c hc])];have h2:sum (z (o t)) (fun c=>kN (z (o t)) (fsS z o m F t (o t) (o t)) a c*sum (z (o t)) (fun b=>fsS z o m F t (o t) (o t) c b*x (qm z (o t)+b)))=mm (z (o t)) (kN (z (o t)) (fsS z o m F t (o t) (o t))) (mm (z (o t)) (fsS z o m F t (o t) (o t)) (fun b _=>x (qm z (o t)+b))) a 0:=rfl;rw[h2,<-jX,xu (a':=dlt) (b':=fun b _=>x (qm z (o t)+b)) (fun c hc=>h1 a ha c hc) (fun _ _=>rfl),VB _ ha]
end
theorem Xg {ops:Array Oper}{o:Oper}{a:Act}{K:Act->World->Prop}{Q:Exit->Act->World->Prop}{E:Prop}
  (hg:o.guard=none) (d x:Operand) (dT sT:TypeId) (hop:o.op=Op.call { callee:=Callee.builtin Builtin.copy,args:=#[d,x],argTypes:=#[dT,sT] })
  (v u:Value) (hd:a.eval d=v) (hx:a.eval x=u){v':Value}(hr:(Builtin.copy_ #[dT,sT] o.type #[v,u]).run Tryz.prog w=.ok v' w') (hK:K (a.put o.dst v') w') :
  if Region.wanted o (yielded ops a.tmps)=true then Oper.wp Tryz.prog o a w K Q else E:=by
 have hw:Region.wanted o (yielded ops a.tmps)=true:=by simp[Region.wanted,hg]
 rw[if_pos hw];unfold Oper.wp;simp[execOp,hop,resolve,invoke,builtin,hd,hx,hr,Result.andThen]
 exact hK
end Go.Proofs.YtpkmjhmmmdkodaaGreat
