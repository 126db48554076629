import Derived.Test.YtflhlobiipejeaaGreatWb25
set_option linter.all false
set_option maxHeartbeats 8000000
namespace Go.Proofs.YtflhlobiipejeaaGreat
open Go.RowKit
variable {w:World} {N n lo hi i:Nat} {v:Value}
def q4Y:Value:=.agg #[.slice none 0 0,.slice none 0 0,.slice none 0 0]
def Xz (N:Nat) (w:World) (Z:Sys) (z:Nat->Nat) (L:Nat->Int) (nl:Nat) (M:q_m) (y:q_v) (E:Nat->Bool) (n:Nat) (e:Ending) (w':World):Prop :=
 Ext w w'/\((yG L nl Z.ns≠0/\e=.returned (.tuple #[q4Y,.int .i64 (yG L nl Z.ns)])) \/
  (yG L nl Z.ns=0/\xe (kJ E) n=0/\e=.returned (.tuple #[q4Y,.int .i64 11])) \/
  (yG L nl Z.ns=0/\0<xe (kJ E) n/\¬Reg (xe E n) (x9 M (enF E n))/\e=.returned (.tuple #[q4Y,.int .i64 14])) \/
  (yG L nl Z.ns=0/\0<xe (kJ E) n/\Reg (xe E n) (x9 M (enF E n))/\∃(v:Value) (Z':Sys),e=.returned (.tuple #[v,.int .i64 0])/\jI N 0 w'.heap.size w' v Z'/\Z'.ns=(xQ (fun k=>!inL L nl k) Z.ns).length/\Z'.k=xe (kJ E) n /\
   V4 Z' (fun a=>z ((xQ (fun k=>!inL L nl k) Z.ns)[a]?.getD 0)) (Xp M E n) (q1b M y E n)/\NzB Z'.b Z'.nb))
theorem q3j (E:Nat->Bool) (n:Nat):(JP E n).length<=n:=by
 unfold JP;exact q_l (List.length_filter_le _ _) (by simp)
theorem JY (x:Rat):x-0=x:=by grind
theorem q4B (M:q_m):Reg 0 M:=fun _ _ c hc=>absurd hc (Nat.not_lt_zero c)
set_option maxRecDepth 100000 in
theorem ZZ {lo' hi':Nat}{u:Value}{Z:Sys}(h:jI N lo hi w v Z) (hBz:∀i,i<Z.nb->q6C (Z.b i)) (hkz:∀i,i<Z.k->jJ (Z.R i)) (h0:vH Z=0){z:Nat->Nat}(hz:∀i,i<Z.ns->Z.z i=(z i:Int)){nl:Nat}{L:Nat->Int}(hu:IzV N lo' hi' w u nl L) (hl:nl<1000)
(hn:ql z Z.ns=n){y:q_v}(hy:∀i,i<Z.k->Z.R i=raw (y i)){K0:Nat}(hM:HtM n n K0 (kK Z z)) (hyH:HtL n K0 y) (hK1:∀k,k<=n->5*(5 ^ k*(K0+1))<=29000000000/\gK k K0<=29000000000) :
  Calls Tryz.prog 14 #[v,u] w (Xz N w Z z L nl (kK Z z) y (goE Z z L nl) n):=by
 obtain⟨Q,hQ⟩:=qc (Xz N w Z z L nl (kK Z z) y (goE Z z L nl) n);rw[<-hQ.out];have HO:=q_h (QG h0);have HZ:=q_h hz;have HU:=q_h hu;have HN:=q_h hn;have HY:=q_h hy;have HMH:=q_h hM;have HYH:=q_h hyH;have HK1:=q_h hK1;obtain⟨A1,c1,A2,c2,A3,c3,rfl,s1,s2,s3,k1,k2,k3⟩:=h.parts;have HI:=q_h s1;have HR:=q_h s3;have hN:=LsR.le s3;have HCK:=fun (w':World) (e:Ext w w')=>JI (h.ext e) hBz hkz
 rw[h0] at HCK;have HDV:=fun (w':World) (e:Ext w w')=>q5J (h.ext e) (QG h0) hz (hu.ext e) hl
 have HCK':=q_h HCK;have HDV':=q_h HDV;obtain⟨A4,c4,rfl,hnc,hcn⟩:=hu.form;unfold maxLen at hcn
 have HKN:Hid (Z.k=n):=by
  rw[Hid];have h1:=HO.out.len;rw[ku hz] at h1;omega
 have hn64:n<=64:=by
  have h1:=HO.out.tot;rw[ku hz] at h1;omega
 have hns12:=HO.out.n2;clear h hBz hkz h0 hz hu s1 s2 s3 HCK HDV hn hy hM hyH hK1;go_enter Tryz.func14,Tryz.ntmps14;go_upto_region 1 with (fail);refine kD ?_;intro w1 hE hsz B0 B4;obtain⟨g0,hg0⟩:=qc w.heap.size;have hgw:w.heap.size<=g0:=by rw[hg0.out];exact q_r
 rw[<-hg0.out] at B0 B4 hsz ⊢;obtain⟨a0,a1,a2,-⟩:=cells3 B0;clear hg0;go_wp2_with (go_at_call 34;refine q_o ?_);refine (HCK'.out _ hE).mono ?_;rintro e w2 ⟨rfl,e2⟩;replace hE:=hE.trans e2;replace B0:=e2.block B0;replace B4:=e2.block B4;replace hsz:=q_l hsz e2.size;clear a0 a1 a2 HCK' e2;obtain⟨a0,a1,a2,-⟩:=cells3 B0;go_wp2_with (go_at_call 46;refine q_o ?_);refine (HDV'.out _ hE).mono ?_;rintro e w3 ⟨e3,⟨hc,rfl⟩|⟨hc,E0,d0,E1,d1,E2,d2,E3,d3,rfl,x0,x1,x2,x3⟩⟩
 ·have HC:=q_h hc;have hc1:(yG L nl Z.ns != 0)=true:=by simpa using hc
  obtain⟨cd,hcd⟩:=qc (yG L nl Z.ns);rw[<-hcd.out] at hc1 HC ⊢;replace hE:=hE.trans e3;replace B0:=e3.block B0;replace B4:=e3.block B4;replace hsz:=q_l hsz e3.size;unfold Yv;clear hc a0 a1 a2 HDV' e3;go_upto_region 5 with (fail);refine qo ?_;intro w4 e4 hsz4 B7;replace hE:=hE.trans e4;replace B0:=e4.block B0;replace B4:=e4.block B4;replace hsz:=q_l hsz e4.size;clear e4;obtain⟨x0,x1,x2,u0,u1,u2⟩:=cells3 B4;go_wp2;obtain⟨w10,E10,D10,U10⟩:=ex3 B4 (.slice none 0 0) (.slice none 0 0) (.slice none 0 0);rw[E10];have C10:=U10.chg (NoU.mk B4 (by decide));have hE10:=C10.ext hE (by omega);clear x0 x1 x2;obtain⟨x0,x1,x2,-⟩:=cells3 D10;refine bodyPost_ret (v:=.tuple #[q4Y,.int .i64 cd]) ?_ rfl ?_
  ·simp[results,x0,x1,x2,go_sem,q4Y]
  ·rw[hQ.out];unfold Xz;rw[<-hcd.out];exact⟨hE10,.inl ⟨HC.out,rfl⟩⟩
 have HC:=q_h hc;have HX0:=q_h x0;have HX1:=q_h x1;have HX2:=q_h x2;have HX3:=q_h x3;obtain⟨E,hEE⟩:=qc (goE Z z L nl)
 have HL0:Hid ((xP z (inL L nl) Z.ns).length=xe E n/\(fun a=>(xP z (inL L nl) Z.ns)[a]?.getD 0)=enF E n):=by
  rw[Hid,hEE.out,vN (m:=Z.ns) Z.ns (q_r),HN.out];exact⟨rfl,rfl⟩
 have HL1:Hid ((xP z (fun k=>!inL L nl k) Z.ns).length=xe (kJ E) n/\(fun a=>(xP z (fun k=>!inL L nl k) Z.ns)[a]?.getD 0)=enF (kJ E) n):=by
  rw[Hid,hEE.out,q7h,vN (m:=Z.ns) Z.ns (q_r),HN.out];exact⟨rfl,rfl⟩
 have HOF:Hid (ql (fun a=>z ((xQ (fun k=>!inL L nl k) Z.ns)[a]?.getD 0)) (xQ (fun k=>!inL L nl k) Z.ns).length=xe (kJ E) n):=by
  rw[Hid,<-HL1.out.1];exact (V8 z _ Z.ns).symm
 rw[HL0.out.1,HL0.out.2,HN.out] at HX0;rw[HL1.out.1,HL1.out.2,HN.out] at HX1;rw[HN.out] at HX3;have hrl:=Wy (fun k=>!inL L nl k) Z.ns;obtain⟨ns',hns'⟩:=qc (xQ (fun k=>!inL L nl k) Z.ns).length;rw[<-hns'.out] at HX2 HOF hrl
 have hkE:xe E n<=n:=by
  have:=(q3j E n)
  exact this
 have hkE':xe (kJ E) n<=n:=q3j (kJ E) n;rw[HL0.out.1,HL1.out.1,HN.out,<-hns'.out];obtain⟨k,hk⟩:=qc (xe E n);obtain⟨n1,hn1⟩:=qc (xe (kJ E) n);rw[<-hk.out] at HX0 hkE ⊢;rw[<-hn1.out] at HX1 HOF hkE' ⊢;replace hE:=hE.trans e3;replace B0:=e3.block B0;replace B4:=e3.block B4;replace hsz:=q_l hsz e3.size;clear hc x0 x1 x2 x3 a0 a1 a2 HDV' e3;go_upto_region 5 with (fail);refine qo ?_;intro w4 e4 hsz4 B7;obtain⟨g7,hg7⟩:=qc w3.heap.size;have hg73:w3.heap.size<=g7:=by rw[hg7.out];exact q_r
 rw[<-hg7.out] at B7 ⊢;replace hE:=hE.trans e4;replace B0:=e4.block B0;replace B4:=e4.block B4;replace hsz:=q_l hsz e4.size;replace HX0:=q_h (HX0.out.ext e4);replace HX1:=q_h (HX1.out.ext e4);replace HX2:=q_h (HX2.out.ext e4);replace HX3:=q_h (MtR.ext HX3.out e4);clear e4 hg7 hsz4;obtain⟨b0,b1,b2,b3,b4⟩:=zq B7
 by_cases h1:n1=0
 ·have t1:((n1:Int) == 0)=true:=by rw[h1];rfl
  have HN1:Hid (xe (kJ E) n=0):=by rw[Hid,<-hn1.out];exact h1
  clear h1;obtain⟨x0,x1,x2,u0,u1,u2⟩:=cells3 B4;go_wp2;obtain⟨w10,E10,D10,U10⟩:=ex3 B4 (.slice none 0 0) (.slice none 0 0) (.slice none 0 0);rw[E10];have C10:=U10.chg (NoU.mk B4 (by decide));have hE10:=C10.ext hE (by omega);clear x0 x1 x2;obtain⟨x0,x1,x2,-⟩:=cells3 D10;refine bodyPost_ret (v:=.tuple #[q4Y,.int .i64 11]) ?_ rfl ?_
  ·simp[results,x0,x1,x2,go_sem,q4Y]
  ·rw[hQ.out];unfold Xz;rw[<-hEE.out];exact⟨hE10,.inr (.inl ⟨HC.out,HN1.out,rfl⟩)⟩
 have t1:((n1:Int) == 0)=false:=by simpa using h1
 have hn0:0<n1:=by omega
 have HRV:Hid (LsV N lo hi w (.slice A3 Z.k c3) Z.k y):=HR.out.congr HY.out;have HX1':Hid (IxV N 0 w3.heap.size w4 (.slice E1 n1 d1) n1 Z.k (enF (kJ E) n)):=by rw[HKN.out];exact HX1.out
 have HX0':Hid (IxV N 0 w3.heap.size w4 (.slice E0 k d0) k Z.k (enF E n)):=by rw[HKN.out];exact HX0.out
 obtain⟨M,hM⟩:=qc (kK Z z);have HX3':Hid (MtV N 0 w3.heap.size w4 (.slice E3 n d3) n n M):=by rw[Hid,hM.out];exact HX3.out
 rw[<-hM.out] at HMH;have HE4:=q_h hE;clear HX3 h1 hE;go_upto_region 9 with (fail);refine yB [Mn.eq (.agg #[.slice E0 k d0,.slice E1 n1 d1,.slice E2 ns' d2,.slice E3 n d3,.slice A3 Z.k c3]),Mn.q g7 1,Mn.eq (.slice E1 n1 d1),Mn.q g7 1,Mn.eq (.slice E1 n1 d1),Mn.mt N n1 n1 (fun a b=>M (enF (kJ E) n a) (enF (kJ E) n b)),Mn.q g7 4,Mn.eq (.slice A3 Z.k c3),Mn.q g7 1,Mn.eq (.slice E1 n1 d1),Mn.ls N n1 (fun a=>y (enF (kJ E) n a)),Mn.mt N n1 n1 (fun a b=>M (enF (kJ E) n a) (enF (kJ E) n b)),Mn.ls N n1 (fun a=>y (enF (kJ E) n a))] (sM [42,43,44,45,46,47,48,49,50,51,52,9,10]) [] (rQ 13 0) 0 (by kernel_rfl) ?_ ?_
 ·show ∀i,i<13->_
  iterate 13 refine fs ?_ ?_
  ·exact fz
  all_goals intro hl;clear hl;refine stp rfl ?_;intro ac wi eI hB hA K hK
  have o7:=oOf (hB 7) rfl;have cc0:=eI.cell b0;have cc1:=eI.cell b1;have cc2:=eI.cell b2;have cc3:=eI.cell b3;have cc4:=eI.cell b4;rotate_left;have o7:=oOf (hB 7) rfl;rotate_left;obtain⟨_,s43,rfl⟩:=hA 1 43;have cc0:=eI.cell b1;rotate_left;have o7:=oOf (hB 7) rfl;rotate_left;obtain⟨_,s45,rfl⟩:=hA 3 45;have cc0:=eI.cell b1;rotate_left;obtain⟨_,s42,rfl⟩:=hA 0 42;obtain⟨_,s44,rfl⟩:=hA 2 44;obtain⟨_,s46,rfl⟩:=hA 4 46;clear hB hA
  ·go_simp;refine (q0u (MtR.ext HX3'.out eI) (HX1.out.ext eI) (HX1.out.ext eI) (by omega) (by omega)).mono ?_;rintro e wj ⟨Aj,cj,rfl,hj,ej⟩;go_wp2_with fail;exact hK.out _ _ ej (MtV.all hj)
  have o7:=oOf (hB 7) rfl;rotate_left;obtain⟨_,s48,rfl⟩:=hA 6 48;have cc0:=eI.cell b4;rotate_left;have o7:=oOf (hB 7) rfl;rotate_left;obtain⟨_,s50,rfl⟩:=hA 8 50;have cc0:=eI.cell b1;rotate_left;obtain⟨_,s49,rfl⟩:=hA 7 49;obtain⟨_,s51,rfl⟩:=hA 9 51;clear hB hA
  ·go_simp;refine (YX (HRV.out.ext (HE4.out.trans eI)) (HX1'.out.ext eI) (by omega)).mono ?_;rintro e wj ⟨Aj,cj,rfl,hj,ej⟩;go_wp2_with fail;exact hK.out _ _ ej (LsV.all hj)
  obtain⟨x47,s47,j47⟩:=hA 5 47;replace j47:Mn.p (Mn.mt N n1 n1 (fun a b=>M (enF (kJ E) n a) (enF (kJ E) n b))) x47 wi:=j47;clear hB hA
  ·go_simp;exact q_k hK j47
  obtain⟨x52,s52,j52⟩:=hA 10 52;replace j52:Mn.p (Mn.ls N n1 (fun a=>y (enF (kJ E) n a))) x52 wi:=j52;clear hB hA
  ·go_simp;exact q_k hK j52
  all_goals clear hB hA;go_simp;exact q_k hK rfl
 intro vals wz eZ hJ;have J9:Mn.p (Mn.mt N n1 n1 (fun a b=>M (enF (kJ E) n a) (enF (kJ E) n b))) (vals 11) wz:=hJ 11 (by decide) (by decide);have J10:Mn.p (Mn.ls N n1 (fun a=>y (enF (kJ E) n a))) (vals 12) wz:=hJ 12 (by decide) (by decide);clear hJ;simp only[pr,Nat.reduceAdd]
 generalize vals 11=z9 at J9 ⊢
 generalize vals 12=z10 at J10 ⊢
 have hm9:=J9;have hr9:=J10;obtain⟨Am,cm,hvm,-,-⟩:=MtR.form hm9;obtain⟨Ar,cr,hvr,-,-⟩:=LsR.form hr9;rw[hvm] at hm9 ⊢;rw[hvr] at hr9 ⊢;refine qg (by kernel_rfl) ?_ _;have HM9:Hid (MtV N 0 wz.heap.size wz (.slice Am n1 cm) n1 n1 (fun a b=>M (enF (kJ E) n a) (enF (kJ E) n b))):=hm9;have HR9:Hid (LsV N 0 wz.heap.size wz (.slice Ar n1 cr) n1 (fun a=>y (enF (kJ E) n a))):=hr9;have HEZ:=q_h eZ;have HB7:=q_h (eZ.block B7);have HB0:=q_h (eZ.block B0);have HB4:=q_h (eZ.block B4);have hzs:=eZ.size;obtain⟨wA,hwA⟩:∃wA,wA=wz:=⟨_,rfl⟩
 subst hwA;have HEA:Hid (Ext w wA):=HE4.out.trans HEZ.out;clear hm9 hr9 hvm hvr b0 b1 b2 b3 b4 B7 B0 B4 eZ t1;have HBK:Hid (5*(5 ^ k*(K0+1))<=29000000000/\gK k K0<=29000000000):=HK1.out k hkE;obtain⟨b0,b1,b2,b3,b4⟩:=zq HB7.out
 go_upto_if 56 with (fail)
 clear b0 b1 b2 b3 b4
 go_cut [9,10] (fun mv rv wx=>∃(A:Option Addr) (c:Nat) (A':Option Addr) (c':Nat),mv=.slice A n1 c/\rv=.slice A' n1 c'/\Hid (MtV N 0 wx.heap.size wx (.slice A n1 c) n1 n1 (Xp M E n))/\Hid (LsV N 0 wx.heap.size wx (.slice A' n1 c') n1 (q1b M y E n))/\Hid (Reg k (x9 M (enF E n)))/\Ext wA wx)
 case first =>
  by_cases hk0:k=0
  ·have t2:decide (0<(k:Int))=false:=q_f (by omega);have t2':¬0<k:=by omega
   have HS0:Hid (∀a b,M (enF (kJ E) n a) (enF (kJ E) n b)=Xp M E n a b):=fun a b=>by
    unfold Xp mm;rw[<-hk.out,hk0,xJ];exact (JY _).symm
   have HR0:Hid (∀a,y (enF (kJ E) n a)=q1b M y E n a):=fun a=>by
    unfold q1b av;rw[<-hk.out,hk0,xJ];exact (JY _).symm
   have HRG:Hid (Reg k (x9 M (enF E n))):=by rw[Hid,hk0];exact q4B _
   have HM0:Hid (MtV N 0 wA.heap.size wA (.slice Am n1 cm) n1 n1 (Xp M E n)):=MtV.congr HM9.out (fun a _ b _=>HS0.out a b);have HR1:Hid (LsV N 0 wA.heap.size wA (.slice Ar n1 cr) n1 (q1b M y E n)):=LsV.congr HR9.out (fun a _=>HR0.out a);obtain⟨b0,b1,b2,b3,b4⟩:=zq HB7.out;clear hk0;go_wp2
   go_meet
   exact⟨Am,cm,Ar,cr,rfl,rfl,HM0,HR1,HRG,Ext.refl _⟩
  have t2:decide (0<(k:Int))=true:=q_t (by omega);have t2':0<k:=by omega
  obtain⟨b0,b1,b2,b3,b4⟩:=zq HB7.out;go_wp2_with (go_at_call 47;refine q_o ?_);refine (q0u (MtR.ext HX3'.out HEZ.out) (HX0.out.ext HEZ.out) (HX0.out.ext HEZ.out) (by omega) (by omega)).mono ?_;rintro e w5 ⟨A5,c5,rfl,h5,e5⟩;have HM5:=q_h h5
  have HSH:Hid (HtM k k K0 (fun a b=>M (enF E n a) (enF E n b))):=by
   rw[hk.out];exact fun a ha b hb=>HMH.out _ (kQ ha) _ (kQ hb)
  clear h5;go_wp2_with (go_at_call 49;refine q_o ?_);refine (YA HM5.out t2' (by omega) HSH.out HBK.out.1).mono ?_;rintro e w6 ⟨e6,⟨h1,rfl⟩|⟨h1,g6,c6,β6,κ6,rfl,hc6,ho6⟩⟩
  ·have HNR:Hid (¬Reg k (x9 M (enF E n))):=fun hr=>by
    have:=Za.2 hr;have h9:(zI k (Qh k (fun a b=>M (enF E n a) (enF E n b))) k).2.length=k:=this;omega
   clear h1 b0 b1 b2 b3 b4;have hE:=(HEA.out.trans e5).trans e6;have B4:=e6.block (e5.block HB4.out);have hsz:=q_l (q_l (q_l hsz hzs) e5.size) e6.size;obtain⟨x0,x1,x2,u0,u1,u2⟩:=cells3 B4;go_wp2;obtain⟨w10,E10,D10,U10⟩:=ex3 B4 (.slice none 0 0) (.slice none 0 0) (.slice none 0 0);rw[E10];have C10:=U10.chg (NoU.mk B4 (by decide));have hE10:=C10.ext hE (by omega);clear x0 x1 x2;obtain⟨x0,x1,x2,-⟩:=cells3 D10;refine bodyPost_ret (v:=.tuple #[q4Y,.int .i64 14]) ?_ rfl ?_
   ·simp[results,x0,x1,x2,go_sem,q4Y]
   ·rw[hQ.out];unfold Xz;rw[<-hEE.out,<-hM.out,<-hk.out,<-hn1.out];exact⟨hE10,.inr (.inr (.inl ⟨HC.out,hn0,HNR.out,rfl⟩))⟩
  have HRG:Hid (Reg k (x9 M (enF E n))):=Za.1 (Nat.le_antisymm (vX k _ k).1 h1);obtain⟨I,hI⟩:=qc (q90 M E n)
  have hI':(fun i j=>(zI k (Qh k (fun a b=>M (enF E n a) (enF E n b))) k).1 i (k+j))=I:=by
   rw[hI.out];unfold q90;rw[<-hk.out]
   rfl
  have hio:=ho6;rw[show qU N w5.heap.size w6.heap.size w6 g6 c6 k k β6 κ6 (fun i j=>(zI k (Qh k (fun a b=>M (enF E n a) (enF E n b))) k).1 i (k+j))=qU N w5.heap.size w6.heap.size w6 g6 c6 k k β6 κ6 I by rw[hI']] at hio;have HM6:=q_h (hio.mtv hio.mle hc6);obtain⟨kI,hkI⟩:=qc (5 ^ k*(K0+1));obtain⟨kF,hkF⟩:=qc (k*(K0+kI+1)+1)
  have hb1:kI+2<=29000000000:=by
   have h1:=HBK.out.1;rw[<-hkI.out] at h1;have:1<=kI:=by rw[hkI.out];exact Nat.succ_le_of_lt (Nat.mul_pos (Nat.pow_pos (by omega)) (by omega))
   omega
  have hb2:kF<=29000000000/\k*(kF+K0+1)+1<=29000000000/\K0<=29000000000:=by
   have h1:=HBK.out.2;unfold gK at h1;rw[<-hkI.out,<-hkF.out] at h1;have h2:kF+K0+1<=k*(kF+K0+1):=Nat.le_mul_of_pos_left _ t2';omega
  have HIH:Hid (HtM k k kI I):=by
   rw[Hid,hkI.out,hI.out];unfold q90;rw[<-hk.out];exact ZJ HSH.out
  have HLE:Hid (HtM n1 k K0 (fun a i=>M (enF (kJ E) n a) (enF E n i))):=by
   rw[hn1.out,hk.out];exact fun a ha b hb=>HMH.out _ (kQ ha) _ (kQ hb)
  have HEL:Hid (HtM k n1 K0 (fun i b=>M (enF E n i) (enF (kJ E) n b))):=by
   rw[hn1.out,hk.out];exact fun a ha b hb=>HMH.out _ (kQ ha) _ (kQ hb)
  have HE6:Hid (Ext wA w6):=e5.trans e6;clear h1 ho6 hio hI' HSH HM5 e5 e6 b0 b1 b2 b3 b4;obtain⟨b0,b1,b2,b3,b4⟩:=zq (HE6.out.block HB7.out);go_wp2_with (go_at_call 47;refine q_o ?_);refine (q0u (MtR.ext HX3'.out (HEZ.out.trans HE6.out)) (HX1.out.ext (HEZ.out.trans HE6.out)) (HX0.out.ext (HEZ.out.trans HE6.out)) (by omega) (by omega)).mono ?_;rintro e w7 ⟨A7,c7,rfl,h7,e7⟩;have HM7:=q_h h7;have HE7:Hid (Ext wA w7):=HE6.out.trans e7;replace HM6:=q_h (MtR.ext HM6.out e7);clear h7 e7 HE6 b0 b1 b2 b3 b4;go_wp2_with (go_at_call 50;refine q_o ?_);refine (q53 HM7.out HM6.out hn0 (by omega) t2' (by omega) t2' (by omega) HLE.out HIH.out (by rw[<-hkF.out];exact hb2.1)).mono ?_;rintro e w8 ⟨g8,c8,β8,κ8,rfl,hc8,ho8,e8⟩;obtain⟨F,hF⟩:=qc (q6k M E n)
  have HF8:Hid (MtV N w7.heap.size w8.heap.size w8 (.slice (some ⟨g8,0,none⟩) n1 c8) n1 k F):=by
   rw[Hid,hF.out];unfold q6k;rw[<-hk.out,<-hI.out];exact ho8.mtv ho8.mle hc8
  have HFH:Hid (HtM n1 k kF F):=by
   rw[Hid,hF.out,hkF.out];unfold q6k;rw[<-hk.out,<-hI.out];exact QL HLE.out HIH.out
  have HE8:Hid (Ext wA w8):=HE7.out.trans e8;clear ho8 e8 HE7 HM7 HM6 hc8 HIH HLE;obtain⟨b0,b1,b2,b3,b4⟩:=zq (HE8.out.block HB7.out);go_wp2_with (go_at_call 47;refine q_o ?_);refine (q0u (MtR.ext HX3'.out (HEZ.out.trans HE8.out)) (HX0.out.ext (HEZ.out.trans HE8.out)) (HX1.out.ext (HEZ.out.trans HE8.out)) (by omega) (by omega)).mono ?_;rintro e w9 ⟨A9,c9,rfl,h9,e9⟩;have HM9':=q_h h9;have HF9:=q_h (MtR.ext HF8.out e9);have HE9:Hid (Ext wA w9):=HE8.out.trans e9;clear h9 e9 HE8 HF8 b0 b1 b2 b3 b4;go_wp2_with (go_at_call 50;refine q_o ?_);refine (q53 HF9.out HM9'.out hn0 (by omega) t2' (by omega) hn0 (by omega) HFH.out HEL.out hb2.2.1).mono ?_;rintro e w10 ⟨g10,c10,β10,κ10,rfl,hc10,ho10,e10⟩;obtain⟨C,hC⟩:=qc (mm k F (fun i b=>M (enF E n i) (enF (kJ E) n b)));rw[<-hC.out] at ho10;have HC10:=q_h (ho10.mtv ho10.mle hc10)
  have HCH:Hid (HtM n1 n1 (k*(kF+K0+1)+1) C):=by
   rw[Hid,hC.out];exact QL HFH.out HEL.out
  have HF10:=q_h (MtR.ext HF9.out e10);have HE10:Hid (Ext wA w10):=HE9.out.trans e10
  have HMS:Hid (∀i,i<n1->∀j,j<n1->Sz (M (enF (kJ E) n i) (enF (kJ E) n j))):=by
   rw[hn1.out];exact fun a ha b hb=>(HMH.out _ (kQ ha) _ (kQ hb)).sz hb2.2.2
  clear ho10 e10 HE9 HM9' HF9 hc10 HEL;go_wp2_with (go_at_call 51;refine q_o ?_);refine (q7k (MtR.ext HM9.out HE10.out) HC10.out hn0 (by omega) hn0 (by omega) HMS.out (fun i hi j hj=>(HCH.out i hi j hj).sz hb2.2.1)).mono ?_;rintro e w11 ⟨g11,c11,β11,κ11,rfl,hc11,ho11,e11⟩
  have HS11:Hid (MtV N 0 w11.heap.size w11 (.slice (some ⟨g11,0,none⟩) n1 c11) n1 n1 (Xp M E n)):=by
   refine MtV.congr (MtR.wide (ho11.mtv ho11.mle hc11) (by omega) (q_r) (q_r)) fun a _ b _=>?_
   unfold Xp;rw[<-hk.out,<-hF.out,<-hC.out]
  have HF11:=q_h (MtR.ext HF10.out e11);have HE11:Hid (Ext wA w11):=HE10.out.trans e11;clear ho11 e11 HE10 HC10 HF10 hc11 HCH HMS;obtain⟨b0,b1,b2,b3,b4⟩:=zq (HE11.out.block HB7.out);go_wp2_with (go_at_call 48;refine q_o ?_);refine (YX (HRV.out.ext (HEA.out.trans HE11.out)) (HX0'.out.ext (HEZ.out.trans HE11.out)) (by omega)).mono ?_;rintro e w12 ⟨A12,c12,rfl,h12,e12⟩;have HL12:=q_h h12
  have HLH:Hid (HtL k K0 (fun i=>y (enF E n i))):=by
   rw[hk.out];exact fun a ha=>HYH.out _ (kQ ha)
  go_wp2_with (go_at_call 40;refine q_o ?_);refine (JG (MtR.ext HF11.out e12) HL12.out HFH.out HLH.out hb2.2.1 (by omega)).mono ?_;rintro e w13 ⟨A13,c13,rfl,h13,e13⟩;obtain⟨D,hD⟩:=qc (av k F (fun i=>y (enF E n i)));rw[<-hD.out] at h13;have HL13:=q_h h13
  have HDH:Hid (HtL n1 (k*(kF+K0+1)+1) D):=fun a ha=>by
   rw[hD.out];unfold av;exact wR fun i hi=>(HFH.out a ha i hi).mul (HLH.out i hi)
  have HYS:Hid (∀i,i<n1->Sz (y (enF (kJ E) n i))/\Sz (D i)):=fun a ha=>⟨(HYH.out _ (kQ (by rw[<-hn1.out];exact ha))).sz hb2.2.2,(HDH.out a ha).sz hb2.2.1⟩
  have HE13:Hid (Ext wA w13):=(HE11.out.trans e12).trans e13;have HE113:Hid (Ext w11 w13):=e12.trans e13;clear h12 h13 e12 e13 HL12 b0 b1 b2 b3 b4;go_wp2_with (go_at_call 39;refine q_o ?_);refine (q3W (HR9.out.ext HE13.out) HL13.out HYS.out (by omega)).mono ?_;rintro e w14 ⟨A14,c14,rfl,h14,e14⟩
  have HR14:Hid (LsV N 0 w14.heap.size w14 (.slice A14 n1 c14) n1 (q1b M y E n)):=by
   refine LsV.congr (LsR.wide h14 (by omega) (q_r) (q_r)) fun a _=>?_
   unfold q1b;rw[<-hk.out,<-hF.out,<-hD.out]
  have HS14:Hid (MtV N 0 w14.heap.size w14 (.slice (some ⟨g11,0,none⟩) n1 c11) n1 n1 (Xp M E n)):=by
   have h1:=MtR.ext HS11.out (HE113.out.trans e14);exact MtR.wide h1 (Nat.zero_le _) ((HE113.out.trans e14).size) (q_r)
  have HE14:Hid (Ext wA w14):=HE13.out.trans e14;clear h14 e14;go_wp2
  go_meet
  exact⟨_,_,_,_,rfl,rfl,HS14,HR14,HRG,HE14⟩
 obtain⟨A15,c15,A16,c16,rfl,rfl,HS15,HR15,HRG,HE15⟩:=hcut;obtain⟨w15,hw15⟩:∃w15,w15=wc:=⟨_,rfl⟩
 subst hw15;replace HE15:=q_h HE15;obtain⟨ro,hro⟩:=qc (fun a:Nat=>(xQ (fun k=>!inL L nl k) Z.ns)[a]?.getD 0);have HRO:Hid (∀a,(xQ (fun k=>!inL L nl k) Z.ns)[a]?.getD 0=ro a):=fun a=>by rw[hro.out]
 have HOF':Hid (ql (fun a=>z (ro a)) ns'=n1):=by
  have h1:=HOF.out;simp only[HRO.out] at h1;exact h1
 have HX2':Hid (IxV N 0 w3.heap.size w4 (.slice E2 ns' d2) ns' Z.ns ro):=by
  have h1:=HX2.out;simp only[HRO.out] at h1;exact h1
 have hzs15:=HE15.out.size
 have HQ0:Hid (∀(v:Value) (Z':Sys) (w':World),Ext w w'->jI N 0 w'.heap.size w' v Z'->Z'.ns=ns'->Z'.k=n1->V4 Z' (fun a=>z (ro a)) (Xp M E n) (q1b M y E n)->NzB Z'.b Z'.nb->Q (.returned (.tuple #[v,.int .i64 0])) w'):=by
  intro v Z' w' e h1 h2 h3 h4 h5;rw[hQ.out];unfold Xz;rw[<-hEE.out,<-hM.out,<-hk.out,<-hn1.out,<-hns'.out];refine⟨e,.inr (.inr (.inr ⟨HC.out,hn0,HRG.out,v,Z',rfl,h1,h2,h3,?_,h5⟩))⟩;simp only[HRO.out];exact h4
 have HE415:Hid (Ext w4 w15):=HEZ.out.trans HE15.out;clear HOF HX2 HX0 HX1 HX0' HX1' HX3' HL0 HL1 HM9 HR9 J9 J10 HRV HR;obtain⟨b0,b1,b2,b3,b4⟩:=zq (HE15.out.block HB7.out);go_wp2_with (at_make;refine q_o ?_);refine QT rfl _ _ rfl .i64 .i64 _ ns' rfl rfl rfl (by omega) ?_;intro w16 hG16 e16;obtain⟨gk,hgk⟩:=qc w15.heap.size;rw[<-hgk.out] at hG16 ⊢;have HG0:=q_h hG16;have HE16:=q_h (HEA.out.trans HE15.out);have HE416:=HE415;have HB716:=q_h (HE15.out.block HB7.out);have HB016:=q_h (HE15.out.block HB0.out);have HB416:=q_h (HE15.out.block HB4.out);have HS16:=HS15;have HR16:=HR15;have HE1516:=q_h e16;have hk16:g0+2<=gk:=by rw[hgk.out];omega
 have hw16:w.heap.size<=gk:=by omega
 clear hG16 e16 b0 b1 b2 b3 b4 HB7 HB0 HB4 HS15 HR15 HEZ HE4;obtain⟨b0,b1,b2,b3,b4⟩:=zq (HE1516.out.block HB716.out);go_wp2_with fail
 go_loopw [115,18] (fun iv ov wr=>∃(i:Nat) (A:Option Addr) (c:Nat),i<=ns'/\iv=.int .i64 (i:Int)/\ov=.slice A i c/\Hid (qO 3 gk wr (.slice A i c) (ivs ((List.range i).map (fun a=>z (ro a)))))/\Hid (Ext w15 wr)) (fun iv _ _=>ns' - (intOf iv).toNat)
 case atStart=>exact⟨0,_,_,Nat.zero_le _,rfl,rfl,HG0,HE1516⟩
 case round =>
  clear HG0;obtain⟨i,A,c,hi9,rfl,rfl,HG,HEi⟩:=hrel;have HEw:=q_h (HE16.out.trans HEi.out);have HB0i:=q_h (HEi.out.block HB016.out)
  by_cases hlt:i<ns'
  case pos =>
   have t1:decide ((i:Int)<(ns':Int))=true:=q_t (by omega);have t2:(i:Int)<(ns':Int):=by omega
   have hro9:=HX2'.out.2 i hlt;have HZR:Hid (Z.z (ro i)=(z (ro i):Int)):=HZ.out _ hro9;have HEN:Hid (Ext w15 w15):=Ext.refl _;obtain⟨b,off,rfl,hx⟩:=((HX2'.out.ext (HE416.out.trans HEi.out)).1).addr (by omega);have p0:=hx i hlt;obtain⟨b',off',rfl,hx'⟩:=(HI.out.ext HEw.out).addr (by omega);have p1:=hx' (ro i) hro9;rw[HZR.out] at p1;obtain⟨r,hr⟩:=qc (ro i);rw[<-hr.out] at hro9 p0 p1;obtain⟨q,hq⟩:=qc (z r);rw[<-hq.out] at p1
   have HLN:Hid (ivs ((List.range i).map (fun a=>z (ro a))) ++ [.int .i64 (q:Int)]=ivs ((List.range (i+1)).map (fun a=>z (ro a)))):=by
    rw[Hid,<-q2f,hq.out,hr.out]
   have hxl:(ivs ((List.range i).map (fun a=>z (ro a)))).length=i:=by rw[kM,List.length_map,List.length_range]
   have t3:(r:Int)<(Z.ns:Int):=by omega
   have hxl1:(ivs ((List.range i).map (fun a=>z (ro a)))).length+1<=1000000000:=by omega
   clear hx hx' b0 b1 b2 b3 b4;obtain⟨a0,a1,a2,-⟩:=cells3 HB0i.out;go_wp2_with (at_builtin;refine q_o ?_);refine qo ?_;intro w17 e17 hsz17 B17;refine zB jZ rfl _ _ 25 Tryz.underlying25 rfl (by first|rfl|(rw[hxl])) (HG.out.ext e17) (m:=1) (c:=1) (news:=[.int .i64 (q:Int)]) (by rfl) rfl (xZ B17) (fun x hx=>by rw[List.mem_singleton.1 hx];rfl) (by omega) hxl1 ?_;rintro g18 cap18 w18 hG18 hat18 ⟨g9,hlo,hw9,C9,-⟩;rw[HLN.out] at hG18;rw[hxl] at hG18 ⊢;have hE18:=C9.ext (HEi.out.trans e17) (by have:=hgk.out;omega);have HG18:=q_h hG18;have HE18:=q_h hE18;clear hG18 C9 B17 e17 hat18 hw9 hlo HG hxl hxl1 p0 p1 a0 a1 a2 hE18;go_wp2;go_roundw
   case rel=>exact⟨i+1,_,_,by omega,by go_num,rfl,HG18,HE18⟩
   case measure=>simp[intOf];omega
  have t1:decide ((i:Int)<(ns':Int))=false:=q_f (by omega);obtain rfl:ns'=i:=by omega
  have HIZ:Hid (IzV N 0 wr.heap.size wr (.slice A ns' c) ns' (fun a=>(z (ro a):Int))):=q5g HG.out;clear b0 b1 b2 b3 b4
  have hnp:0<ns':=by
   rcases Nat.eq_zero_or_pos ns' with h0|h0
   ·have:=HOF'.out;rw[h0] at this;have:0=n1:=this;omega
   ·exact h0
  have hKS:Hid (HtM n1 n1 (gK k K0) (Xp M E n)):=by
   rw[hn1.out,hk.out];exact q3t HMH.out
  go_wp2_with (go_at_call 52;refine q_o ?_);refine (q5I HIZ.out ⟨hnp,by omega⟩ (fun a ha=>?_) HOF'.out (by omega) (MtR.ext HS16.out HEi.out) (HR16.out.ext HEi.out) hKS.out HBK.out.2).mono ?_
  ·have h1:=HX2'.out.2 a ha;have h2:=kU.1 (HO.out.szs _ h1);rw[HZ.out _ h1] at h2;omega
  rintro e w19 ⟨v,Z',rfl,e19,hsv,hzn,hzk,hok,hnz⟩;have HNZ:=q_h hnz;have HZN:=q_h hzn;have HZK:=q_h hzk
  have HPZ:Hid (∀i,i<Z'.ns->1<=z (ro i)):=fun a ha=>by
   have h1:=HX2'.out.2 a (by omega);have h2:=kU.1 (HO.out.szs _ h1);rw[HZ.out _ h1] at h2;omega
  have HSV:=q_h hsv;have HOK:=q_h hok;obtain⟨D1,f1,D2,f2,D3,f3,rfl,-,-,-,j1,j2,j3⟩:=hsv.parts;have B4:=e19.block (HEi.out.block HB416.out);have hE:=HEw.out.trans e19;clear hsv hok hnz e19 hzn hzk;obtain⟨x0,x1,x2,u0,u1,u2⟩:=cells3 B4;go_wp2;obtain⟨w20,E20,D20,U20⟩:=ex3 B4 (.slice D1 Z'.ns f1) (.slice D2 Z'.nb f2) (.slice D3 Z'.k f3);rw[E20];have C20:=U20.chg (NoU.mk B4 (by decide));have hE20:=C20.ext hE (by omega);have hs20:w20.heap.size=w19.heap.size:=U20.size;have hS20:=HSV.out.off C20 (by omega) (q5X.three B4) (HOK.out.pos HPZ.out);clear x0 x1 x2;obtain⟨x0,x1,x2,-⟩:=cells3 D20;refine bodyPost_ret (v:=.tuple #[.agg #[.slice D1 Z'.ns f1,.slice D2 Z'.nb f2,.slice D3 Z'.k f3],.int .i64 0]) ?_ rfl ?_
  ·simp[results,x0,x1,x2,go_sem]
  ·obtain⟨v1,v2,v3,hv,s1,s2,s3⟩:=hS20;rw[<-hs20] at s2 s3;exact HQ0.out _ _ _ hE20 ⟨v1,v2,v3,hv,⟨rfl,s1.2⟩,s2,s3⟩ HZN.out HZK.out HOK.out HNZ.out
def exM (i j:Nat):Rat:=if i=0 then (if j=0 then 2 else if j=1 then 1 else 0) else if i=1 then (if j=0 then 1 else if j=1 then 2 else if j=2 then 1 else 0) else if i=2 then (if j=1 then 1 else if j=2 then 3 else 0) else 0
def exY (i:Nat):Rat:=if i=0 then 3 else 4
def exB (q:Nat):Bkk:=⟨if q=0 then 0 else if q<3 then 1 else 2,if q<2 then 0 else if q<4 then 1 else 2,1,fun _=>1,fun _ _=>raw (if q=0\/q=2 then 2 else if q=4 then 3 else 1)⟩
def exZ:Sys:=⟨3,fun _=>1,5,exB,3,fun i=>raw (exY i)⟩
theorem q8Y:(Qg (yL exZ 5) 3 3).2=[0,1,2]:=by decide +kernel
theorem q3q(hi:i<5):i=0\/i=1\/i=2\/i=3\/i=4:=by omega
theorem q5o:V4 exZ (fun _=>1) exM exY where
 hz i _:=rfl
 bk i hi:=by
  rcases q3q hi with rfl|rfl|rfl|rfl|rfl
  ·exact⟨0,0,by omega,by decide,rfl,rfl,rfl,fun _ _=>rfl,fun a ha b hb=>by (have ha:a<1:=ha);(have hb:b<1:=hb);(obtain rfl:a=0:=by omega);(obtain rfl:b=0:=by omega);rfl⟩
  ·exact⟨1,0,by omega,by decide,rfl,rfl,rfl,fun _ _=>rfl,fun a ha b hb=>by (have ha:a<1:=ha);(have hb:b<1:=hb);(obtain rfl:a=0:=by omega);(obtain rfl:b=0:=by omega);rfl⟩
  ·exact⟨1,1,by omega,by decide,rfl,rfl,rfl,fun _ _=>rfl,fun a ha b hb=>by (have ha:a<1:=ha);(have hb:b<1:=hb);(obtain rfl:a=0:=by omega);(obtain rfl:b=0:=by omega);rfl⟩
  ·exact⟨2,1,by omega,by decide,rfl,rfl,rfl,fun _ _=>rfl,fun a ha b hb=>by (have ha:a<1:=ha);(have hb:b<1:=hb);(obtain rfl:a=0:=by omega);(obtain rfl:b=0:=by omega);rfl⟩
  ·exact⟨2,2,by omega,by decide,rfl,rfl,rfl,fun _ _=>rfl,fun a ha b hb=>by (have ha:a<1:=ha);(have hb:b<1:=hb);(obtain rfl:a=0:=by omega);(obtain rfl:b=0:=by omega);rfl⟩
 ord i h0 hi:=by
  rcases q3q hi with rfl|rfl|rfl|rfl|rfl
  ·omega
  all_goals rfl
 zero r c hcr hr hno a ha b hb:=by
  obtain rfl:a=0:=by omega
  obtain rfl:b=0:=by omega
  have hr3:r<3:=hr;have hn:=fun i (hi:i<5)=>hno i hi
  rcases (by omega:r=0\/r=1\/r=2) with rfl|rfl|rfl
  ·obtain rfl:c=0:=by omega
   exact absurd ⟨rfl,rfl⟩ (hn 0 (by omega))
  ·rcases (by omega:c=0\/c=1) with rfl|rfl
   ·exact absurd ⟨rfl,rfl⟩ (hn 1 (by omega))
   ·exact absurd ⟨rfl,rfl⟩ (hn 2 (by omega))
  ·rcases (by omega:c=0\/c=1\/c=2) with rfl|rfl|rfl
   ·rfl
   ·exact absurd ⟨rfl,rfl⟩ (hn 3 (by omega))
   ·exact absurd ⟨rfl,rfl⟩ (hn 4 (by omega))
 k:=rfl
 R i _:=rfl
theorem q3o (i j:Nat):exM i j=exM j i:=by
 unfold exM
 repeat' split
 all_goals first|rfl|omega
theorem Jt:vH exZ=0:=Va q5o (by decide) (by decide) (fun _ _=>⟨by omega,by omega⟩) (by decide) q3o
theorem q3p:nsv 3 exM exY 0=1/\nsv 3 exM exY 1=1/\nsv 3 exM exY 2=1:=by decide +kernel
theorem q7H (a b c:Rat):a*(2*a+1*b+0*c)+b*(1*a+2*b+1*c)+c*(0*a+1*b+3*c)=a*a+(a+b)*(a+b)+(b+c)*(b+c)+(c*c+c*c):=by grind
theorem q7F:V6 3 exM:=by
 rintro x ⟨i,hi,hx⟩
 have h1:sum 3 (fun i=>x i*av 3 exM x i)=x 0*(2*x 0+1*x 1+0*x 2)+x 1*(1*x 0+2*x 1+1*x 2)+x 2*(0*x 0+1*x 1+3*x 2):=by
  unfold av;simp only[qN,xJ,exM]
  simp
  grind
 rw[h1,q7H];have h2:=xK (x 0);have h3:=xK (x 0+x 1);have h4:=xK (x 1+x 2);have h5:=xK (x 2);refine Classical.byContradiction fun h=>?_
 have h6:x 0*x 0=0:=by grind
 have h7:(x 1+x 2)*(x 1+x 2)=0:=by grind
 have h8:x 2*x 2=0:=by grind
 have e0:=XH h6;have e2:=XH h8;have e1:=XH h7
 rcases (by omega:i=0\/i=1\/i=2) with rfl|rfl|rfl
 ·exact hx e0
 ·exact hx (by grind)
 ·exact hx e2
theorem ex_nb {Z:Sys}{z:Nat->Nat}{M:q_m}{y:q_v}(H:V4 Z z M y) (hns:Z.ns=2) (h0:z 0=1) (h1:z 1=1) (m0:M 0 0≠0) (m1:M 1 0≠0) (m2:M 1 1≠0):Z.nb=3:=by
 have hk:∀q,q<Z.nb->((Z.b q).r=0/\(Z.b q).c=0)\/((Z.b q).r=1/\(Z.b q).c=0)\/((Z.b q).r=1/\(Z.b q).c=1):=fun q hq=>by
  obtain⟨r,c,a1,a2,a3,a4,-⟩:=H.bk q hq;omega
 have hs:∀q,0<q->q<Z.nb->(Z.b (q-1)).r<(Z.b q).r\/((Z.b (q-1)).r=(Z.b q).r/\(Z.b (q-1)).c<(Z.b q).c):=fun q h9 hq=>by
  have:=H.ord q h9 hq;unfold Wh at this;simpa using this
 have hex:∀r c,c<=r->r<2->M (ql z r) (ql z c)≠0->∃q,q<Z.nb/\(Z.b q).r=(r:Int)/\(Z.b q).c=(c:Int):=fun r c hc hr hM=>by
  refine Classical.byContradiction fun hno=>?_
  have hz1:∀i,i<2->z i=1:=fun i hi=>by
   rcases (by omega:i=0\/i=1) with rfl|rfl
   ·exact h0
   ·exact h1
  have:=H.zero r c hc (by omega) (fun i hi he=>hno ⟨i,hi,he⟩) 0 (by rw[hz1 r hr];omega) 0 (by rw[hz1 c (by omega)];omega);rw[Nat.add_zero,Nat.add_zero] at this;exact hM this
 have o1:ql z 1=1:=by show 0+z 0=1;omega
 obtain⟨q0,k0,k1,k2⟩:=hex 0 0 (by omega) (by omega) m0;obtain⟨q1,k3,k4,k5⟩:=hex 1 0 (by omega) (by omega) (by rw[o1];exact m1);obtain⟨q2,k6,k7,k8⟩:=hex 1 1 (by omega) (by omega) (by rw[o1];exact m2);have d1:q0≠q1:=fun e=>by rw[e] at k1;omega
 have d2:q1≠q2:=fun e=>by rw[e] at k5;omega
 have d3:q0≠q2:=fun e=>by rw[e] at k1;omega
 refine Classical.byContradiction fun h=>?_
 have h9:3<Z.nb:=by omega
 have a1:=hs 1 (by omega) (by omega);have a2:=hs 2 (by omega) (by omega);have a3:=hs 3 (by omega) (by omega);have b0:=hk 0 (by omega);have b1:=hk 1 (by omega);have b2:=hk 2 (by omega);have b3:=hk 3 (by omega);simp only[Nat.sub_self,show 2-1=1 from rfl,show 3-1=2 from rfl] at a1 a2 a3;omega
end Go.Proofs.YtflhlobiipejeaaGreat
