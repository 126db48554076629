import Derived.Test.YtfmddpahhloleaaGreatWb27
import Derived.Test.YtfmddpahhloleaaGreatWb32
set_option linter.all false
set_option maxHeartbeats 8000000
set_option maxRecDepth 100000
namespace Go.Proofs.YtfmddpahhloleaaGreat
open Go.RowKit
variable {w w':World} {N n lo hi m:Nat} {v:Value}
theorem q6a {lo' hi' lo2 hi2:Nat} {u t:Value} {Z:Lin} {ns no:Nat} {zi oz:Nat->Int} (h:q1p N lo hi w v Z) (hu:IzV N lo' hi' w u ns zi) (ht:IzV N lo2 hi2 w t no oz) (hs:VB 8 5 Z=false\/(VB 8 5 Z=true/\(12 < ns\/(ns<=12/\(12 < no\/(no<=12/\codeOf Z≠0)))))) :
  Calls Tryz.prog 3 #[v,u,t] w (zL w (.bool true)):=by
 have hI:=h;obtain⟨A1,c1,A2,c2,A3,c3,rfl,-⟩:=h.parts;obtain⟨A4,c4,rfl,hk4,hm4⟩:=hu.form;obtain⟨A5,c5,rfl,hk5,hm5⟩:=ht.form;unfold maxLen at hm4 hm5;clear h hu ht
 rcases hs with hs | ⟨hs,hs'⟩
 ·have HS:=q_h hs;clear hs;go_enter Tryz.func3,Tryz.ntmps3;go_wp2_with (go_at_call 9; refine q_o ?_);refine qJ ?_;intro W hE hsz B0;refine (q5i W).mono ?_;rintro e w1 ⟨rfl,e1⟩;replace hE:=hE.trans e1;replace B0:=e1.block B0;have hs1:=e1.size;replace hsz:w.heap.size < w1.heap.size:=by omega
  clear e1 hs1;obtain⟨a0,a1,a2,-⟩:=cells3 B0;go_wp2_with (go_at_call 10; refine q_o ?_);refine (l34_few (hI.ext hE) 8 5 rfl rfl (by omega) (by omega)).mono ?_;rintro e w2 ⟨rfl,e2⟩;rw [HS.out];replace hE:=hE.trans e2;replace B0:=e2.block B0;replace hsz:=qG B0;clear a0 a1 a2;obtain⟨a0,a1,a2,-⟩:=cells3 B0;clear e2;go_wp2;go_ret;exact⟨rfl,hE⟩
 ·have HS:=q_h hs;obtain⟨f1,f2,f3⟩:=few34_sz hs;have HF2:=q_h f2;have HF3:=q_h f3;clear hs f1 f2 f3
  rcases hs' with h1 | ⟨h1,h2⟩
  ·have t1:decide ((12:Int) < (ns:Int))=true:=q_t (by omega);go_enter Tryz.func3,Tryz.ntmps3;go_wp2_with (go_at_call 9; refine q_o ?_);refine qJ ?_;intro W hE hsz B0;refine (q5i W).mono ?_;rintro e w1 ⟨rfl,e1⟩;replace hE:=hE.trans e1;replace B0:=e1.block B0;have hs1:=e1.size;replace hsz:w.heap.size < w1.heap.size:=by omega
   clear e1 hs1;obtain⟨a0,a1,a2,-⟩:=cells3 B0;go_wp2_with (go_at_call 10; refine q_o ?_);refine (l34_few (hI.ext hE) 8 5 rfl rfl (by omega) (by omega)).mono ?_;rintro e w2 ⟨rfl,e2⟩;rw [HS.out];replace hE:=hE.trans e2;replace B0:=e2.block B0;replace hsz:=qG B0;clear a0 a1 a2;obtain⟨a0,a1,a2,-⟩:=cells3 B0;clear e2;go_wp2;go_ret;exact⟨rfl,hE⟩
  have t1:decide ((12:Int) < (ns:Int))=false:=q_f (by omega)
  rcases h2 with h2 | ⟨h2,h3⟩
  ·have t2:decide ((12:Int) < (no:Int))=true:=q_t (by omega);go_enter Tryz.func3,Tryz.ntmps3;go_wp2_with (go_at_call 9; refine q_o ?_);refine qJ ?_;intro W hE hsz B0;refine (q5i W).mono ?_;rintro e w1 ⟨rfl,e1⟩;replace hE:=hE.trans e1;replace B0:=e1.block B0;have hs1:=e1.size;replace hsz:w.heap.size < w1.heap.size:=by omega
   clear e1 hs1;obtain⟨a0,a1,a2,-⟩:=cells3 B0;go_wp2_with (go_at_call 10; refine q_o ?_);refine (l34_few (hI.ext hE) 8 5 rfl rfl (by omega) (by omega)).mono ?_;rintro e w2 ⟨rfl,e2⟩;rw [HS.out];replace hE:=hE.trans e2;replace B0:=e2.block B0;replace hsz:=qG B0;clear a0 a1 a2;obtain⟨a0,a1,a2,-⟩:=cells3 B0;clear e2;go_wp2;go_ret;exact⟨rfl,hE⟩
  have t2:decide ((12:Int) < (no:Int))=false:=q_f (by omega);obtain⟨r,hr⟩:=qc (codeOf Z);have hr0:(r == 0)=false:=by rw [hr.out]; simpa using h3
  have hr1:(r != 0)=true:=by simpa using hr0
  clear h3;go_enter Tryz.func3,Tryz.ntmps3;go_wp2_with (go_at_call 9; refine q_o ?_);refine qJ ?_;intro W hE hsz B0;refine (q5i W).mono ?_;rintro e w1 ⟨rfl,e1⟩;replace hE:=hE.trans e1;replace B0:=e1.block B0;have hs1:=e1.size;replace hsz:w.heap.size < w1.heap.size:=by omega
  clear e1 hs1;obtain⟨a0,a1,a2,-⟩:=cells3 B0;go_wp2_with (go_at_call 10; refine q_o ?_);refine (l34_few (hI.ext hE) 8 5 rfl rfl (by omega) (by omega)).mono ?_;rintro e w2 ⟨rfl,e2⟩;rw [HS.out];replace hE:=hE.trans e2;replace B0:=e2.block B0;replace hsz:=qG B0;clear a0 a1 a2;obtain⟨a0,a1,a2,-⟩:=cells3 B0;clear e2;go_wp2_with (go_at_call 11; refine q_o ?_);refine (q4h (hI.ext hE) HF2.out HF3.out).mono ?_;rintro e w3 ⟨rfl,e3⟩;rw [<-hr.out];replace hE:=hE.trans e3;replace B0:=e3.block B0;replace hsz:=qG B0;clear a0 a1 a2;obtain⟨a0,a1,a2,-⟩:=cells3 B0;go_wp2;go_ret;exact⟨rfl,hE⟩
theorem q5S.form {ns:Nat} {zi:Nat->Int} {M:Nat->Nat->Rat} {y:Nat->Rat} {e:Ending} (h:q5S N w n ns zi M y e w') :
  ∃ (A1:Option Addr) (n1 c1:Nat) (A2:Option Addr) (n2 c2:Nat) (A3:Option Addr) (n3 c3:Nat) (k:Int),e=.returned (.tuple #[.agg #[.slice A1 n1 c1,.slice A2 n2 c2,.slice A3 n3 c3],.int .i64 k])/\Ext w w' /\
   (k=4\/(k=0/\∃ Z:Sys,VL N 0 w'.heap.size w' (.agg #[.slice A1 n1 c1,.slice A2 n2 c2,.slice A3 n3 c3]) Z/\Z.ns=ns/\1<=ns/\(∀ i,i < ns->1<=zi i/\zi i<=12)/\qC (fun i=>(zi i).toNat) ns=n/\q4R Z (fun i=>(zi i).toNat) M y)):=by
 obtain⟨h0,rfl | ⟨v,Z,rfl,h1,h2⟩⟩:=h
 ·exact⟨_,_,_,_,_,_,_,_,_,4,rfl,h0,.inl rfl⟩
 ·obtain⟨A1,c1,A2,c2,A3,c3,rfl,-⟩:=h1.parts;exact⟨_,_,_,_,_,_,_,_,_,0,rfl,h0,.inr ⟨rfl,Z,h1,h2⟩⟩
theorem VM.form {r:Nat} {x:Nat->Rat} {e:Ending} (h:VM N w n r x e w') :
  ∃ (A:Option Addr) (l c:Nat) (d:Int),e=.returned (.tuple #[.slice A l c,.int .i64 d])/\Ext w w'/\((r < n/\d=14)\/(¬ r < n/\d=0/\l=n/\LsV N w.heap.size w'.heap.size w' (.slice A n c) n x)):=by
 obtain⟨h0,⟨h1,rfl⟩ | ⟨h1,A,c,rfl,h2⟩⟩:=h
 ·exact⟨_,_,_,14,rfl,h0,.inl ⟨h1,rfl⟩⟩
 ·exact⟨A,n,c,0,rfl,h0,.inr ⟨h1,rfl,rfl,h2⟩⟩
theorem q6e (X:Nat->Nat->Rat) (p:Nat->Rat) (m:Nat) (i j:Nat):xE X p m i j=xE X p m j i:=by
 unfold xE;exact qf fun t _=>by grind
theorem q6b {lo' hi' lo2 hi2:Nat} {A1 A2 A3:Option Addr} {c1 c2 c3:Nat} {u t:Value} {X:Nat->Nat->Rat} {y p:Nat->Rat} {Z:Lin} {ns no:Nat} {zi oz:Nat->Int}
  (hI:q1p N lo hi w (.agg #[.slice A1 m c1,.slice A2 m c2,.slice A3 m c3]) Z) (hu:IzV N lo' hi' w u ns zi) (ht:IzV N lo2 hi2 w t no oz) (hs:VB 8 5 Z=true) (hn1:ns<=12) (hn2:no<=12) (hc:codeOf Z=0)
  (h1:MtV N lo hi w (.slice A1 m c1) m n X) (h2:LsV N lo hi w (.slice A2 m c2) m y) (h3:LsV N lo hi w (.slice A3 m c3) m p) (hm0:0 < m) (hm:m<=8) (hn0:0 < n) (hn:n<=5) (hpos:∀ i,i < m->0 < p i)
  (hkx:HtM m n 17 X) (hky:HtL m 17 y) (hkp:HtL m 17 p) :
  Calls Tryz.prog 3 #[.agg #[.slice A1 m c1,.slice A2 m c2,.slice A3 m c3],u,t] w (zL w (.bool true)):=by
 obtain⟨f1,f2,f3⟩:=few34_sz hs;have HS:=q_h hs;have HC:=q_h hc;have HF2:=q_h f2;have HF3:=q_h f3;have HX:=q_h hkx;have HY:=q_h hky;have HP:=q_h hkp;have HPOS:=q_h hpos;have HU:=q_h hu;have HT:=q_h ht;obtain⟨A4,c4,rfl,hk4,hm4⟩:=hu.form;obtain⟨A5,c5,rfl,hk5,hm5⟩:=ht.form;unfold maxLen at hm4 hm5;have hN:=h1.le;have h55:(5:Nat) ^ 5=3125:=by decide
 have hkM:HtM n n 469 (xE X p m):=(ww hkx hkp (q_r) (q_r)).mono (by omega);have hkR:HtL n 469 (yx X y p m):=(QI hkx hky hkp (q_r) (q_r)).mono (by omega);have HKM:=q_h hkM;have HKR:=q_h hkR;obtain⟨rk,hrk⟩:=qc (qH n (xE X p m) n).2.length;have hrkn:rk<=n:=by rw [hrk.out]; exact (Qd n (xE X p m) n).1
 have HRG:Hid (¬ rk < n↔Reg n (xE X p m)):=by
  rw [<-q1I n (xE X p m),<-hrk.out]
  constructor <;> intro h9 <;> omega
 have HK7:Hid (m*(3*17+1)+3*17+2<=29000000000):=by rw [Hid]; omega
 have HK6:Hid (5*(5 ^ 5*(m*(3*17+1)+1))<=29000000000):=by rw [Hid,h55]; omega
 have t1:decide ((12:Int) < (ns:Int))=false:=q_f (by omega);have t2:decide ((12:Int) < (no:Int))=false:=q_f (by omega);clear hs hc f2 f3 hkx hky hkp hpos hkM hkR hu ht h55;go_enter Tryz.func3,Tryz.ntmps3;go_wp2_with (go_at_call 9; refine q_o ?_);refine qJ ?_;intro W hE hsz B0;refine (q5i W).mono ?_;rintro e w1 ⟨rfl,e1⟩;replace hE:=hE.trans e1;replace B0:=e1.block B0;have hs1:=e1.size;replace hsz:w.heap.size < w1.heap.size:=by omega
 clear e1 hs1;obtain⟨a0,a1,a2,-⟩:=cells3 B0;go_wp2_with (go_at_call 10; refine q_o ?_);refine (l34_few (hI.ext hE) 8 5 rfl rfl (by omega) (by omega)).mono ?_;rintro e w2 ⟨rfl,e2⟩;rw [HS.out];replace hE:=hE.trans e2;replace B0:=e2.block B0;replace hsz:=qG B0;clear a0 a1 a2;obtain⟨a0,a1,a2,-⟩:=cells3 B0;clear e2;go_wp2_with (go_at_call 11; refine q_o ?_);refine (q4h (hI.ext hE) HF2.out HF3.out).mono ?_;rintro e w3 ⟨rfl,e3⟩;rw [HC.out];replace hE:=hE.trans e3;replace B0:=e3.block B0;replace hsz:=qG B0;clear a0 a1 a2;obtain⟨a0,a1,a2,-⟩:=cells3 B0;clear e3;go_wp2_with (go_at_call 12; refine q_o ?_);refine (n_System (h1.ext hE) (h2.ext hE) (h3.ext hE) hm0 (by omega) hn0 (by omega) HPOS.out (HU.out.ext hE) hn1 HX.out HY.out HP.out HK7.out).mono ?_;rintro e w4 hh;obtain⟨B1,n1,d1,B2,n2,d2,B3,n3,d3,k,rfl,e4,hk⟩:=hh.form;have HSY:=q_h hk;clear hh hk;replace hE:=hE.trans e4;replace B0:=e4.block B0;replace hsz:=qG B0;clear a0 a1 a2;obtain⟨a0,a1,a2,-⟩:=cells3 B0;clear e4;go_upto_region 6 with (fail);refine qo ?_;intro w5 e5 hsz5 B7;obtain⟨g7,hg7⟩:=qc w4.heap.size;have hg74:w4.heap.size<=g7:=by rw [hg7.out]; exact q_r
 rw [<-hg7.out] at B7 ⊢
 have HSY5:Hid (k=4\/(k=0/\∃ Z:Sys,VL N 0 w4.heap.size w5 (.agg #[.slice B1 n1 d1,.slice B2 n2 d2,.slice B3 n3 d3]) Z/\Z.ns=ns/\1<=ns/\(∀ i,i < ns->1<=zi i/\zi i<=12)/\qC (fun i=>(zi i).toNat) ns=n/\q4R Z (fun i=>(zi i).toNat) (xE X p m) (yx X y p m))):=by
  rcases HSY.out with h9 | ⟨h9,Z,h8,h7⟩
  ·exact .inl h9
  ·exact .inr ⟨h9,Z,h8.ext e5,h7⟩
 replace hE:=hE.trans e5;replace B0:=e5.block B0;replace hsz:=qG B0;clear a0 a1 a2;obtain⟨a0,a1,a2,-⟩:=cells3 B0;clear e5 HSY hsz5 hg7;go_wp2_with (go_at_call 13; refine q_o ?_);refine (q47 (k:=17) (P:=5) (h1.ext hE) (h2.ext hE) (h3.ext hE) hm0 (by omega) hn0 (by omega) HPOS.out HX.out HY.out HP.out HK7.out hn HK6.out).mono ?_;rintro e w6 hh;obtain⟨A6,l6,c6,d,rfl,e6,hd⟩:=hh.form;rw [<-hrk.out] at hd;have HD:=q_h hd;replace B7:=e6.block B7;replace hE:=hE.trans e6;replace B0:=e6.block B0;replace hsz:=qG B0;clear a0 a1 a2;obtain⟨a0,a1,a2,-⟩:=cells3 B0;clear hh hd a0 a1 a2
 rcases HSY5.out with rfl | ⟨rfl,Z',hsv,hz1,hz2,hz3,hz4,hz5⟩
 ·go_wp2;go_ret;exact⟨rfl,hE⟩
 have HSV:=q_h (hsv.ext e6);have HZ3:=q_h hz3;obtain⟨z,hz⟩:=qc (fun i=>(zi i).toNat);rw [<-hz.out] at hz4 hz5;have HZ5:=q_h hz5;have HSM:Hid (∀ i j,xE X p m i j=xE X p m j i):=fun i j=>q6e X p m i j
 obtain⟨M,hM⟩:=qc (xE X p m);obtain⟨y9,hy9⟩:=qc (yx X y p m);rw [<-hM.out] at HKM HRG HSM HZ5 HD;rw [<-hy9.out] at HKR HZ5 HD
 have HZP:Hid (∀ i,i < Z'.ns->1<=z i/\z i<=12):=fun i hi=>by
  rw [hz.out];have:=HZ3.out i (by omega)
  show 1<=(zi i).toNat/\(zi i).toNat<=12
  omega
 have hz4':qC z Z'.ns=n:=by rw [hz1]; exact hz4
 have HZ4:=q_h hz4';have HSC:Hid (VP Z'=0):=sy_code HZ5.out (by omega) (by omega) HZP.out (by have:=HZ4.out; omega) HSM.out;have HBS:Hid (∀ i,i < Z'.nb->BkSz (Z'.b i)):=sy_bksz HZ5.out (K:=469) (by rw [HZ4.out]; exact HKM.out) (by omega);have HRS:Hid (∀ i,i < Z'.k->xW (Z'.R i)):=sy_rsz HZ5.out (K:=469) (by rw [HZ4.out]; exact HKR.out) (by omega);have hkk:Z'.k=n:=by rw [HZ5.out.k]; exact hz4'
 have HKK:=q_h hkk;have HN1:Hid (Z'.ns=ns):=hz1;clear hsv hz1 hz3 hz4 hz5 hz4' hkk HSY5;obtain⟨b0,b1,b2,-⟩:=cells3 B7;cases hpm:Ko oz no Z'.ns with
 | false =>
  have HPM:=q_h hpm;clear hpm;go_wp2_with (go_at_call 14; refine q_o ?_);refine (q4D HSV.out HBS.out HRS.out HSC.out (by have:=HN1.out; omega) (HT.out.ext hE) HPM.out).mono ?_;rintro e w7 ⟨rfl,e7⟩;go_wp2;go_ret;exact⟨rfl,hE.trans e7⟩
 | true =>
  have HPM:=q_h hpm;obtain⟨hq1,hq2,hq3⟩:=WV hpm;clear hpm;subst hq1;obtain⟨o,ho⟩:=qc (fun t=>(oz t).toNat);have HOZ:Hid (∀ t,t < Z'.ns->oz t=(o t:Int)):=fun t ht=>by rw [ho.out]; exact (hq2 t ht).1
  have HLO:Hid (∀ t,t < Z'.ns->o t < Z'.ns):=fun t ht=>by rw [ho.out]; exact (hq2 t ht).2
  have HIN:Hid (∀ a b,a < Z'.ns->b < Z'.ns->o a=o b->a=b):=by rw [Hid,ho.out]; exact hq3
  have HSH:=svh_of HZ5.out HLO.out HIN.out (fun i hi=>by have:=HZP.out i hi; omega) (by rw [HZ4.out]; exact hn) HSM.out (K0:=469) (q_r) (by rw [HZ4.out]; exact HKM.out) (by rw [HZ4.out]; exact HKR.out);have HSH':=q_h HSH;have HBM:=q_h (q5J (z:=z) (y:=y9) (M:=M) HLO.out HIN.out HSM.out);clear hq2 hq3 HSH;go_wp2_with (go_at_call 14; refine q_o ?_);refine (b_Solve HSV.out HBS.out HRS.out HSC.out (HT.out.ext hE) HPM.out HOZ.out HSH'.out).mono ?_;rintro e w7 ⟨e7,hend⟩
  have HPV:Hid ((∀ t,t < Z'.ns->PvF z o Z'.ns (blF z M) t)->¬ rk < n):=fun h9=>by
   have h8:=q52 HBM.out h9;rw [HZ4.out] at h8;exact HRG.out.2 h8
  have HPD:Hid (¬ rk < n->∀ t,t < Z'.ns->PvF z o Z'.ns (blF z M) t):=fun h9=>by
   have h8:=HRG.out.1 h9
   have h7:M=nm m X p:=by
    rw [hM.out]
    funext i j
    exact nmat_nm5 m X p i j
   rw [h7] at h8;have h6:=nm_pdef HPOS.out h8;rw [<-h7,<-HZ4.out] at h6;exact pdef_pv HBM.out h6
  have HE7:=q_h (hE.trans e7);have HEND:=q_h hend;clear hend
  rcases HEND.out with ⟨rfl,t,ht1,-,ht3⟩ | ⟨A,c,lo9,hi9,rfl,hall,hL9⟩
  ·rcases HD.out with ⟨hr,rfl⟩ | ⟨hr,-⟩
   ·clear ht1 ht3 HEND HD hr;go_wp2;go_ret;exact⟨rfl,HE7.out⟩
   ·exact absurd (HPD.out hr t ht1) ht3
  ·rcases HD.out with ⟨hr,-⟩ | ⟨hr,rfl,rfl,hL⟩
   ·exact absurd hr (HPV.out hall)
   have HL6:=q_h (LsR.ext hL e7);rw [HKK.out,HZ4.out] at hL9;rw [HKK.out];have HL9:=q_h hL9
   have HXZ:Hid (∀ i,i < l6->Sz (nsv l6 M y9 i)):=fun i hi=>by
    have h9:=q55 (P:=5) HKM.out HKR.out hn i hi;have h8:l6*(5 ^ 5*469+2)<=5*(5 ^ 5*469+2):=Nat.mul_le_mul_right _ hn;exact h9.sz (q_l (Nat.add_le_add_right h8 1) (by decide))
   clear hL hL9 hall HEND HD hr;go_wp2_with (go_at_call 15; refine q_o ?_);refine (jb HL6.out HL9.out HXZ.out (fun _ _=>rfl)).mono ?_;rintro e w8 ⟨rfl,e8⟩;go_wp2;go_ret;exact⟨rfl,HE7.out.trans e8⟩
theorem q6c {lo' hi' lo2 hi2:Nat} {u t:Value} {Z:Lin} {ns no:Nat} {zi oz:Nat->Int} (h:q1p N lo hi w v Z) (hu:IzV N lo' hi' w u ns zi) (ht:IzV N lo2 hi2 w t no oz) :
  Calls Tryz.prog 3 #[v,u,t] w (zL w (.bool true)):=by
 cases hf:VB 8 5 Z with
 | false=>exact q6a h hu ht (.inl hf)
 | true =>
  rcases Nat.lt_or_ge 12 ns with h1 | h1
  ·exact q6a h hu ht (.inr ⟨hf,.inl h1⟩)
  rcases Nat.lt_or_ge 12 no with h2 | h2
  ·exact q6a h hu ht (.inr ⟨hf,.inr ⟨h1,.inl h2⟩⟩)
  by_cases hc:codeOf Z=0
  ·have f:=q5t hf hc;have hI:=h;obtain⟨A1,c1,A2,c2,A3,c3,rfl,g1,g2,g3,-⟩:=h.parts;obtain⟨k1,k2,k3⟩:=f.mem g1 g2 g3;have e1:=f.nl;have e2:=f.np;rw [e1,e2] at hI ⊢;exact q6b hI hu ht hf h1 h2 hc k1 k2 k3 f.m0 f.mr f.n0 f.nc f.pos f.hX f.hy f.hp
  ·exact q6a h hu ht (.inr ⟨hf,.inr ⟨h1,.inr ⟨h2,hc⟩⟩⟩)
end Go.Proofs.YtfmddpahhloleaaGreat
namespace Go.Proofs.YtfmddpahhloleaaGreat
open Go.RowKit Go.ChangeShapes Go.ChangeAt
variable {w w':World} {N n lo hi m:Nat} {v:Value}
theorem q6d:Tryz.prog.cellsOf 26=3:=by kernel_rfl
section
variable {H:Type} {enc:TypeId×Value->H} {w:World} {spare:Nat->Bool} {held:Bool}
instance:Inhabited Raw:=⟨⟨false,[],false,[]⟩⟩
end
end Go.Proofs.YtfmddpahhloleaaGreat
