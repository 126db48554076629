import Derived.Test.YtfmddpahhloleaaGreatWb22
import Derived.Test.YtfmddpahhloleaaGreatWb24
set_option linter.all false
set_option maxHeartbeats 8000000
namespace Go.Proofs.YtfmddpahhloleaaGreat
open Go.RowKit
variable {w:World} {N n lo hi k i m base:Nat} {v:Value}
theorem q1x {L:Nat->Nat} {R:Nat->Nat->Raw} (h:MtR N lo hi w v n L R) (gb:Nat) (g:Nat->Bool)
  (hf:∀ i,i < n->∀ w' u,Ext w w'->LsR N lo hi w' u (L i) (R i)->Calls Tryz.prog 117 #[u,.pointer (some ⟨gb,0,none⟩)] w' (zL w' (.bool (g i)))) :
  Calls Tryz.prog 180 #[v,.func (.func 117) #[] #[.pointer (some ⟨gb,0,none⟩)]] w (Ja w (jk n g)):=by
 obtain⟨r,hr⟩:=qc (jk n g);rw [<-hr.out];obtain⟨A,c,rfl,hnc,hcm⟩:=h.form;unfold maxLen at hcm;have hI:=h;have HF:=q_h hf;clear h hf;go_enter Tryz.func180,Tryz.ntmps180;go_wp2
 go_loopw [8] (fun i wr=>∃ k:Nat,k<=n/\i=.int .i64 k/\Hid (∀ j,j < k->g j=false)/\Ext w wr) (fun i _=>n - (intOf i).toNat)
 case atStart=>exact⟨0,Nat.zero_le _,rfl,fun j hj=>absurd hj (by omega),Ext.refl w⟩
 case round =>
  obtain⟨k,hk,rfl,HA,hE⟩:=hrel
  by_cases hlt:k < n
  ·(obtain⟨b,off,rfl,-,-,hx⟩:=(hI.ext hE).addr (by omega)); (obtain⟨A1,c1,p0,-,-,hv⟩:=hx k hlt)
   clear hx;go_wp2_with (go_at_call 117; refine q_o ?_);refine (HF.out k hlt _ _ hE hv).mono ?_;rintro e w1 ⟨rfl,e1⟩;replace hE:=hE.trans e1;obtain⟨o,ho⟩:=qc (g k);rw [<-ho.out];cases o with
   | false =>
    go_wp2;go_roundw
    case rel=>exact⟨k+1,by omega,by go_num,zF (p:=fun j=>g j=false) HA.out ho.out.symm,hE⟩
    case measure=>simp [intOf]; omega
   | true =>
    have HT:Hid (r=true):=by rw [Hid,hr.out]; exact jL hlt ho.out.symm
    go_wp2;go_ret;exact⟨_,rfl,by rw [Hid,HT.out]; symm; simp,hE⟩
  ·have HT:Hid (r=false):=by rw [Hid,hr.out]; exact zM.2 (fun j hj=>HA.out j (by omega))
   go_wp2;go_ret;exact⟨_,rfl,by rw [Hid,HT.out]; rfl,hE⟩
theorem q3J {L:Nat->Nat} {R:Nat->Nat->Raw} (h:MtR N lo hi w v n L R) (gb:Nat) (g:Nat->Bool)
  (hf:∀ i,i < n->∀ w' u,Ext w w'->LsR N lo hi w' u (L i) (R i)->Calls Tryz.prog 117 #[u,.pointer (some ⟨gb,0,none⟩)] w' (zL w' (.bool (g i)))) :
  Calls Tryz.prog 116 #[v,.func (.func 117) #[] #[.pointer (some ⟨gb,0,none⟩)]] w (zL w (.bool (jk n g))):=by
 obtain⟨r,hr⟩:=qc (jk n g);rw [<-hr.out];obtain⟨A,c,rfl,hnc,hcm⟩:=h.form;have hI:=h;have HF:=q_h hf;clear h hf;go_enter Tryz.func116,Tryz.ntmps116;go_wp2_with (go_at_call 180; refine q_o ?_);refine (q1x hI gb g HF.out).mono ?_;rintro e w1 ⟨z,rfl,hz,e1⟩;rw [<-hr.out] at hz;go_wp2;go_ret;exact⟨qw hz.out.symm,e1⟩
theorem q57 {u:Value} {gb l:Nat} {R:Nat->Raw} (hb:w.cell? ⟨gb,0,none⟩=some (.int .i64 (n:Int))) (h:LsR N lo hi w u l R) :
  Calls Tryz.prog 117 #[u,.pointer (some ⟨gb,0,none⟩)] w (zL w (.bool (decide (l≠n)))):=by
 obtain⟨A1,c1,rfl,hn1,hm1⟩:=h.form;unfold maxLen at hm1;obtain⟨r,hr⟩:=qc (decide (l≠n));rw [<-hr.out];clear h;go_enter Tryz.func117,Tryz.ntmps117
 by_cases hln:l=n
 ·have HF:Hid (r=false):=by rw [Hid,hr.out]; simp [hln]
  have t1:((l:Int) != (n:Int))=false:=by rw [hln]; simp
  clear hln hr;go_wp2;go_ret;exact⟨qw HF.out.symm,Ext.refl w⟩
 ·have HF:Hid (r=true):=by rw [Hid,hr.out]; simp [hln]
  have t1:((l:Int) != (n:Int))=true:=by rw [bne_iff_ne]; omega
  clear hln hr;go_wp2;go_ret;exact⟨qw HF.out.symm,Ext.refl w⟩
theorem Grow.low {base':Nat} {x:Nat->Rat} (h:Grow N base w v n x) (h1:N<=base') (h2:base'<=base):Grow N base' w v n x:=by
 obtain⟨a1,a2,a3⟩:=h;refine⟨h1,by omega,?_⟩
 rcases a3 with a3 | ⟨g,cap,hv,hg,hm,hr⟩
 ·exact .inl a3
 ·exact .inr ⟨g,cap,hv,by omega,hm,hr⟩
def q5Y (N:Nat) (w:World) (n k r:Nat) (x:Nat->Rat) (e:Ending) (w':World):Prop :=
 Ext w w'/\((r < n+k/\e=.returned (.tuple #[.slice none 0 0,.slice none 0 0,.int .i64 14]))\/(¬ r < n+k/\∃ A c A' c',e=.returned (.tuple #[.slice A n c,.slice A' k c',.int .i64 0])/\LsV N w.heap.size w'.heap.size w' (.slice A n c) n x/\LsV N w.heap.size w'.heap.size w' (.slice A' k c') k (fun t=>x (n+t))))
theorem q2E {k:Nat} {K C:Nat->Nat->Rat} (hi:i < n) (j:Nat):cat n (K i) (fun t=>C t i) j=q0T n K C i j:=by
 unfold cat q0T; rw [if_pos hi]
theorem q2F {k:Nat} {K C:Nat->Nat->Rat} (hi:¬ i < n) (j:Nat):cat n (C (i - n)) (fun _=>0) j=q0T n K C i j:=by
 unfold cat q0T; rw [if_neg hi]
set_option maxRecDepth 100000 in
theorem Kr {lo2 hi2 loc hic lod hid:Nat} {v1 v2 v3 vc vd:Value} {X C:Nat->Nat->Rat} {y p d:Nat->Rat} (h1:MtV N lo hi w v1 m n X) (h2:LsV N lo2 hi2 w v2 m y) (h3:LsV N lo2 hi2 w v3 m p) (hc:MtV N loc hic w vc k n C) (hd:LsV N lod hid w vd k d) (hm0:0 < m) (hm:m<=64) (hn0:0 < n) (hn:n<=24) (hk0:0 < k) (hk:k<=12) (hp:∀ i,i < m->0 < p i)
  {q Q P:Nat} (hkx:HtM m n q X) (hky:HtL m q y) (hkp:HtL m q p) (hkc:HtM k n Q C) (hkd:HtL k Q d) (hQ:m*(3*q+1)+3*q+2<=Q) (hP:n+k<=P) (hK:5*(5 ^ P*Q)<=29000000000) :
  Calls Tryz.prog 47 #[.agg #[v1,v2,v3],vc,vd] w (q5Y N w n k (qH (n+k) (q0T n (xE X p m) C) (n+k)).2.length (nsv (n+k) (q0T n (xE X p m) C) (cat n (yx X y p m) d))):=by
 have hQP:Q<=5 ^ P*Q:=Nat.le_mul_of_pos_left _ (Nat.pow_pos (by omega));have HX:=q_h hkx;have HY:=q_h hky;have HP:=q_h hkp;have HQ:Hid (m*(3*q+1)+3*q+2<=29000000000):=by rw [Hid]; omega
 have HCS:Hid (∀ i,i < k->∀ j,j < n->Sz (C i j)):=fun i hi j hj=>(hkc i hi j hj).sz (by omega)
 have HDS:Hid (∀ i,i < k->Sz (d i)):=fun i hi=>(hkd i hi).sz (by omega)
 have HCK:Hid (∀ w1,Ext w w1->Calls Tryz.prog 52 #[.agg #[v1,v2,v3]] w1 (zL w1 (.int .i64 0))):=fun w1 e1=>by
  have h9:=QL (QN (h1.ext e1) (h2.ext e1) (h3.ext e1)) (yT hkx hky hkp (by omega)) (fun i hi=>(hkp i hi).sz (by omega));rw [xU hm0 hm hn0 hn hp] at h9;exact h9
 obtain⟨B,hB⟩:=qc (q0T n (xE X p m) C);obtain⟨b,hb⟩:=qc (cat n (yx X y p m) d);have HBT:Hid (∀ i,i < n->∀ j,cat n (xE X p m i) (fun t=>C t i) j=B i j):=fun i hi j=>by rw [hB.out]; exact q2E (k:=k) hi j
 have HBL:Hid (∀ i,¬ i < n->∀ j,cat n (C (i - n)) (fun _=>0) j=B i j):=fun i hi j=>by rw [hB.out]; exact q2F (k:=k) hi j
 have HSV:Hid (∀ w1 lo1 hi1 lo2 hi2 u1 u2,MtV N lo1 hi1 w1 u1 (n+k) (n+k) B->LsV N lo2 hi2 w1 u2 (n+k) b->Calls Tryz.prog 56 #[u1,u2] w1 (VM N w1 (n+k) (qH (n+k) B (n+k)).2.length (nsv (n+k) B b))):=fun w1 lo1 hi1 lo2 hi2 u1 u2 g1 g2=>by
  refine Yp g1 g2 (by omega) (by omega) (q:=Q) ?_ ?_ hP hK
  ·intro i hi j hj;rw [hB.out];unfold q0T
   split
   ·split
    ·exact (ww hkx hkp (q_r) (q_r) i (by assumption) j (by assumption)).mono (by omega)
    ·exact hkc (j - n) (by omega) i (by assumption)
   ·split
    ·exact hkc (i - n) (by omega) j (by assumption)
    ·exact Ht.zero.mono (by omega)
  ·intro i hi;rw [hb.out];unfold cat
   split
   ·exact (QI hkx hky hkp (q_r) (q_r) i (by assumption)).mono (by omega)
   ·exact hkd (i - n) (by omega)
 rw [<-hB.out,<-hb.out];obtain⟨r,hr⟩:=qc (qH (n+k) B (n+k)).2.length;rw [<-hr.out] at HSV ⊢;obtain⟨x,hx⟩:=qc (nsv (n+k) B b);rw [<-hx.out] at HSV ⊢;obtain⟨Rf,hRf⟩:=qc (q5Y N w n k r x);rw [<-hRf.out];have hN:=h1.le;obtain⟨A1,c1,rfl,hmc,hcm⟩:=h1.form;obtain⟨A2,c2,rfl,hmc2,hcm2⟩:=h2.form;obtain⟨A3,c3,rfl,hmc3,hcm3⟩:=h3.form;obtain⟨A4,c4,rfl,hmc4,hcm4⟩:=hc.form;obtain⟨A5,c5,rfl,hmc5,hcm5⟩:=hd.form;have hI1:=h1;have hI2:=h2;have hI3:=h3;have hIc:=hc;have hId:=hd;obtain⟨bb,off,rfl,-,-,hx1⟩:=h1.addr hm0;obtain⟨A0,c0,o0,hc0,hm0',-⟩:=hx1 0 (by omega);rw [Nat.add_zero] at o0;unfold maxLen at hm0' hcm4 hcm5;clear h1 h2 h3 hc hd hx1 hkx hky hkp hkc hkd hQ hP hK hQP hp;have t1:((k:Int) != (k:Int))=false:=by simp
 have hCF:Hid (jk k (fun _=>false)=false):=zM.2 (fun _ _=>rfl);go_enter Tryz.func47,Tryz.ntmps47;go_upto_region 1 with (fail);refine qo ?_;intro W hE hsz B0;obtain⟨a0,a1,a2,-⟩:=cells3 B0;go_wp2_with (go_at_call 52; refine q_o ?_);refine (HCK.out _ hE).mono ?_;rintro e9 w1 ⟨rfl,e1⟩;replace hE:=hE.trans e1;replace B0:=e1.block B0;replace o0:=hE.cell o0;clear a0 a1 a2 e1 HCK hsz;obtain⟨a0,a1,a2,-⟩:=cells3 B0;go_upto_region 5 with (fail);refine qo ?_;intro w2 e2 hsz2 B2;replace hE:=hE.trans e2;replace B0:=e2.block B0;clear a0 a1 a2 o0;go_wp2_with (go_at_call 115; refine q_o ?_);refine (xg (hIc.ext hE) (fun i hi j hj=>(HCS.out i hi j hj).raw)).mono ?_;rintro e9 w3 ⟨rfl,e3⟩;have HT1:Hid (allB k (fun i=>allB n (fun j=>okR (raw (C i j))))=true):=qg.2 (fun i _=>qg.2 (fun j _=>kN _));rw [HT1.out];replace hE:=hE.trans e3;replace B0:=e3.block B0;replace B2:=e3.block B2;clear e2 e3 hsz2 HT1;go_wp2_with (go_at_call 115; refine q_o ?_);refine qJ ?_;intro w4 e4 hsz4 B4;replace hE:=hE.trans e4;replace B0:=e4.block B0;replace B2:=e4.block B2;refine (xg (one_row (hId.ext hE) B4) (fun i hi j hj=>(HDS.out j hj).raw)).mono ?_;have HT1:Hid (allB 1 (fun i=>allB k (fun j=>okR (raw (d j))))=true):=qg.2 (fun i _=>qg.2 (fun j _=>kN _));rw [HT1.out];rintro e9 w5 ⟨rfl,e5⟩;replace hE:=hE.trans e5;replace B0:=e5.block B0;replace B2:=e5.block B2;clear e4 e5 hsz4 HT1 B4
 obtain⟨gn,hgn⟩:∃ gn,gn=w1.heap.size:=⟨_,rfl⟩
 rw [<-hgn] at B2 ⊢;clear hgn;obtain⟨n0,-⟩:=qW B2;go_wp2_with (go_at_call 116; refine q_o ?_);refine (q3J (hIc.ext hE) gn (fun _=>false) (fun i hi w' u e hu=>by have h9:=q57 (e.cell n0) hu; rw [q_f (by simp)] at h9; exact h9)).mono ?_;rw [hCF.out];rintro e9 w6 ⟨rfl,e6⟩;replace hE:=hE.trans e6;replace B0:=e6.block B0;replace B2:=e6.block B2;clear n0 e6;obtain⟨a0,a1,a2,-⟩:=cells3 B0;go_wp2_with (go_at_call 53; refine q_o ?_);refine (q1Z (lo:=0) (hi:=w6.heap.size) (MtR.wide (hI1.ext hE) (Nat.zero_le _) (hI1.ext hE).2.1 (q_r)) (LsR.wide (hI2.ext hE) (Nat.zero_le _) (hI2.ext hE).2.1 (q_r)) (LsR.wide (hI3.ext hE) (Nat.zero_le _) (hI3.ext hE).2.1 (q_r)) hm0 (by omega) hn0 (by omega) HX.out HY.out HP.out HQ.out).mono ?_;rintro e9 w7 ⟨h,cap,g,β,lo7,rfl,hcap,hO,hRg,hg1,hg2,e7⟩;obtain⟨K,hK⟩:=qc (xE X p m);have HBK:Hid (∀ i,i < n->∀ j,cat n (K i) (fun t=>C t i) j=B i j):=fun i hi j=>by rw [hK.out]; exact HBT.out i hi j
 rw [<-hK.out] at hO;obtain⟨Rn,hRn⟩:=qc (yx X y p m);rw [<-hRn.out] at hRg hb;have hs6:=hE.size;replace hE:=hE.trans e7;replace B2:=e7.block B2;have hs7:=e7.size;clear a0 a1 a2 e7 B0 HBT;go_upto_region 13 with (fail);refine qo ?_;intro w8 e8 hsz8 B8;replace hE:=hE.trans e8;replace B2:=e8.block B2;replace hO:=hO.ext e8;replace hRg:=hRg.ext e8;have hs8:=e8.size;have hN8:N<=w8.heap.size:=by omega
 obtain⟨hi7,hhi7⟩:∃ hi7,hi7=w7.heap.size:=⟨_,rfl⟩
 rw [<-hhi7] at hO hs8 B8 hs7 ⊢;have hw8:w.heap.size<=w8.heap.size:=by omega
 clear e8 hhi7 hsz8;unfold maxLen at hcap;obtain⟨d0,d1,-⟩:=cells2 B8;go_wp2;clear d0 d1
 go_loopw [12,62] (fun v i wr=>∃ a:Nat,a<=n/\i=.int .i64 a/\Ext w8 wr/\∃ A c,v=.slice A a c/\zI N w8.heap.size wr.heap.size wr (.slice A a c) a (n+k) B) (fun _ i _=>n - (intOf i).toNat)
 case atStart=>exact⟨0,Nat.zero_le _,rfl,Ext.refl w8,_,_,rfl,zI.nil hN8 (q_r) (q_r) _⟩
 case round =>
  obtain⟨a,ha,rfl,hEr,A9,c9,rfl,hG⟩:=hrel;have hsr:=hEr.size
  by_cases hlt:a < n
  ·have hOr:=hO.ext hEr;have o0:=hOr.hcell hlt;have hrow:=hOr.row a hlt;obtain⟨wq,hwq⟩:∃ wq,wq=wr:=⟨wr,rfl⟩
   subst hwq;have hmle:=hO.mle;go_wp2;clear o0
   go_loopw [14,69] (fun v i wr=>∃ s:Nat,s<=k/\i=.int .i64 s/\Ext wq wr/\∃ A c,v=.slice A (n+s) c/\((s=0/\A=some ⟨β a,0,none⟩/\c=n)\/(0 < s/\Grow N wq.heap.size wr (.slice A (n+s) c) (n+s) (cat n (K a) (fun t=>C t a))))) (fun _ i _=>k - (intOf i).toNat)
   case atStart=>exact⟨0,Nat.zero_le _,rfl,Ext.refl wq,_,_,rfl,.inl ⟨rfl,rfl,rfl⟩⟩
   case round =>
    obtain⟨s,hs,rfl,hEs,A10,c10,rfl,hv⟩:=hrel;have hss:=hEs.size
    by_cases hlts:s < k
    ·obtain⟨bc,offc,rfl,-,-,hx6⟩:=(hIc.ext (hE.trans (hEr.trans hEs))).addr hk0;obtain⟨A6,c6,o0,-,hc6,hrw⟩:=hx6 s hlts;unfold maxLen at hc6;obtain⟨b7,off7,rfl,-,-,hx7⟩:=hrw.addr hn0;obtain⟨n1,A11,k11,c11,A12,k12,c12,p0,p1,p2,p3,hb1,g1,g2⟩:=(hx7 a hlt).open;have hns:(n+s) < 1000000000:=by omega
     clear hx6 hx7 hrw
     rcases hv with ⟨hs0,hA0,hc0'⟩ | ⟨hs0,hv⟩
     ·subst hs0 hA0;obtain rfl:n=c10:=hc0'.symm;rw [Nat.add_zero] at o0;go_wp2_with (at_builtin; refine q_o ?_);refine qo ?_;intro w11 e11 hsz11 BX;refine yG rfl _ _ 24 Tryz.underlying24 rfl rfl ((hrow.ext hEs).ext e11) rfl BX hb1 (g1.ext e11) (g2.ext e11) (by omega) ?_;intro g' cap' w12 hG3 e12;have hE12:=(hEs.trans e11).trans e12
      have hG4:=(hG3.low (base':=wq.heap.size) (by omega) (by have:=e11.size; omega)).congr (y:=cat n (K a) (fun t=>C t a)) (fun j hj=>by
       unfold upd cat
       by_cases e:j=n
       ·subst e; rw [if_pos rfl,if_neg (by omega),Nat.sub_self]
       ·rw [if_neg e,if_pos (by omega)])
      clear hG3 BX e11 e12 p0 p1 p2 p3 g1 g2 hb1 o0;go_wp2;go_roundw
      case rel=>exact⟨0+1,by omega,by go_num,hE12,_,_,rfl,.inr ⟨by omega,hG4⟩⟩
      case measure=>simp [intOf]; omega
     ·go_wp2_with (at_builtin; refine q_o ?_);refine qo ?_;intro w11 e11 hsz11 BX;refine zT rfl _ _ 24 Tryz.underlying24 rfl rfl (hv.ext e11) rfl BX hb1 (g1.ext e11) (g2.ext e11) hns ?_;rintro g' cap' w12 hG3 ⟨g2',hg2',c12',-⟩ -;have hE12:=c12'.ext (hEs.trans e11) hg2'
      have hG4:=hG3.congr (y:=cat n (K a) (fun t=>C t a)) (fun j hj=>by
       unfold upd
       by_cases e:j=n+s
       ·subst e; rw [if_pos rfl]; unfold cat; rw [if_neg (by omega),Nat.add_sub_cancel_left]
       ·rw [if_neg e])
      clear hG3 BX e11 c12' p0 p1 p2 p3 g1 g2 hb1 o0 hv;go_wp2;go_roundw
      case rel=>exact⟨s+1,by omega,by go_num,hE12,_,_,rfl,.inr ⟨by omega,hG4⟩⟩
      case measure=>simp [intOf]; omega
    ·obtain rfl:k=s:=by omega
     rcases hv with ⟨h9,-⟩ | ⟨-,hv⟩
     ·omega
     obtain⟨g9,cap9,hvv,hg9,hgs9,hcm9,hnc9,hrow9⟩:=hv.some (by omega);injection hvv with e1 _ e3
     subst e1 e3;have hG9:=hG.ext hEs;clear hv hG;go_wp2_with (at_builtin; refine q_o ?_);refine qo ?_;intro w11 e11 hsz11 BX;refine kK rfl _ _ 23 Tryz.underlying23 rfl rfl (hG9.ext e11) rfl (hrow9.ext e11) hg9 hcm9 BX (by omega) ?_;rintro h' cap' w12 hG8 ⟨g',hg',c12',-⟩;have hE12:=c12'.ext ((hEr.trans hEs).trans e11) hg';replace hG8:=hG8.congr (B:=B) (fun i _ j _=>by unfold xK; split; (rename_i e; subst e; exact HBK.out _ hlt j); rfl);clear hG9 c12' hrow9 BX e11;go_wp2;go_roundw
     case rel=>exact⟨a+1,by omega,by go_num,hE12,_,_,rfl,hG8⟩
     case measure=>simp [intOf]; omega
  ·obtain rfl:n=a:=by omega
   go_wp2
   go_loopw [12,88] (fun v i ws=>∃ s:Nat,s<=k/\i=.int .i64 s/\Ext w8 ws/\∃ A c,v=.slice A (n+s) c/\zI N w8.heap.size ws.heap.size ws (.slice A (n+s) c) (n+s) (n+k) B) (fun _ i _=>k - (intOf i).toNat)
   case atStart=>exact⟨0,Nat.zero_le _,rfl,hEr,_,_,rfl,hG⟩
   case round =>
    clear hG hEr hsr;obtain⟨s,hs,rfl,hEs,A10,c10,rfl,hG⟩:=hrel;have hss:=hEs.size
    by_cases hlts:s < k
    ·obtain⟨bc,offc,rfl,-,-,hx6⟩:=(hIc.ext (hE.trans hEs)).addr hk0;obtain⟨A6,c6,o0,-,hc6,hrw⟩:=hx6 s hlts;clear hx6;unfold maxLen at hc6;go_wp2_with (go_at_call 118; refine q_o ?_);refine (Yd hrw hn0 (by omega)).mono ?_;rintro e9 w11 ⟨g6,cap6,rfl,hg6,hcm6,hnc6,hr6,e11⟩;have hs11:=e11.size;clear o0 hrw;go_wp2_with (go_at_call 119; refine q_o ?_);refine (QK (N:=N) (by omega) k rfl (by omega)).mono ?_;rintro e9 w12 ⟨g7,rfl,hg7,hgs7,hr7,e12⟩;have hs12:=e12.size;have hz7:LsV N g7 (g7+1) w12 (.slice (some ⟨g7,0,none⟩) k k) k (fun _=>0):=hr7.lsv (c:=k) (q_r) (by unfold maxLen; omega) (q_r) (Nat.lt_succ_self _) (by omega);have hG6:Grow N wr.heap.size w12 (.slice (some ⟨g6,0,none⟩) n cap6) n (C s):=⟨by omega,by omega,.inr ⟨g6,cap6,rfl,hg6,hcm6,hr6.ext e12⟩⟩
     clear hr6 hr7;go_wp2_with (at_builtin; refine q_o ?_);refine xm rfl _ _ 24 Tryz.underlying24 rfl (by rfl) hG6 (by rfl) hz7 (by omega) ?_;rintro A13 c13 w13 hG13 ⟨g',hg',c13',-⟩;obtain⟨g9,cap9,hvv,hg9,hgs9,hcm9,hnc9,hrow9⟩:=hG13.some (by omega);injection hvv with e1 _ e3
     subst e1 e3;have hE13:=c13'.ext ((hEs.trans e11).trans e12) (by omega);have hGG:=((hG.ext e11).ext e12).chg c13' (by omega) (.inl hg');clear hG hG6 hG13 c13' hz7 e11 e12;go_wp2_with (at_builtin; refine q_o ?_);refine qo ?_;intro w14 e14 hsz14 BX;refine kK rfl _ _ 23 Tryz.underlying23 rfl rfl (hGG.ext e14) rfl (hrow9.ext e14) hg9 hcm9 BX (by omega) ?_;rintro h' cap' w15 hG8 ⟨g2',hg2',c15',-⟩;have hE15:=c15'.ext (hE13.trans e14) hg2'
     replace hG8:=hG8.congr (B:=B) (fun i _ j _=>by
      unfold xK
      split
      ·rename_i e; subst e
       have h9:=HBL.out (n+s) (by omega) j;rw [Nat.add_sub_cancel_left] at h9;exact h9
      ·rfl)
     clear hGG c15' hrow9 BX e14 hE13;go_wp2;go_roundw
     case rel=>exact⟨s+1,by omega,by go_num,hE15,_,_,rfl,hG8⟩
     case measure=>simp [intOf]; omega
    ·obtain rfl:k=s:=by omega
     have B8r:=hEs.block B8;obtain⟨d0,d1,-⟩:=cells2 B8r;have hM:=hG.mtv;clear hG;go_wp2_with (at_builtin; refine q_o ?_);refine xX rfl _ _ 24 Tryz.underlying24 rfl (by rfl) (hRg.ext hEs) (by rfl) (hId.ext (hE.trans hEs)) hk0 (by omega) ?_;intro A13 c13 w13 hG13 e13;rw [<-hb.out] at hG13;have hE13:=(hE.trans hEs).trans e13;have hs13:=e13.size;have hL13:=hG13.lsv (q_r) rfl;go_wp2_with (go_at_call 56; refine q_o ?_);refine (HSV.out _ _ _ _ _ _ _ (hM.ext e13) hL13).mono ?_;have hws:=hE13.size;have B2x:=e13.block (hEs.block B2);clear d0 d1 hM hL13 hG13 e13 HSV;rintro e9 w14 ⟨e14,⟨h9,rfl⟩ | ⟨h9,A14,c14,rfl,h14⟩⟩
     ·go_wp2
      first | go_ret3 | skip
      rw [hRf.out];exact⟨hE13.trans e14,.inl ⟨h9,rfl⟩⟩
     ·obtain⟨_,_,e8',hc14,hm14⟩:=LsV.form h14;injection e8' with e8' _ e9'
      subst e8' e9';obtain⟨gy,offy,rfl,-,-,-⟩:=LsV.addr h14 (by omega);have hL1:=LsV.sub h14 hn0 (show n<=n+k by omega) (c':=n) (by omega) (by unfold maxLen; omega);have hL2:=LsV.sub h14 (show n < n+k by omega) (q_r) (c':=c14 - n) (by omega) (by unfold maxLen at hm14 ⊢; omega);rw [Nat.zero_mul,Nat.add_zero,Nat.sub_zero] at hL1;rw [Nat.add_sub_cancel_left] at hL2;obtain⟨n0,-⟩:=qW (e14.block B2x);have hnc1:¬ c14=n:=by omega
      have hnl1:n<=c14:=by omega
      have hnl2:(n:Int)<=(n:Int)+(k:Int):=by omega
      have hnk1:n+k - n=k:=by omega
      unfold maxLen at hm14;go_upto_region 31 with (fail);refine Je [Mn.eq (.slice (some ⟨gy,offy,none⟩) (n+k) c14),Mn.i (n:Int),Mn.i (n:Int),Mn.eq (.slice (some ⟨gy,offy,none⟩) n n),Mn.eq (.slice (some ⟨gy,offy,none⟩) (n+k) c14),Mn.i (n:Int),Mn.eq (.slice (some ⟨gy,offy+n*4,none⟩) k (c14 - n)),Mn.eq (.slice (some ⟨gy,offy,none⟩) n n),Mn.eq (.slice (some ⟨gy,offy+n*4,none⟩) k (c14 - n)),Mn.i 0] (sM [114,115,116,117,118,119,120,6,7,8]) [] (rQ 10 0) 0 (by kernel_rfl) ?_ ?_
      ·show ∀ i,i < 10->_
       iterate 10 refine fs ?_ ?_
       ·exact fz
       all_goals intro hl; clear hl; refine stp rfl ?_; intro ac wi eI hB hA K hK
       have o19:=oOf (hB 19) rfl
       rotate_left
       have o10:=oOf (hB 10) rfl;have cc0:=eI.cell n0
       rotate_left
       have o10:=oOf (hB 10) rfl;have cc0:=eI.cell n0
       rotate_left
       obtain⟨x114,s114,j114⟩:=hA 0 114;obtain rfl:x114=(.slice (some ⟨gy,offy,none⟩) (n+k) c14):=j114;obtain⟨x115,s115,j115⟩:=hA 1 115;obtain rfl:x115=(.int .i64 (n:Int)):=j115;obtain⟨x116,s116,j116⟩:=hA 2 116;obtain rfl:x116=(.int .i64 (n:Int)):=j116
       rotate_left
       have o19:=oOf (hB 19) rfl
       rotate_left
       have o10:=oOf (hB 10) rfl;have cc0:=eI.cell n0
       rotate_left
       obtain⟨x118,s118,j118⟩:=hA 4 118;obtain rfl:x118=(.slice (some ⟨gy,offy,none⟩) (n+k) c14):=j118;obtain⟨x119,s119,j119⟩:=hA 5 119;obtain rfl:x119=(.int .i64 (n:Int)):=j119
       rotate_left
       obtain⟨x117,s117,j117⟩:=hA 3 117;obtain rfl:x117=(.slice (some ⟨gy,offy,none⟩) n n):=j117
       rotate_left
       obtain⟨x120,s120,j120⟩:=hA 6 120;obtain rfl:x120=(.slice (some ⟨gy,offy+n*4,none⟩) k (c14 - n)):=j120
       rotate_left
       rotate_left
       all_goals clear hB hA; go_simp; exact q_k hK rfl
      intro vals wz eZ hJ;have J6:vals 7=_:=hJ 7 (by decide) (by decide);have J7:vals 8=_:=hJ 8 (by decide) (by decide);have J8:vals 9=_:=hJ 9 (by decide) (by decide);clear hJ;simp only [pr,Nat.reduceAdd,J6,J7,J8];clear J6 J7 J8;refine qh (by kernel_rfl) ?_ _;have hL1z:=hL1.ext eZ;have hL2z:=hL2.ext eZ;have hsz:=eZ.size;have hs14:=e14.size;go_wp2
      first | go_ret3 | skip
      rw [hRf.out];refine⟨(hE13.trans e14).trans eZ,.inr ⟨h9,_,_,_,_,rfl,?_,LsR.wide hL2z (by omega) hsz (q_r)⟩⟩;exact (LsR.wide hL1z (by omega) hsz (q_r):LsV N w.heap.size wz.heap.size wz _ n _).congr (fun i _=>by rw [Nat.zero_add])
end Go.Proofs.YtfmddpahhloleaaGreat
