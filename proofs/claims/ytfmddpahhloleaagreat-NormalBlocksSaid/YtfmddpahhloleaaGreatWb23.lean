import Derived.Test.YtfmddpahhloleaaGreatWb22
set_option linter.all false
set_option maxHeartbeats 8000000
namespace Go.Proofs.YtfmddpahhloleaaGreat
open Go.RowKit
variable {w:World} {N n lo hi k m:Nat}
set_option maxRecDepth 100000 in
theorem q05 {lo2 hi2:Nat} {v1 v2 v3:Value} {X:Nat->Nat->Rat} {y p:Nat->Rat} (h1:MtV N lo hi w v1 m n X) (h2:LsV N lo2 hi2 w v2 m y) (h3:LsV N lo2 hi2 w v3 m p) (hm0:0 < m) (hm:m<=64) (hn0:0 < n) (hn:n<=24) (hp:∀ i,i < m->0 < p i)
  {Q H F:Nat} (hkx:HtM m n k X) (hky:HtL m k y) (hkp:HtL m k p) (hQ:m*(3*k+1)+3*k+2=Q) (kp e:Nat) {kz:Int} (hkz:kz=(kp:Int)) (hk1:1<=kp) (hke:kp+e=n) (he1:1<=e)
  (hH:5 ^ e*(Q+1)<=H) (hF:n*(Q+H+1)+1<=F) (hK:n*(F+Q+1)+2+5*H<=29000000000) :
  Calls Tryz.prog 46 #[.agg #[v1,v2,v3],.int .i64 kz] w (q5W N w kp (qH e (vM e (fun a b=>xE X p m (kp+a) (kp+b))) e).2.length e (q4W kp e (xE X p m)) (schR kp e (xE X p m) (yx X y p m))):=by
 subst hkz;have hQn:Q<=n*(Q+H+1):=by have:=Nat.le_mul_of_pos_left (Q+H+1) hn0; omega
 have hHn:H<=n*(Q+H+1):=by have:=Nat.le_mul_of_pos_left (Q+H+1) hn0; omega
 have hFn:F+Q<=n*(F+Q+1):=by have:=Nat.le_mul_of_pos_left (F+Q+1) hn0; omega
 have HX:=q_h hkx;have HY:=q_h hky;have HP:=q_h hkp;have HKK:Hid (HtM n n Q (xE X p m)):=(ww hkx hkp (q_r) (q_r)).mono (by omega);have HKR:Hid (HtL n Q (yx X y p m)):=(QI hkx hky hkp (q_r) (q_r)).mono (by omega);have HQ:Hid (m*(3*k+1)+3*k+2<=29000000000):=by rw [Hid]; omega
 have HCK:Hid (∀ w1,Ext w w1->Calls Tryz.prog 52 #[.agg #[v1,v2,v3]] w1 (zL w1 (.int .i64 0))):=fun w1 e1=>by
  have h9:=QL (QN (h1.ext e1) (h2.ext e1) (h3.ext e1)) (yT hkx hky hkp (by omega)) (fun i hi=>(hkp i hi).sz (by omega));rw [xU hm0 hm hn0 hn hp] at h9;exact h9
 obtain⟨K,hKd⟩:=qc (xE X p m);obtain⟨R,hRd⟩:=qc (yx X y p m);rw [<-hKd.out] at HKK ⊢;rw [<-hRd.out] at HKR ⊢;have HZH:Hid (HtM e e H (kD e (fun a b=>K (kp+a) (kp+b)))):=(q4k (fun i hi j hj=>HKK.out (kp+i) (by omega) (kp+j) (by omega))).mono hH
 have HFH:Hid (HtM kp e F (q34 kp e K)):=fun i hi j hj =>
  (q3d (m:=kp) (n:=e) (q:=e) (ka:=Q) (kb:=H) (fun a ha b hb=>HKK.out a (by omega) (kp+b) (by omega)) HZH.out i hi j hj).mono (by
   have:=Nat.mul_le_mul_right (Q+H+1) (show e<=n by omega); omega)
 have HGH:Hid (HtM kp kp (n*(F+Q+1)+1) (mm e (q34 kp e K) (fun a b=>K (kp+a) b))):=fun i hi j hj =>
  (q3d (m:=kp) (n:=e) (q:=kp) (ka:=F) (kb:=Q) HFH.out (fun a ha b hb=>HKK.out (kp+a) (by omega) b (by omega)) i hi j hj).mono (by
   have:=Nat.mul_le_mul_right (F+Q+1) (show e<=n by omega); omega)
 have HEN:Hid (e*(Q+H+1)+1<=29000000000/\e*(F+Q+1)+1<=29000000000):=by
  have h8:=Nat.mul_le_mul_right (Q+H+1) (show e<=n by omega);have h9:=Nat.mul_le_mul_right (F+Q+1) (show e<=n by omega);rw [Hid]; omega
 have HLS:Hid (∀ i,i < kp->Sz (sum e (fun t=>q34 kp e K i t*R (kp+t)))/\Sz (R i)):=fun i hi =>
  ⟨(y5 (n:=e) (k:=F+Q) (K:=e*(F+Q+1)+1) (fun t ht=>(HFH.out i hi t ht).mul (HKR.out (kp+t) (by omega))) (q_r) (q_r)).sz HEN.out.2,(HKR.out i (by omega)).sz (by omega)⟩
 have HSZ:Hid (Q<=29000000000/\n*(F+Q+1)+1<=29000000000/\5*(5 ^ e*(Q+1))<=29000000000):=by rw [Hid]; omega
 obtain⟨Ps,hPs⟩:=qc (qH e (vM e (fun a b=>K (kp+a) (kp+b))) e).2;obtain⟨Rf,hRf⟩:=qc (q5W N w kp Ps.length e (q4W kp e K) (schR kp e K R));rw [<-hPs.out,<-hRf.out];have hN:=h1.le;obtain⟨A1,c1,rfl,hmc,hcm⟩:=h1.form;obtain⟨A2,c2,rfl,hmc2,hcm2⟩:=h2.form;obtain⟨A3,c3,rfl,hmc3,hcm3⟩:=h3.form;have hI1:=h1;have hI2:=h2;have hI3:=h3;obtain⟨b,off,rfl,-,-,hx⟩:=h1.addr hm0;obtain⟨A0,c0,o0,hc0,hm0',-⟩:=hx 0 (by omega);rw [Nat.add_zero] at o0;unfold maxLen at hm0';have hkn:kp < n:=by omega
 have he:n - kp=e:=by omega
 clear h1 h2 h3 hkx hky hkp hK hp hx hQ hH hF hQn hHn hFn;go_enter Tryz.func46,Tryz.ntmps46;go_upto_region 1 with (fail);refine qo ?_;intro W hE hsz B0;obtain⟨a0,a1,a2,-⟩:=cells3 B0;go_wp2_with (go_at_call 52; refine q_o ?_);refine (HCK.out _ hE).mono ?_;rintro e9 w1 ⟨rfl,e1⟩;replace hE:=hE.trans e1;replace B0:=e1.block B0;replace o0:=hE.cell o0;clear a0 a1 a2 e1 HCK;obtain⟨a0,a1,a2,-⟩:=cells3 B0;go_wp2_with (go_at_call 53; refine q_o ?_);refine (JB (lo:=0) (hi:=w1.heap.size) (MtR.wide (hI1.ext hE) (Nat.zero_le _) (hI1.ext hE).2.1 (q_r)) (LsR.wide (hI2.ext hE) (Nat.zero_le _) (hI2.ext hE).2.1 (q_r)) (LsR.wide (hI3.ext hE) (Nat.zero_le _) (hI3.ext hE).2.1 (q_r)) hm0 (by omega) hn0 (by omega) HX.out HY.out HP.out HQ.out).mono ?_;rintro e9 w2 ⟨h,cap,g,rfl,hM,hr2,e2⟩;rw [<-hKd.out] at hM;rw [<-hRd.out] at hr2;have hs1:=hE.size;have hs2:=e2.size;replace hE:=hE.trans e2;clear a0 a1 a2 e2 o0;go_upto_region 8 with (fail);refine qo ?_;intro w3 e3 hsz3 B3;replace hE:=hE.trans e3;replace hM:=hM.ext e3;replace hr2:=hr2.ext e3;obtain⟨gb,hgb⟩:∃ gb,gb=w2.heap.size:=⟨_,rfl⟩
 rw [<-hgb] at B3 ⊢;have hs3:w.heap.size<=w3.heap.size:=hE.size;obtain⟨lo2,hlo2⟩:∃ lo2,lo2=w1.heap.size:=⟨_,rfl⟩
 obtain⟨hi2',hhi2⟩:∃ hi2',hi2'=w2.heap.size:=⟨_,rfl⟩
 rw [<-hlo2,<-hhi2] at hM hr2;clear e3 hgb hsz3 hlo2 hhi2 hs2 hs1 hsz B0;obtain⟨d0,d1,-⟩:=cells2 B3;have hT4:Hid (∀ wr,Ext w3 wr->MtV N lo2 hi2' wr (.slice (some ⟨h,0,none⟩) n cap) n n K):=fun wr e=>hM.ext e
 have hT5:Hid (∀ wr,Ext w3 wr->LsV N lo2 hi2' wr (.slice (some ⟨g,0,none⟩) n n) n R):=fun wr e=>hr2.ext e
 clear hM hr2;go_wp2_with (go_at_call 54; refine q_o ?_);refine (XI (hT4.out _ (Ext.refl _)) kp n kp n rfl rfl rfl rfl hkn (q_r) hkn (q_r) (by omega) (by omega)).mono ?_;rw [he];rintro e9 w4 ⟨A4,c4,rfl,h4,e4⟩;have eW:=e4;go_wp2_with (go_at_call 72; refine q_o ?_);refine (XM h4 he1 (by omega) (fun i hi j hj=>HKK.out (kp+i) (by omega) (kp+j) (by omega)) HSZ.out.2.2).mono ?_;rw [<-hPs.out];clear h4 e4;rintro e9 w5 ⟨e5,⟨h9,rfl⟩ | ⟨h9,hz,capz,βz,κz,rfl,hcz,hoz⟩⟩
 ·clear d0 d1 B3;go_wp2
  first | go_ret3 | skip
  rw [hRf.out];exact⟨hE.trans (eW.trans e5),.inl ⟨h9,rfl⟩⟩
 have hZ:MtV N _ _ w5 (.slice (some ⟨hz,0,none⟩) e capz) e e (kD e (fun a b=>K (kp+a) (kp+b))):=hoz.mtv hoz.mle hcz;replace eW:=eW.trans e5;clear hoz e5;replace B3:=eW.block B3;clear d0 d1;obtain⟨d0,d1,-⟩:=cells2 B3;have hk0:0 < kp:=by omega
 go_wp2_with (go_at_call 54; refine q_o ?_);refine (XI (hT4.out _ eW) 0 kp kp n rfl rfl rfl rfl hk0 (by omega) hkn (q_r) (by omega) (by omega)).mono ?_;rw [he,Nat.sub_zero];rintro e9 w6 ⟨A6,c6,rfl,h6,e6⟩;replace h6:MtV N _ _ w6 (.slice A6 kp c6) kp e (fun a b=>K a (kp+b)):=MtV.congr h6 (fun i _ j _=>by rw [Nat.zero_add]);replace eW:=eW.trans e6;go_wp2_with (go_at_call 73; refine q_o ?_);refine (q25 h6 (hZ.ext e6) hk0 (by omega) he1 (by omega) he1 (by omega) (fun a ha b hb=>HKK.out a (by omega) (kp+b) (by omega)) HZH.out HEN.out.1).mono ?_;rintro e9 w7 ⟨hf,capf,βf,κf,rfl,hcf,hof,e7⟩;have hF:MtV N _ _ w7 (.slice (some ⟨hf,0,none⟩) kp capf) kp e (q34 kp e K):=hof.mtv hof.mle hcf;replace eW:=eW.trans e7;replace B3:=e7.block (e6.block B3);clear hof h6 hZ e6 e7 d0 d1;obtain⟨d0,d1,-⟩:=cells2 B3;go_wp2_with (go_at_call 54; refine q_o ?_);refine (XI (hT4.out _ eW) kp n 0 kp rfl rfl rfl rfl hkn (q_r) hk0 (by omega) (by omega) (by omega)).mono ?_;rw [he,Nat.sub_zero];rintro e9 w8 ⟨A8,c8,rfl,h8,e8⟩;replace h8:MtV N _ _ w8 (.slice A8 e c8) e kp (fun a b=>K (kp+a) b):=MtV.congr h8 (fun i _ j _=>by rw [Nat.zero_add]);replace eW:=eW.trans e8;replace B3:=e8.block B3;have hF8:=hF.ext e8;go_wp2_with (go_at_call 73; refine q_o ?_);refine (q25 hF8 h8 hk0 (by omega) he1 (by omega) hk0 (by omega) HFH.out (fun a ha b hb=>HKK.out (kp+a) (by omega) b (by omega)) HEN.out.2).mono ?_;rintro e9 w9 ⟨hg,capg,βg,κg,rfl,hcg,hog,e10⟩
 obtain⟨G,hG⟩:=qc (mm e (q34 kp e K) (fun a b=>K (kp+a) b));have hGM:MtV N w8.heap.size w9.heap.size w9 (.slice (some ⟨hg,0,none⟩) kp capg) kp kp G:=by rw [hG.out]; exact hog.mtv hog.mle hcg
 have hF9:=hF8.ext e10;replace eW:=eW.trans e10;replace B3:=e10.block B3;clear hog h8 hF8 hF e8 e10 d0 d1;obtain⟨d0,d1,-⟩:=cells2 B3;go_wp2_with (go_at_call 54; refine q_o ?_);refine (XI (hT4.out _ eW) 0 kp 0 kp rfl rfl rfl rfl hk0 (by omega) hk0 (by omega) (by omega) (by omega)).mono ?_;rw [Nat.sub_zero];rintro e9 w11 ⟨A11,c11,rfl,h11,e11⟩;replace h11:MtV N _ _ w11 (.slice A11 kp c11) kp kp K:=MtV.congr h11 (fun i _ j _=>by rw [Nat.zero_add,Nat.zero_add]);replace eW:=eW.trans e11;replace B3:=e11.block B3;have hF11:=hF9.ext e11;go_wp2_with (go_at_call 74; refine q_o ?_);refine (q4a h11 (hGM.ext e11) hk0 (by omega) hk0 (by omega) (fun i hi j hj=>(HKK.out i (by omega) j (by omega)).sz HSZ.out.1) (fun i hi j hj=>by rw [hG.out]; exact (HGH.out i hi j hj).sz HSZ.out.2.1)).mono ?_;rintro e9 w12 ⟨hr,capr,βr,κr,rfl,hcr,hor,e12⟩;have hRM:MtV N w11.heap.size w12.heap.size w12 (.slice (some ⟨hr,0,none⟩) kp capr) kp kp (q4W kp e K):=(hor.mtv hor.mle hcr).congr (fun i _ j _=>by rw [hG.out]; rfl);have hmr:=hor.mle;have hF12:=hF11.ext e12;have hsw:=eW.size;replace eW:=eW.trans e12;replace B3:=e12.block B3;obtain⟨lo12,hlo12⟩:∃ lo12,lo12=w11.heap.size:=⟨_,rfl⟩
 rw [<-hlo12] at hRM hsw;clear hor h11 hGM hF11 hF9 e11 e12 d0 d1 hlo12;obtain⟨d0,d1,-⟩:=cells2 B3;have hsub:=LsV.sub (hT5.out _ eW) hkn (Nat.le_refl n) (Nat.le_refl (n - kp)) (by unfold maxLen; omega);rw [he,Nat.zero_add] at hsub;have hl1:¬ kp=n:=by omega
 go_wp2_with (go_at_call 113; refine q_o ?_);refine (q4d hF12 hsub hk0 (by omega) he1 (by omega) HFH.out (fun t ht=>HKR.out (kp+t) (by omega)) HEN.out.2).mono ?_;obtain⟨LV,hLV⟩:=qc (fun i=>sum e (fun t=>q34 kp e K i t*R (kp+t)));have HLV:Hid (∀ i,i < kp->Sz (LV i)):=fun i hi=>by rw [hLV.out]; exact (HLS.out i hi).1
 obtain⟨SR,hSR⟩:=qc (schR kp e K R);have HSR:Hid (∀ i,R i - LV i=SR i):=fun i=>by rw [hSR.out,hLV.out]; rfl
 rw [<-hLV.out];rintro e9 w13 ⟨A13,c13,rfl,h13,e13⟩;have hs12:=eW.size;replace eW:=eW.trans e13;replace B3:=e13.block B3;have hs13:=e13.size;replace hRM:=hRM.ext e13;obtain⟨hi12,hhi12⟩:∃ hi12,hi12=w12.heap.size:=⟨_,rfl⟩
 rw [<-hhi12] at hRM hs12 hs13 h13;clear d0 d1 hsub hF12 e13 hhi12 hl1;obtain⟨d0,d1,-⟩:=cells2 B3;have hsb:=LsV.sub (hT5.out _ eW) hk0 (show kp<=n by omega) (c':=n) (by omega) (by unfold maxLen; omega);rw [Nat.zero_mul,Nat.zero_add,Nat.sub_zero] at hsb;replace hsb:LsV N lo2 hi2' w13 (.slice (some ⟨g,0,none⟩) kp n) kp R:=hsb.congr (fun i _=>by rw [Nat.zero_add]);have hl1:¬ kp=0:=by omega
 have hN13:N<=w13.heap.size:=hsb.le;go_wp2;clear d0 d1
 go_loopw [20,101] (fun v i wr=>∃ a:Nat,a<=kp/\i=.int .i64 a/\Ext w13 wr/\∃ A c,v=.slice A a c/\Grow N w13.heap.size wr (.slice A a c) a SR) (fun _ i _=>kp - (intOf i).toNat)
 case atStart=>exact⟨0,Nat.zero_le _,rfl,Ext.refl w13,_,_,rfl,Grow.nil hN13 (q_r) _⟩
 case round =>
  obtain⟨i,hi',rfl,hEr,A20,c20,rfl,hG⟩:=hrel;have hsr:=hEr.size
  by_cases hlt:i < kp
  ·obtain⟨b1,off1,hA,-,-,hx⟩:=(hsb.ext hEr).addr hk0;obtain⟨rfl,rfl⟩:g=b1/\0=off1:=by injection hA with hA; injection hA with e1 e2; exact⟨e1,e2⟩
   obtain⟨n1,A7,k7,c7,A8,k8,c8,p0,p1,p2,p3,hb1,g1,g2⟩:=(hx i hlt).open;rw [Nat.zero_add] at p0 p1 p2 p3;obtain⟨b2,off2,rfl,-,-,hx2⟩:=(h13.ext hEr).addr hk0;obtain⟨n2,A9,k9,c9,A10,k10,c10,q0,q1,q2,q3,hb2,g3,g4⟩:=(hx2 i hlt).open;clear hx hx2 hA;go_upto_region 19 with (fail);refine qo ?_;intro w14 e14 hsz14 B14;obtain⟨t0,t1,t2,t3,-⟩:=cells4 B14;replace q0:=e14.cell q0;replace q1:=e14.cell q1;replace q2:=e14.cell q2;replace q3:=e14.cell q3;replace g1:=g1.ext e14;replace g2:=g2.ext e14;replace g3:=g3.ext e14;replace g4:=g4.ext e14;replace hG:=hG.ext e14;have hEw:=hEr.trans e14;obtain⟨gz,hgz⟩:∃ gz,gz=wr.heap.size:=⟨_,rfl⟩
   rw [<-hgz] at t0 t1 t2 t3 hsz14 hsr ⊢;have HS1:Hid (Sz (R i)):=(HLS.out i hlt).2;have HS2:Hid (Sz (LV i)):=HLV.out i hlt;have HSI:=q_h (HSR.out i);clear p0 p1 p2 p3 B14 e14 hgz hEr;have eC:=(Ext.refl w14).drew;refine qm (fun w'=>w'.cell? ⟨gz,0,none⟩=some (.bool n1)/\w'.cell? ⟨gz,1,none⟩=some (.slice A7 k7 c7)/\w'.cell? ⟨gz,2,none⟩=some (.bool false)/\w'.cell? ⟨gz,3,none⟩=some (.slice A8 k8 c8)/\w'.cell? ⟨b2,off2+i*4,none⟩=some (.bool n2)/\w'.cell? ⟨b2,off2+i*4+1,none⟩=some (.slice A9 k9 c9)/\w'.cell? ⟨b2,off2+i*4+2,none⟩=some (.bool false)/\w'.cell? ⟨b2,off2+i*4+3,none⟩=some (.slice A10 k10 c10)) [8] (by kernel_rfl) (by exact⟨eC.cell t0,eC.cell t1,eC.cell t2,eC.cell t3,eC.cell q0,eC.cell q1,eC.cell q2,eC.cell q3⟩) (fun hHeld=>?_);refine sP 0 (h:=?_);try simp only [nr]
   refine sT 1 (h:=?_);try simp only [nr]
   refine sP 2 (h:=?_);try simp only [nr]
   refine sP 3 (h:=?_);try simp only [nr]
   refine sP 4 (h:=?_);try simp only [nr]
   refine sT 5 (h:=?_);try simp only [nr]
   refine qj (i:=6) rfl (by kernel_rfl) (fun K hK=>?_);go_simp;refine (q0C (x:=R i) (y:=LV i) (by exact (qY.mk hb1 g1 g2).ext eC) (by exact (qY.mk hb2 g3 g4).ext eC) HS1.out HS2.out).mono ?_;rw [HSI.out];intro e9 w15 hh;obtain⟨b3,A11,k11,c11,A12,k12,c12,rfl,hb3,g5,g6,e15⟩:=hh.form;replace eC:=eC.trans e15;go_wp2_with fail;clear hHeld;refine hK.out _ _ (by exact⟨eC.cell t0,eC.cell t1,eC.cell t2,eC.cell t3,eC.cell q0,eC.cell q1,eC.cell q2,eC.cell q3⟩) fun hHeld=>?_
   clear hK K;try simp only [nr]
   refine qj (i:=7) rfl (by kernel_rfl) (fun K hK=>?_);go_simp
   first | refine qo ?_ | refine yB ?_
   intro w16 e16 hsz16 BX;replace eC:=eC.trans e16;replace g5:=g5.ext e16;replace g6:=g6.ext e16;have hG7:=hG.ext eC;have hE7:=hEw.trans eC;clear hHeld;refine hK.out _ _ (by exact⟨eC.cell t0,eC.cell t1,eC.cell t2,eC.cell t3,eC.cell q0,eC.cell q1,eC.cell q2,eC.cell q3⟩) fun hHeld=>?_
   clear hK K;try simp only [nr]
   refine ql (i:=8) rfl (by kernel_rfl) (by kernel_rfl) (fun K hK=>?_);refine jy rfl _ _ 24 Tryz.underlying24 rfl (by rfl) hG7 (by rfl) BX hb3 g5 g6 (by omega) ?_;rintro gq cap' w17 hG8 ⟨g',hg',c17,-⟩ -;replace hE7:=c17.ext hE7 hg';replace hG8:=hG8.congr (y:=SR) (fun j _=>by unfold upd; split <;> simp_all);refine hK.out _ _ ?_;clear hK K;try simp only [nr]
   refine sP 9 (h:=?_);try simp only [nr]
   refine qh (by kernel_rfl) ?_ _;clear hHeld;clear t0 t1 t2 t3 q0 q1 q2 q3 g1 g2 g3 g4 g5 g6 hb1 hb2 hb3 BX hG hG7 c17 hEw eC;go_wp2;go_roundw
   case rel=>exact⟨i+1,by omega,by go_num,hE7,_,_,rfl,hG8⟩
   case measure=>simp [intOf]; omega
  ·obtain rfl:kp=i:=by omega
   have hRM2:=hRM.ext hEr;have hlo:w.heap.size<=lo12:=by omega
   have hhi:hi12<=wr.heap.size:=by omega
   have hws:w.heap.size<=w13.heap.size:=by omega
   clear hRM;go_wp2
   first | go_ret3 | skip
   rw [hRf.out,<-hSR.out];exact⟨hE.trans (eW.trans hEr),.inr ⟨h9,_,_,_,_,rfl,MtR.wide hRM2 hlo hhi (q_r),hG.lsv hws rfl⟩⟩
end Go.Proofs.YtfmddpahhloleaaGreat
