import Derived.Test.YthkkknjcoidioaaGreatWb27
import Derived.Test.YthkkknjcoidioaaGreatWb26
import Derived.Test.YthkkknjcoidioaaGreatWb23
import Derived.Test.YthkkknjcoidioaaGreatWb25
import Derived.Test.YthkkknjcoidioaaGreatWb24
import Derived.Test.YthkkknjcoidioaaGreatWb21
import Derived.Test.YthkkknjcoidioaaGreatWb22
set_option linter.all false
set_option maxHeartbeats 8000000
namespace Go.Proofs.YthkkknjcoidioaaGreat
open Go.RowKit
theorem r5_apply {N lo hi lo' hi':Nat} {w:World} {v v':Value} {m n:Nat} {X:Nat→Nat→Rat} {x:Nat→Rat} (h:MtV N lo hi w v m n X) (h':LsV N lo' hi' w v' n x) (hm:m < 1000000) (hn0:0 < n) (hn:n < 1000000)
  {kx ky:Nat} (hkx:HtM m n kx X) (hky:HtL n ky x) (hK:n*(kx+ky+1)+1≤29000000000) :
  Calls Tryz.prog 31 #[v,v'] w (RetL N w m (fun i=>sum n (fun c=>X i c*x c))):=by
 have hI:=h;have hI':=h';obtain⟨A,c,rfl,hmc,hcm⟩:=h.form;obtain⟨A0,c0,rfl,hmc0,hcm0⟩:=h'.form;have HX:=Lib.hid hkx;have HY:=Lib.hid hky;have HK:=Lib.hid hK;clear h h' hkx hky hK hcm hcm0;go_enter Tryz.func31,Tryz.ntmps31;go_wp2_with (go_at_call 78; refine Hid.out ?_);refine (r5_column hI' hn).mono ?_;intro e w1 hh;obtain⟨A2,c2,rfl,h2,e2⟩:=hh.mt;go_wp2_with (go_at_call 39; refine Hid.out ?_);refine (r5_mul (hI.ext e2) h2 hm hn0 hn (by omega) (by omega) HX.out (fun i hi j _=>HY.out i hi) HK.out).mono ?_;intro e w3 hh;obtain⟨A3,c3,rfl,h3,e3⟩:=hh.mt;go_wp2_with (go_at_call 77; refine Hid.out ?_);refine (r5_first h3 hm (by omega)).mono ?_;rintro e w4 ⟨A4,c4,rfl,h4,e4⟩;go_wp2;go_ret;have hs2:=e2.size;have hs3:=e3.size;exact⟨A4,c4,rfl,LsR.wide h4 (by omega) (Nat.le_refl _) (Nat.le_refl _),(e2.trans e3).trans e4⟩
theorem l34_add {N:Nat} {w:World} {v v':Value} {x y:Rat} (h:RatV N w v x) (h':RatV N w v' y) (hz:Sz x) (hz':Sz y) :
  Calls Tryz.prog 93 #[v,v'] w (RetR N w (x+y)):=by
 obtain⟨q,hq⟩:=hid_eq (x+y);rw [←hq.out];have hN:=h.le;have hI:=h;have hI':=h';have HZ:=Lib.hid hz;have HZ':=Lib.hid hz';obtain⟨m1,X1,i1,d1,X2,i2,d2,rfl,hm1,gx1,gx2⟩:=h.parts;obtain⟨m2,Y1,i3,d3,Y2,i4,d4,rfl,hm2,gy1,gy2⟩:=h'.parts;clear hz hz' h h' gx1 gx2 gy1 gy2;go_enter Tryz.func93,Tryz.ntmps93;go_wp2_with (go_at_call 79; refine Hid.out ?_);refine boxesC3 ?_;intro W hE hsz B0 B1 B2;refine (r2_add (hI.ext hE) (hI'.ext hE) HZ.out HZ'.out).mono ?_;rw [←hq.out];intro e w1 hh;obtain⟨n3,A3,k3,c3,A4,k4,c4,rfl,hb3,g3,g4,e1⟩:=hh.form;replace hE:=hE.trans e1;replace B2:=e1.block B2;obtain⟨t0,t1,t2,t3,t4,t5,t6,t7⟩:=cells4 B2;go_wp2;exact fin_rat rfl rfl rfl hE B2 (by omega) hN g3 g4 hb3
theorem l34_mul {N:Nat} {w:World} {v v':Value} {x y:Rat} (h:RatV N w v x) (h':RatV N w v' y) (hz:Sz x) (hz':Sz y) :
  Calls Tryz.prog 92 #[v,v'] w (RetR N w (x*y)):=by
 obtain⟨q,hq⟩:=hid_eq (x*y);rw [←hq.out];have hN:=h.le;have hI:=h;have hI':=h';have HZ:=Lib.hid hz;have HZ':=Lib.hid hz';obtain⟨m1,X1,i1,d1,X2,i2,d2,rfl,hm1,gx1,gx2⟩:=h.parts;obtain⟨m2,Y1,i3,d3,Y2,i4,d4,rfl,hm2,gy1,gy2⟩:=h'.parts;clear hz hz' h h' gx1 gx2 gy1 gy2;go_enter Tryz.func92,Tryz.ntmps92;go_wp2_with (go_at_call 85; refine Hid.out ?_);refine boxesC3 ?_;intro W hE hsz B0 B1 B2;refine (r2_mul (hI.ext hE) (hI'.ext hE) HZ.out HZ'.out).mono ?_;rw [←hq.out];intro e w1 hh;obtain⟨n3,A3,k3,c3,A4,k4,c4,rfl,hb3,g3,g4,e1⟩:=hh.form;replace hE:=hE.trans e1;replace B2:=e1.block B2;obtain⟨t0,t1,t2,t3,t4,t5,t6,t7⟩:=cells4 B2;go_wp2;exact fin_rat rfl rfl rfl hE B2 (by omega) hN g3 g4 hb3
theorem l34_sub {N:Nat} {w:World} {v v':Value} {x y:Rat} (h:RatV N w v x) (h':RatV N w v' y) (hz:Sz x) (hz':Sz y) :
  Calls Tryz.prog 96 #[v,v'] w (RetR N w (x - y)):=by
 obtain⟨q,hq⟩:=hid_eq (x - y);rw [←hq.out];have hN:=h.le;have hI:=h;have hI':=h';have HZ:=Lib.hid hz;have HZ':=Lib.hid hz';obtain⟨m1,X1,i1,d1,X2,i2,d2,rfl,hm1,gx1,gx2⟩:=h.parts;obtain⟨m2,Y1,i3,d3,Y2,i4,d4,rfl,hm2,gy1,gy2⟩:=h'.parts;clear hz hz' h h' gx1 gx2 gy1 gy2;go_enter Tryz.func96,Tryz.ntmps96;go_wp2_with (go_at_call 69; refine Hid.out ?_);refine boxesC3 ?_;intro W hE hsz B0 B1 B2;refine (r2_sub (hI.ext hE) (hI'.ext hE) HZ.out HZ'.out).mono ?_;rw [←hq.out];intro e w1 hh;obtain⟨n3,A3,k3,c3,A4,k4,c4,rfl,hb3,g3,g4,e1⟩:=hh.form;replace hE:=hE.trans e1;replace B2:=e1.block B2;obtain⟨t0,t1,t2,t3,t4,t5,t6,t7⟩:=cells4 B2;go_wp2;exact fin_rat rfl rfl rfl hE B2 (by omega) hN g3 g4 hb3
set_option maxRecDepth 100000 in
theorem l34_residuals {N lo hi lo' hi':Nat} {w:World} {v1 v2 v3 v4:Value} {m n:Nat} {X:Nat→Nat→Rat} {y p x:Nat→Rat} (h1:MtV N lo hi w v1 m n X) (h2:LsV N lo hi w v2 m y) (h3:LsV N lo hi w v3 m p) (h4:LsV N lo' hi' w v4 n x) (hm:m < 1000000) (hn0:0 < n) (hn:n < 1000000)
  {k kx:Nat} (hkX:HtM m n k X) (hky:HtL m k y) (hkx:HtL n kx x) (hK:n*(k+kx+1)+1+k≤29000000000) :
  Calls Tryz.prog 55 #[.agg #[v1,v2,v3],v4] w (RetL N w m (fun i=>av n X x i - y i)):=by
 have HX:=Lib.hid hkX;have HXX:=Lib.hid hkx;have HK:Hid (n*(k+kx+1)+1≤29000000000):=by rw [Hid]; omega
 have HSS:Hid (∀ i,i < m→Sz (av n X x i)∧Sz (y i)):=fun i hi =>
  ⟨(sum_ht (n:=n) (k:=k+kx) (K:=n*(k+kx+1)+1) (fun c hc=>(hkX i hi c hc).mul (hkx c hc)) (Nat.le_refl _) (Nat.le_refl _)).sz (by omega),(hky i hi).sz (by omega)⟩
 obtain⟨Rf,hRf⟩:=hid_eq (RetL N w m (fun i=>av n X x i - y i));rw [←hRf.out];have hN:=h1.le;obtain⟨A1,c1,rfl,hmc,hcm⟩:=h1.form;obtain⟨A2,c2,rfl,hmc2,hcm2⟩:=h2.form;obtain⟨A3,c3,rfl,hmc3,hcm3⟩:=h3.form;obtain⟨A4,c4,rfl,hmc4,hcm4⟩:=h4.form;have hI1:=h1;have hI2:=h2;have hI4:=h4;clear h1 h2 h3 h4 hkX hky hkx hK;go_enter Tryz.func55,Tryz.ntmps55;go_wp2_with (go_at_call 31; refine Hid.out ?_);refine boxesC1 ?_;intro W hE hsz B0;refine (r5_apply (hI1.ext hE) (hI4.ext hE) hm hn0 hn HX.out HXX.out HK.out).mono ?_;rintro e w1 ⟨A5,c5,rfl,h5,e1⟩;replace h5:LsV N _ _ w1 (.slice A5 m c5) m (av n X x):=h5;have hE1:=hE.trans e1;have B01:=e1.block B0;have hs0:=hE.size;go_wp2
 go_loopw [5,13] (fun v i wr=>∃ k:Nat,k≤m∧i=.int .i64 k∧Ext w1 wr∧∃ A c,v=.slice A k c∧Grow N w1.heap.size wr (.slice A k c) k (fun i=>av n X x i - y i)) (fun _ i _=>m - (intOf i).toNat)
 case atStart=>exact⟨0,Nat.zero_le _,rfl,Ext.refl w1,_,_,rfl,Grow.nil (by have:=hE1.size; omega) (Nat.le_refl _) _⟩
 case round =>
  obtain⟨i,hi',rfl,hEr,A6,c6,rfl,hG⟩:=hrel;have hsr:=hEr.size
  by_cases hlt:i < m
  ·obtain⟨b,off,rfl,-,-,hx⟩:=(h5.ext hEr).addr (by omega);obtain⟨n1,A7,k7,c7,A8,k8,c8,p0,p1,p2,p3,hb1,g1,g2⟩:=(hx i hlt).open;obtain⟨b2,off2,rfl,-,-,hx2⟩:=(hI2.ext (hE1.trans hEr)).addr (by omega);obtain⟨n2,A9,k9,c9,A10,k10,c10,q0,q1,q2,q3,hb2,g3,g4⟩:=(hx2 i hlt).open;clear hx hx2;go_upto_region 5 with (fail);refine boxes1 ?_;intro w5 e5 hsz5 B5;obtain⟨t0,t1,t2,t3,-⟩:=cells4 B5;obtain⟨a0,a1,a2,-⟩:=cells3 (e5.block (hEr.block B01));replace q0:=e5.cell q0;replace q1:=e5.cell q1;replace q2:=e5.cell q2;replace q3:=e5.cell q3;replace g1:=g1.ext e5;replace g2:=g2.ext e5;replace g3:=g3.ext e5;replace g4:=g4.ext e5;replace hG:=hG.ext e5;have hEw:=hEr.trans e5;obtain⟨gz,hgz⟩:∃ gz,gz=wr.heap.size:=⟨_,rfl⟩
   rw [←hgz] at t0 t1 t2 t3 hsz5 ⊢;have hgz2:w1.heap.size≤gz:=by omega
   clear p0 p1 p2 p3 B5 e5 a0 a2 hgz;have eC:=(Ext.refl w5).drew;refine region_late (fun w'=>w'.cell? ⟨gz,0,none⟩=some (.bool n1)∧w'.cell? ⟨gz,1,none⟩=some (.slice A7 k7 c7)∧w'.cell? ⟨gz,2,none⟩=some (.bool false)∧w'.cell? ⟨gz,3,none⟩=some (.slice A8 k8 c8)∧w'.cell? ⟨w.heap.size,1,none⟩=some (.slice (some ⟨b2,off2,none⟩) m c2)∧w'.cell? ⟨b2,off2+i*4,none⟩=some (.bool n2)∧w'.cell? ⟨b2,off2+i*4+1,none⟩=some (.slice A9 k9 c9)∧w'.cell? ⟨b2,off2+i*4+2,none⟩=some (.bool false)∧w'.cell? ⟨b2,off2+i*4+3,none⟩=some (.slice A10 k10 c10)) [9] (by kernel_rfl) (by exact⟨eC.cell t0,eC.cell t1,eC.cell t2,eC.cell t3,eC.cell a1,eC.cell q0,eC.cell q1,eC.cell q2,eC.cell q3⟩) (fun hHeld=>?_);refine sP 0 (h:=?_);try simp only [nr]
   refine sT 1 (h:=?_);try simp only [nr]
   refine sP 2 (h:=?_);try simp only [nr]
   refine sT 3 (h:=?_);try simp only [nr]
   refine sP 4 (h:=?_);try simp only [nr]
   refine sP 5 (h:=?_);try simp only [nr]
   refine sT 6 (h:=?_);try simp only [nr]
   refine stepL_only (i:=7) rfl (by kernel_rfl) (fun K hK=>?_);go_simp;refine (l34_sub (x:=av n X x i) (y:=y i) (by exact (RatV.mk hb1 g1 g2).ext eC) (by exact (RatV.mk hb2 g3 g4).ext eC) (HSS.out i hlt).1 (HSS.out i hlt).2).mono ?_;intro e w6 hh;obtain⟨b3,A11,k11,c11,A12,k12,c12,rfl,hb3,g5,g6,e6⟩:=hh.form;replace eC:=eC.trans e6;go_wp2_with fail;clear hHeld;refine hK.out _ _ (by exact⟨eC.cell t0,eC.cell t1,eC.cell t2,eC.cell t3,eC.cell a1,eC.cell q0,eC.cell q1,eC.cell q2,eC.cell q3⟩) fun hHeld=>?_
   clear hK K;try simp only [nr]
   refine stepL_only (i:=8) rfl (by kernel_rfl) (fun K hK=>?_);go_simp
   first | refine boxes1 ?_ | refine boxesD1 ?_
   intro w7 e7 hsz7 BX;replace eC:=eC.trans e7;replace g5:=g5.ext e7;replace g6:=g6.ext e7;have hG7:=hG.ext eC;have hE7:=hEw.trans eC;clear hHeld;refine hK.out _ _ (by exact⟨eC.cell t0,eC.cell t1,eC.cell t2,eC.cell t3,eC.cell a1,eC.cell q0,eC.cell q1,eC.cell q2,eC.cell q3⟩) fun hHeld=>?_
   clear hK K;try simp only [nr]
   refine stepL_late (i:=9) rfl (by kernel_rfl) (by kernel_rfl) (fun K hK=>?_);refine step_append_rat rfl _ _ 24 Tryz.underlying24 rfl (by rfl) hG7 (by rfl) BX hb3 g5 g6 (by omega) ?_;rintro g cap' w8 hG8 ⟨g',hg',c13,-⟩ -;replace hE7:=c13.ext hE7 hg';replace hG8:=hG8.congr (y:=fun i=>av n X x i - y i) (fun j _=>by unfold upd; split <;> simp_all);refine hK.out _ _ ?_;clear hK K;try simp only [nr]
   refine sP 10 (h:=?_);try simp only [nr]
   refine stepL_done (by kernel_rfl) ?_ _;clear hHeld;clear t0 t1 t2 t3 q0 q1 q2 q3 a1 g1 g2 g3 g4 g5 g6 hb1 hb2 hb3 BX hG hG7 c13;go_wp2;go_roundw
   case rel=>exact⟨i+1,by omega,by go_num,hE7,_,_,rfl,hG8⟩
   case measure=>simp [intOf]; omega
  ·obtain rfl:m=i:=by omega
   go_wp2
   first | go_ret | skip
   rw [hRf.out];exact⟨A6,c6,rfl,hG.lsv hE1.size rfl,hE1.trans hEr⟩
set_option maxRecDepth 100000 in
theorem l34_objective {N lo hi lo' hi':Nat} {w:World} {v1 v2 v3 v4:Value} {m n:Nat} {X:Nat→Nat→Rat} {y p x:Nat→Rat} (h1:MtV N lo hi w v1 m n X) (h2:LsV N lo hi w v2 m y) (h3:LsV N lo hi w v3 m p) (h4:LsV N lo' hi' w v4 n x) (hm0:0 < m) (hm:m < 1000000) (hn0:0 < n) (hn:n < 1000000)
  {k kx kv:Nat} (hkX:HtM m n k X) (hky:HtL m k y) (hkp:HtL m k p) (hkx:HtL n kx x) (hkv0:kv=n*(k+kx+1)+1+k+1) (hK:m*(k+(kv+kv)+1)+1≤29000000000) :
  Calls Tryz.prog 54 #[.agg #[v1,v2,v3],v4] w (RetR N w (obj m p (fun i=>av n X x i - y i))):=by
 have hkv:HtL m kv (fun i=>av n X x i - y i):=fun i hi=>by
  rw [hkv0];exact (sum_ht (n:=n) (k:=k+kx) (K:=n*(k+kx+1)+1) (fun c hc=>(hkX i hi c hc).mul (hkx c hc)) (Nat.le_refl _) (Nat.le_refl _)).sub (hky i hi)
 have h98:=Nat.le_mul_of_pos_left (k+(kv+kv)+1) hm0
 have HRS:Hid (∀ w1 v1 v2 v3 v4 lo hi lo' hi',MtV N lo hi w1 v1 m n X→LsV N lo hi w1 v2 m y→LsV N lo hi w1 v3 m p→LsV N lo' hi' w1 v4 n x→Calls Tryz.prog 55 #[.agg #[v1,v2,v3],v4] w1 (RetL N w1 m (fun i=>av n X x i - y i))) :=
  fun w1 v1 v2 v3 v4 lo hi lo' hi' g1 g2 g3 g4=>l34_residuals g1 g2 g3 g4 hm hn0 hn hkX hky hkx (by omega)
 clear h98 hkX hky hkx hkv0;obtain⟨vv,hvv⟩:=hid_eq (fun i=>av n X x i - y i);rw [←hvv.out] at hkv HRS ⊢;have h9:=Nat.le_mul_of_pos_left (k+(kv+kv)+1) hm0
 have HSS:Hid (∀ i,i < m→Sz (vv i)∧Sz (p i)∧Sz (vv i*vv i)∧Sz (p i*(vv i*vv i))):=fun i hi =>
  ⟨(hkv i hi).sz (by omega),(hkp i hi).sz (by omega),((hkv i hi).mul (hkv i hi)).sz (by omega),((hkp i hi).mul ((hkv i hi).mul (hkv i hi))).sz (by omega)⟩
 have HSU:Hid (∀ i,i≤m→Sz (sum i (fun i=>p i*(vv i*vv i)))):=fun i hi=>(sum_ht (n:=m) (k:=k+(kv+kv)) (K:=29000000000) (fun t ht=>(hkp t ht).mul ((hkv t ht).mul (hkv t ht))) hi hK).sz (Nat.le_refl _)
 obtain⟨S,hS⟩:=hid_eq (obj m p vv);rw [←hS.out];have hN:=h1.le;obtain⟨A1,c1,rfl,hmc,hcm⟩:=h1.form;obtain⟨A2,c2,rfl,hmc2,hcm2⟩:=h2.form;obtain⟨A3,c3,rfl,hmc3,hcm3⟩:=h3.form;obtain⟨A4,c4,rfl,hmc4,hcm4⟩:=h4.form;have hI1:=h1;have hI2:=h2;have hI3:=h3;have hI4':=h4;clear h1 h2 h3 h4 hkp hkv hK h9;go_enter Tryz.func54,Tryz.ntmps54;go_wp2_with (go_at_call 50; refine Hid.out ?_);refine boxesC2 ?_;intro W hE hsz B0 B1;refine (r2_Whole (N:=N) (by have:=hE.size; omega) 0 (by omega) (by omega)).mono ?_;intro e w2 hh;obtain⟨b3,A9,k9,c9,A10,k10,c10,rfl,hb3,g3,g4,e2⟩:=hh.form;replace hE:=hE.trans e2;replace B0:=e2.block B0;replace B1:=e2.block B1;have hb1':w.heap.size+1 < w2.heap.size:=blk_lt B1;clear e2;go_upto_region 2 with (fail);refine boxes1 ?_;intro w3 e3 hsz3 B3;have HS0:Hid (((0:Int):Rat)=sum 0 (fun i=>p i*(vv i*vv i))):=rfl;rw [HS0.out] at hb3 g3 g4;have hBx:BoxR N w3 w2.heap.size (sum 0 (fun i=>p i*(vv i*vv i))):=BoxR.mk B3 hb3 (g3.ext e3) (g4.ext e3);clear B3 g3 g4 hb3;obtain⟨a0,a1,a2,-⟩:=cells3 (e3.block B0);go_wp2_with (go_at_call 55; refine Hid.out ?_);refine (HRS.out _ _ _ _ _ _ _ _ _ (hI1.ext (hE.trans e3)) (hI2.ext (hE.trans e3)) (hI3.ext (hE.trans e3)) (hI4'.ext (hE.trans e3))).mono ?_;rintro e w4 ⟨A4',c4',rfl,hI4,e4⟩;replace hBx:=hBx.ext e4;have e34:=e3.trans e4;have hs23:w2.heap.size+1≤w3.heap.size:=hsz3;have hs34:=e34.size;have hs33:=e4.size;clear a0 a1 a2 e3 HRS
 go_wp2
 go_loopw [13] (fun i wr=>∃ a:Nat,a≤m∧i=.int .i64 a∧Chg w2.heap.size (w2.heap.size+1) w4 wr∧w2.heap.size < wr.heap.size∧BoxR N wr w2.heap.size (sum a (fun i=>p i*(vv i*vv i)))) (fun i _=>m - (intOf i).toNat)
 case atStart=>exact⟨0,Nat.zero_le _,rfl,Chg.refl _ _ _,by omega,hBx⟩
 case round =>
  clear hBx hsz3;obtain⟨a,ha,rfl,hCg,hsz3,hBx⟩:=hrel;have e3:=hCg.ext e34 (Nat.le_refl _);have hI4r:=hI4.chg hCg (by have:=hE.size; omega) (.inr hs23);have B1r:=e3.block B1
  by_cases hlt:a < m
  ·obtain⟨b,off,rfl,-,-,hx⟩:=hI4r.addr (by omega);obtain⟨n1,A6,k6,c6,A12,k12,c12,p0,p1,p2,p3,hb1,g1,g2⟩:=(hx a hlt).open;obtain⟨b5,off5,rfl,-,-,hx5⟩:=(hI3.ext (hE.trans e3)).addr (by omega);obtain⟨n5,A13,k13,c13,A14,k14,c14,q0,q1,q2,q3,hb5,g5,g6⟩:=(hx5 a hlt).open;clear hx hx5;go_upto_region 5 with (fail);refine boxes1 ?_;intro w5 e5 hsz5 B5;obtain⟨b3,A9,k9,c9,A10,k10,c10,BS,hb3,g3,g4⟩:=hBx.ext e5;obtain⟨s0,s1,s2,s3,-⟩:=cells4 BS;obtain⟨t0,t1,t2,t3,-⟩:=cells4 B5;obtain⟨a0,a1,a2,-⟩:=cells3 (e5.block (e3.block B0));replace q0:=e5.cell q0;replace q1:=e5.cell q1;replace q2:=e5.cell q2;replace q3:=e5.cell q3;replace g1:=g1.ext e5;replace g2:=g2.ext e5;replace g5:=g5.ext e5;replace g6:=g6.ext e5;have e35:=e3.trans e5;have hC5:=hCg.trans (e5.chg _ _);obtain⟨hS1,hS2,hS3,hS4⟩:=HSS.out a hlt;have HS1:=Lib.hid hS1;have HS2:=Lib.hid hS2;have HS3:=Lib.hid hS3;have HS4:=Lib.hid hS4;have HS5:=Lib.hid (HSU.out a ha);obtain⟨gz,hgz⟩:∃ gz,gz=wr.heap.size:=⟨_,rfl⟩
   rw [←hgz] at t0 t1 t2 t3 hsz5 hsz3 ⊢;clear p0 p1 p2 p3 B5 hBx e5 hS1 hS2 hS3 hS4 a0 a1 hgz B1r e3;have eC:=(Ext.refl w5).drew;refine region_late (fun w'=>w'.cell? ⟨w2.heap.size,0,none⟩=some (.bool b3)∧w'.cell? ⟨w2.heap.size,1,none⟩=some (.slice A9 k9 c9)∧w'.cell? ⟨w2.heap.size,2,none⟩=some (.bool false)∧w'.cell? ⟨w2.heap.size,3,none⟩=some (.slice A10 k10 c10)∧w'.cell? ⟨gz,0,none⟩=some (.bool n1)∧w'.cell? ⟨gz,1,none⟩=some (.slice A6 k6 c6)∧w'.cell? ⟨gz,2,none⟩=some (.bool false)∧w'.cell? ⟨gz,3,none⟩=some (.slice A12 k12 c12)∧w'.cell? ⟨w.heap.size,2,none⟩=some (.slice (some ⟨b5,off5,none⟩) m c3)∧w'.cell? ⟨b5,off5+a*4,none⟩=some (.bool n5)∧w'.cell? ⟨b5,off5+a*4+1,none⟩=some (.slice A13 k13 c13)∧w'.cell? ⟨b5,off5+a*4+2,none⟩=some (.bool false)∧w'.cell? ⟨b5,off5+a*4+3,none⟩=some (.slice A14 k14 c14)) [11] (by kernel_rfl) (by exact⟨eC.cell s0,eC.cell s1,eC.cell s2,eC.cell s3,eC.cell t0,eC.cell t1,eC.cell t2,eC.cell t3,eC.cell a2,eC.cell q0,eC.cell q1,eC.cell q2,eC.cell q3⟩) (fun hHeld=>?_);refine sT 0 (h:=?_);try simp only [nr]
   refine sP 1 (h:=?_);try simp only [nr]
   refine sT 2 (h:=?_);try simp only [nr]
   refine sP 3 (h:=?_);try simp only [nr]
   refine sP 4 (h:=?_);try simp only [nr]
   refine sT 5 (h:=?_);try simp only [nr]
   refine sT 6 (h:=?_);try simp only [nr]
   refine sT 7 (h:=?_);try simp only [nr]
   refine stepL_only (i:=8) rfl (by kernel_rfl) (fun K hK=>?_);go_simp;refine (l34_mul (x:=vv a) (y:=vv a) (by exact (RatV.mk hb1 g1 g2).ext eC) (by exact (RatV.mk hb1 g1 g2).ext eC) HS1.out HS1.out).mono ?_;rintro e w6 ⟨v6,rfl,h6,e6⟩;replace eC:=eC.trans e6;go_wp2_with fail;clear hHeld;refine hK.out _ _ (by exact⟨eC.cell s0,eC.cell s1,eC.cell s2,eC.cell s3,eC.cell t0,eC.cell t1,eC.cell t2,eC.cell t3,eC.cell a2,eC.cell q0,eC.cell q1,eC.cell q2,eC.cell q3⟩) fun hHeld=>?_
   clear hK K;try simp only [nr]
   refine stepL_only (i:=9) rfl (by kernel_rfl) (fun K hK=>?_);go_simp;refine (l34_mul (x:=p a) (y:=vv a*vv a) (by exact (RatV.mk hb5 g5 g6).ext eC) (by exact h6) HS2.out HS3.out).mono ?_;rintro e w7 ⟨v7,rfl,h7,e7⟩;replace eC:=eC.trans e7;go_wp2_with fail;clear hHeld;refine hK.out _ _ (by exact⟨eC.cell s0,eC.cell s1,eC.cell s2,eC.cell s3,eC.cell t0,eC.cell t1,eC.cell t2,eC.cell t3,eC.cell a2,eC.cell q0,eC.cell q1,eC.cell q2,eC.cell q3⟩) fun hHeld=>?_
   clear hK K;try simp only [nr]
   refine stepL_only (i:=10) rfl (by kernel_rfl) (fun K hK=>?_);go_simp;refine (l34_add (x:=sum a (fun i=>p i*(vv i*vv i))) (y:=p a*(vv a*vv a)) (by exact (RatV.mk hb3 g3 g4).ext eC) (by exact h7) HS5.out HS4.out).mono ?_;intro e w8 hh;obtain⟨b9,A15,k15,c15,A16,k16,c16,rfl,hb9,g9,g10,e8⟩:=hh.form;replace eC:=eC.trans e8;have D0:=eC.block BS;obtain⟨u0,u1,u2,u3,u4,u5,u6,u7⟩:=cells4 D0;go_wp2_with fail;clear hHeld;refine hK.out _ _ (by exact⟨eC.cell s0,eC.cell s1,eC.cell s2,eC.cell s3,eC.cell t0,eC.cell t1,eC.cell t2,eC.cell t3,eC.cell a2,eC.cell q0,eC.cell q1,eC.cell q2,eC.cell q3⟩) fun hHeld=>?_
   clear hK K;try simp only [nr]
   refine stepL_late (i:=11) rfl (by kernel_rfl) (by kernel_rfl) (fun K hK=>?_);go_simp;refine hK.out _ _ ?_;clear hK K;try simp only [nr]
   refine stepL_done (by kernel_rfl) ?_ _;clear hHeld;obtain⟨w9,E9,hB9,K9,hs9⟩:=boxSet (q:=sum (a+1) (fun i=>p i*(vv i*vv i))) D0 (by have:=hE.size; omega) hb9 g9 g10;rw [E9];have hC9:=(hC5.trans (eC.chg _ _)).trans K9;have hs10:w2.heap.size < w9.heap.size:=by have:=eC.size; omega
   clear E9 K9 D0 s0 s1 s2 s3 t0 t1 t2 t3 u0 u1 u2 u3 u4 u5 u6 u7 BS g1 g2 g3 g4 g9 g10 hb1 hb3 hb9 hb5 g5 g6 q0 q1 q2 q3 a2;go_wp2;go_roundw
   case rel=>exact⟨a+1,by omega,by go_num,hC9,hs10,hB9⟩
   case measure=>simp [intOf]; omega
  ·obtain rfl:m=a:=by omega
   obtain⟨b3,A9,k9,c9,A10,k10,c10,BS,hb3,g3,g4⟩:=hBx;have HSX:Hid (sum m (fun i=>p i*(vv i*vv i))=S):=hS.out.symm;rw [HSX.out] at hb3 g3 g4;obtain⟨s0,s1,s2,s3,-⟩:=cells4 BS;obtain⟨t0,t1,t2,t3,t4,t5,t6,t7⟩:=cells4 B1r;go_wp2;exact fin_rat rfl rfl rfl (hE.trans e3) B1r (by omega) hN g3 g4 hb3
end Go.Proofs.YthkkknjcoidioaaGreat
namespace Go.Proofs.YthkkknjcoidioaaGreat
structure Mn where
 p:Value→World→Prop
 mono:∀ {v:Value} {w w':World},Ext w w'→p v w→p v w'
def Mn.any:Mn:=⟨fun _ _=>True,fun _ _=>trivial⟩
def Mn.eq (x:Value):Mn:=⟨fun v _=>v=x,fun _ h=>h⟩
def putAll:List (Option Tmp)→List Bool→(Nat→Value)→Nat→Act→Act
 | d :: ds,b :: bs,vals,i,a=>putAll ds bs vals (i+1) (if b=true then a.put d (vals i) else a)
 | _,_,_,_,a=>a
def nodupB:List (Option Tmp)→Bool
 | []=>true
 | none :: l=>nodupB l
 | some t :: l=>!l.contains (some t) && nodupB l
def updV (vals:Nat→Value) (i:Nat) (v:Value) (j:Nat):Value:=if j=i then v else vals j
theorem put_comm (a:Act) (d d':Option Tmp) (v v':Value) (h:∀ t,d=some t→d'≠some t):(a.put d v).put d' v'=(a.put d' v').put d v:=by
 cases d with
 | none=>rfl
 | some t =>
  cases d' with
  | none=>rfl
  | some t' =>
   have hne:t≠t':=fun e=>h t rfl (by rw [e])
   show ({ a with tmps:=_ }:Act)={ a with tmps:=_ }
   congr 1
   exact Array.setIfInBounds_comm _ _ hne
theorem put_size (a:Act) (d:Option Tmp) (v:Value):(a.put d v).tmps.size=a.tmps.size:=by
 cases d with
 | none=>rfl
 | some t=>simp [Act.put]
theorem put_other (a:Act) (d:Option Tmp) (v:Value) {t:Nat} (h:d≠some t):(a.put d v).tmps[t]?=a.tmps[t]?:=by
 cases d with
 | none=>rfl
 | some t' =>
  have hne:t'≠t:=fun e=>h (by rw [e])
  simp [Act.put,Array.getElem?_setIfInBounds,hne]
theorem putAll_put {d:Option Tmp} {v:Value}:∀ (ds:List (Option Tmp)) (bs:List Bool) (vals:Nat→Value) (k:Nat) (a:Act),(∀ t,d=some t→ds.contains (some t)=false)→putAll ds bs vals k (a.put d v)=(putAll ds bs vals k a).put d v
 | [],_,_,_,_,_=>by unfold putAll; rfl
 | _ :: _,[],_,_,_,_=>rfl
 | d0 :: ds,b :: bs,vals,k,a,h=>by
  have h1:∀ t,d=some t→d0≠some t∧ds.contains (some t)=false:=fun t ht=>by
   have:=h t ht;simp only [List.contains_cons,Bool.or_eq_false_iff,beq_eq_false_iff_ne] at this;exact⟨fun e=>this.1 e.symm,this.2⟩
  show putAll ds bs vals (k+1) (if b=true then (a.put d v).put d0 (vals k) else a.put d v)=_
  show _=(putAll ds bs vals (k+1) (if b=true then a.put d0 (vals k) else a)).put d v
  rw [←putAll_put ds bs vals (k+1) _ (fun t ht=>(h1 t ht).2)];cases b with
  | false=>rfl
  | true =>
   simp only [if_true];rw [put_comm a d d0 v (vals k) (fun t ht=>(h1 t ht).1)]
theorem putAll_congr {vals vals':Nat→Value}:∀ (ds:List (Option Tmp)) (bs:List Bool) (k:Nat) (a:Act),(∀ j,k≤j→vals j=vals' j)→putAll ds bs vals k a=putAll ds bs vals' k a
 | [],_,_,_,_=>by unfold putAll; rfl
 | _ :: _,[],_,_,_=>rfl
 | d0 :: ds,b :: bs,k,a,h=>by
  show putAll ds bs vals (k+1) (if b=true then a.put d0 (vals k) else a)=putAll ds bs vals' (k+1) (if b=true then a.put d0 (vals' k) else a)
  rw [h k (Nat.le_refl _)];exact putAll_congr ds bs (k+1) _ (fun j hj=>h j (by omega))
theorem nodup_tail {d:Option Tmp} {ds:List (Option Tmp)} (h:nodupB (d :: ds)=true):nodupB ds=true∧∀ t,d=some t→ds.contains (some t)=false:=by
 cases d with
 | none=>exact⟨h,fun t ht=>by cases ht⟩
 | some t0 =>
  unfold nodupB at h;rw [Bool.and_eq_true] at h;exact⟨h.2,fun t ht=>by injection ht with ht; subst ht; simpa using h.1⟩
theorem putAll_set {d:Option Tmp} {v:Value}:∀ (ds:List (Option Tmp)) (bs:List Bool) (vals:Nat→Value) (k i:Nat) (a:Act),nodupB ds=true→bs[i]?=some false→ds[i]?=some d→putAll ds (bs.set i true) (updV vals (k+i) v) k a=(putAll ds bs vals k a).put d v
 | [],_,_,_,_,_,_,_,hd=>by simp at hd
 | _ :: _,[],_,_,_,_,_,hb,_=>by simp at hb
 | d0 :: ds,b :: bs,vals,k,0,a,hn,hb,hd=>by
  simp only [List.getElem?_cons_zero,Option.some.injEq] at hb hd;subst hb hd;have hn':=nodup_tail hn
  show putAll ds bs (updV vals (k+0) v) (k+1) (a.put d0 (updV vals (k+0) v k))=(putAll ds bs vals (k+1) a).put d0 v
  rw [putAll_put _ _ _ _ _ hn'.2];have h1:updV vals (k+0) v k=v:=by simp [updV]
  rw [h1,putAll_congr (vals':=vals) ds bs (k+1) a (fun j hj=>by unfold updV; rw [if_neg (by omega)])]
 | d0 :: ds,b :: bs,vals,k,i+1,a,hn,hb,hd=>by
  have hn':=nodup_tail hn;simp only [List.getElem?_cons_succ] at hb hd
  show putAll ds (bs.set i true) (updV vals (k+(i+1)) v) (k+1) (if b=true then a.put d0 (updV vals (k+(i+1)) v k) else a)=(putAll ds bs vals (k+1) (if b=true then a.put d0 (vals k) else a)).put d v
  have h1:updV vals (k+(i+1)) v k=vals k:=by unfold updV; rw [if_neg (by omega)]
  have h2:k+(i+1)=k+1+i:=by omega
  rw [h1,h2];exact putAll_set ds bs vals (k+1) i _ hn'.1 hb hd
theorem putAll_old {t:Nat}:∀ (ds:List (Option Tmp)) (bs:List Bool) (vals:Nat→Value) (k:Nat) (a:Act),ds.contains (some t)=false→(putAll ds bs vals k a).tmps[t]?=a.tmps[t]?
 | [],_,_,_,_,_=>by unfold putAll; rfl
 | _ :: _,[],_,_,_,_=>rfl
 | d0 :: ds,b :: bs,vals,k,a,h=>by
  simp only [List.contains_cons,Bool.or_eq_false_iff,beq_eq_false_iff_ne] at h
  show (putAll ds bs vals (k+1) (if b=true then a.put d0 (vals k) else a)).tmps[t]?=_
  rw [putAll_old ds bs vals (k+1) _ h.2];cases b with
  | false=>rfl
  | true=>exact put_other a d0 _ (fun e=>h.1 e.symm)
theorem putAll_new {t:Nat}:∀ (ds:List (Option Tmp)) (bs:List Bool) (vals:Nat→Value) (k i:Nat) (a:Act),nodupB ds=true→bs[i]?=some true→ds[i]?=some (some t)→t < a.tmps.size→(putAll ds bs vals k a).tmps[t]?=some (vals (k+i))
 | [],_,_,_,_,_,_,_,hd,_=>by simp at hd
 | _ :: _,[],_,_,_,_,_,hb,_,_=>by simp at hb
 | d0 :: ds,b :: bs,vals,k,0,a,hn,hb,hd,ht=>by
  simp only [List.getElem?_cons_zero,Option.some.injEq] at hb hd;subst hb hd;have hn':=nodup_tail hn
  show (putAll ds bs vals (k+1) (a.put (some t) (vals k))).tmps[t]?=_
  rw [putAll_old ds bs vals (k+1) _ (hn'.2 t rfl)];simp [Act.put,ht]
 | d0 :: ds,b :: bs,vals,k,i+1,a,hn,hb,hd,ht=>by
  have hn':=nodup_tail hn;simp only [List.getElem?_cons_succ] at hb hd
  show (putAll ds bs vals (k+1) (if b=true then a.put d0 (vals k) else a)).tmps[t]?=_
  have h2:k+(i+1)=k+1+i:=by omega
  rw [h2];refine putAll_new ds bs vals (k+1) i _ hn'.1 hb hd ?_
  split
  ·rw [put_size]; exact ht
  ·exact ht
theorem fz {p:Nat→Prop}:∀ i,i < 0→p i:=fun i hi=>absurd hi (Nat.not_lt_zero i)
theorem fs {p:Nat→Prop} {n:Nat} (h:∀ i,i < n→p i) (hn:p n):∀ i,i < n+1→p i:=fun i hi=>by
 rcases Nat.lt_succ_iff_lt_or_eq.1 hi with h1 | h1
 ·exact h i h1
 ·rw [h1]; exact hn
theorem oOf {T:Array Value} {l:List Value} {t:Nat} {v:Value} (h:T[t]?=l.toArray[t]?) (hv:l[t]?=some v):T[t]?=some v:=by
 rw [h,List.getElem?_toArray]; exact hv
theorem pr:(∀ (d:Option Tmp) (ds:List (Option Tmp)) (bs:List Bool) (vals:Nat→Value) (i:Nat) (a:Act),putAll (d :: ds) (true :: bs) vals i a=putAll ds bs vals (i+1) (a.put d (vals i)))∧(∀ (d:Option Tmp) (ds:List (Option Tmp)) (bs:List Bool) (vals:Nat→Value) (i:Nat) (a:Act),putAll (d :: ds) (false :: bs) vals i a=putAll ds bs vals (i+1) a)∧(∀ (bs:List Bool) (vals:Nat→Value) (i:Nat) (a:Act),putAll [] bs vals i a=a) ∧
  (∀ (a:Act) (d:Tmp) (v:Value),a.put (some d) v={ a with tmps:=a.tmps.setIfInBounds d v })∧(∀ (a:Act) (v:Value),a.put none v=a)∧(∀ (l:List Value) (i:Nat) (v:Value),l.toArray.setIfInBounds i v=(l.set i v).toArray)∧(∀ (x:Value) (l:List Value) (v:Value),(x :: l).set 0 v=v :: l)∧(∀ (x:Value) (l:List Value) (i:Nat) (v:Value),(x :: l).set (i+1) v=x :: l.set i v) :=
 ⟨fun _ _ _ _ _ _=>rfl,fun _ _ _ _ _ _=>rfl,fun _ _ _ _=>by unfold putAll; rfl,nr⟩
section
variable {P:Program} {ops:Array Oper} {Q:Exit→Act→World→Prop} {late:List Nat}
theorem anyL_more {S:World→Prop}:∀ (f:Nat) (listed:Array Bool) (a:Act) (w:World),anyL P ops Q S late f listed a w→anyL P ops Q S late (f+1) listed a w
 | 0,_,_,_,h=>⟨fun _=>h.2,fun i hi=>by rw [h.1] at hi; cases hi⟩
 | f+1,_,_,_,h=>⟨h.1,fun i hi=>wpOp_mono (fun a' w' h'=>⟨h'.1,anyL_more f _ a' w' h'.2⟩) (h.2 i hi)⟩
theorem anyL_ge {S:World→Prop} {f g:Nat} (hfg:f≤g) {listed:Array Bool} {a:Act} {w:World} (h:anyL P ops Q S late f listed a w):anyL P ops Q S late g listed a w:=by
 induction hfg with
 | refl=>exact h
 | step _ ih=>exact anyL_more _ _ _ _ ih
def cnt (listed:Array Bool):Nat→Nat
 | 0=>0
 | n+1=>cnt listed n+if listed.getD n false=true then 0 else 1
theorem cnt_set {listed:Array Bool} {i:Nat} (hi:i < listed.size) (hf:listed.getD i false=false):∀ n,cnt (listed.setIfInBounds i true) n+(if i < n then 1 else 0)=cnt listed n
 | 0=>by simp [cnt]
 | n+1=>by
  have ih:=cnt_set hi hf n;unfold cnt
  by_cases h:i=n
  ·subst h;have h1:(listed.setIfInBounds i true).getD i false=true:=by simp [hi]
   rw [h1,hf,if_pos rfl,if_pos (Nat.lt_succ_self i),if_neg (by decide)];rw [if_neg (Nat.lt_irrefl i)] at ih;omega
  ·rw [Go.getD_set_ne false h]
   have h2:(if i < n+1 then 1 else 0)=if i < n then 1 else 0:=by
    by_cases h3:i < n
    ·rw [if_pos h3,if_pos (by omega)]
    ·rw [if_neg h3,if_neg (by omega)]
   rw [h2];omega
def lowB (ops:Array Oper):Bool:=(List.range ops.size).all fun i=>(preds ops i).all fun j=>decide (j < i)
def lateB (ops:Array Oper) (late:List Nat):Bool:=(List.range ops.size).all fun i=>late.contains i || waitsB ops late i
def fitsB (ds:List (Option Tmp)) (n:Nat):Bool:=ds.all fun d=>match d with | some t=>decide (t < n) | none=>true
def lastB (ops:Array Oper) (late:List Nat):List Bool:=(List.range ops.size).map fun i=>!late.contains i
def oldB (ds:List (Option Tmp)) (late:List Nat) (t:Nat):Bool:=(List.range ds.length).all fun j=>late.contains j || (ds[j]? != some (some t))
theorem putAll_late {t:Nat}:∀ (ds:List (Option Tmp)) (bs:List Bool) (vals:Nat→Value) (k:Nat) (a:Act),(∀ j:Nat,bs[j]?=some true→ds[j]?≠some (some t))→(putAll ds bs vals k a).tmps[t]?=a.tmps[t]?
 | [],_,_,_,_,_=>by unfold putAll; rfl
 | _ :: _,[],_,_,_,_=>rfl
 | d0 :: ds,b :: bs,vals,k,a,h=>by
  show (putAll ds bs vals (k+1) (if b=true then a.put d0 (vals k) else a)).tmps[t]?=_
  rw [putAll_late ds bs vals (k+1) _ (fun j hj=>h (j+1) hj)];cases b with
  | false=>rfl
  | true=>exact put_other a d0 _ (fun e=>h 0 rfl (by rw [e]; rfl))
theorem putAll_oldB {ds:List (Option Tmp)} {late:List Nat} {listed:Array Bool} {n t:Nat} (hl:ds.length=n) (h3:∀ j,late.contains j=true→j < n→listed.getD j false=false) (vals:Nat→Value) (a:Act) (h:oldB ds late t=true):(putAll ds listed.toList vals 0 a).tmps[t]?=a.tmps[t]?:=by
 refine putAll_late _ _ _ _ _ (fun j hj hd9=>?_);have hjl:j < ds.length:=(List.getElem?_eq_some_iff.1 hd9).1;have h1:=List.all_eq_true.1 h j (List.mem_range.2 hjl);rw [Bool.or_eq_true] at h1
 rcases h1 with h1 | h1
 ·have h2:=h3 j h1 (by omega);rw [Array.getElem?_toList] at hj;rw [Array.getD_eq_getD_getElem?,hj] at h2;cases h2
 ·rw [hd9] at h1;simp at h1
def Stp (P:Program) (ops:Array Oper) (Q:Exit→Act→World→Prop) (late:List Nat) (Js:List Mn) (ds:List (Option Tmp)) (a0:Act) (W:World) (i:Nat):Prop :=
 ∀ o,ops.toList[i]?=some o→∀ a w,Ext W w→(∀ t,oldB ds late t=true→a.tmps[t]?=a0.tmps[t]?) →
  (∀ j,(preds ops i).contains j=true→∀ t,ds[j]?=some (some t)→∃ v,a.tmps[t]?=some v∧(Js[j]?.getD Mn.any).p v w) →
  ∀ K:Act→World→Prop,Shut (∀ v w',Ext w w'→(Js[i]?.getD Mn.any).p v w'→K (a.put o.dst v) w')→if Region.wanted o (yielded ops a.tmps)=true then Oper.wp P o a w K Q else K (a.put o.dst undef) w
theorem stp {Js:List Mn} {ds:List (Option Tmp)} {a0:Act} {W:World} {i:Nat} {o:Oper} (hi:ops.toList[i]?=some o)
  (h:∀ a w,Ext W w→(∀ t,oldB ds late t=true→a.tmps[t]?=a0.tmps[t]?) →
   (∀ j,(preds ops i).contains j=true→∀ t,ds[j]?=some (some t)→∃ v,a.tmps[t]?=some v∧(Js[j]?.getD Mn.any).p v w) →
   ∀ K:Act→World→Prop,Shut (∀ v w',Ext w w'→(Js[i]?.getD Mn.any).p v w'→K (a.put o.dst v) w')→if Region.wanted o (yielded ops a.tmps)=true then Oper.wp P o a w K Q else K (a.put o.dst undef) w):Stp P ops Q late Js ds a0 W i:=by
 intro o' ho';rw [hi] at ho';cases ho'
 exact h
theorem ready_low (hlow:lowB ops=true) {listed:Array Bool} (hsz:listed.size=ops.size):∀ n,n≤ops.size→(∀ i,i < n→listed.getD i false=true)→(∃ i,i < ops.size∧listed.getD i false=false)→∃ i,i∈Region.ready .any ops listed:=by
 intro n hn hall hex
 induction h:ops.size - n generalizing n with
 | zero =>
  obtain⟨i,hi,hf⟩:=hex;rw [hall i (by omega)] at hf; cases hf
 | succ k ih =>
  cases hl:listed.getD n false with
  | true=>exact ih (n+1) (by omega) (fun i hi=>by
    by_cases e:i=n
    ·rw [e]; exact hl
    ·exact hall i (by omega)) (by omega)
  | false =>
   refine⟨n,mem_ready.2 ⟨?_,?_⟩⟩
   ·have:n < listed.size:=by omega
    simp [this] at hl ⊢; exact hl
   ·have hlt:n < ops.size:=by omega
    refine⟨ops[n],by simp [hlt],fun e he hb=>?_⟩
    have h1:=List.all_eq_true.1 (List.all_eq_true.1 hlow n (by simpa using hlt)) e.on (by
     unfold preds;rw [Array.getElem?_eq_getElem hlt];simp only [List.mem_map,List.mem_filter]
     exact⟨e,⟨by simpa using he,hb⟩,rfl⟩)
    exact hall e.on (by simpa using h1)
theorem inv_go {Js:List Mn} {ds:List (Option Tmp)} {a0:Act} {W:World} (hd:ops.toList.map (·.dst)=ds) (hnd:nodupB ds=true) (hsz:fitsB ds a0.tmps.size=true) (hlow:lowB ops=true) (hlate:lateB ops late=true)
  (hstep:∀ i,i < ops.size→late.contains i=false→Stp P ops Q late Js ds a0 W i) {k:Nat} (hk:cnt (lastB ops late).toArray ops.size=k)
  (hdone:∀ vals w,Ext W w→(∀ j,j < ops.size→late.contains j=false→(Js[j]?.getD Mn.any).p (vals j) w)→stepL P ops Q (fun _=>True) late k (lastB ops late).toArray (putAll ds (lastB ops late) vals 0 a0) w) :
  ∀ (fuel:Nat) (listed:Array Bool) (vals:Nat→Value) (w:World),listed.size=ops.size→Closed ops listed→(∀ t,late.contains t=true→t < ops.size→listed.getD t false=false)→cnt listed ops.size≤fuel→Ext W w →
   (∀ j,listed.getD j false=true→(Js[j]?.getD Mn.any).p (vals j) w)→anyL P ops Q (fun _=>True) late fuel listed (putAll ds listed.toList vals 0 a0) w:=by
 intro fuel
 induction fuel with
 | zero =>
  intro listed vals w h1 h2 h3 h4 h5 h6
  by_cases hall:∀ i,i < ops.size→late.contains i=false→listed.getD i false=true
  ·have hL:listed=(lastB ops late).toArray:=by
    apply Array.ext
    ·simp [lastB,h1]
    ·intro i hi _;have hio:i < ops.size:=by omega
     have e1:listed[i]=listed.getD i false:=by simp [hi]
     rw [e1];simp only [lastB,List.getElem_toArray,List.getElem_map,List.getElem_range];cases hc:late.contains i with
     | false=>exact hall i hio hc
     | true=>exact h3 i hc hio
   subst hL;have:=hdone vals w h5 (fun j hj hc=>h6 j (hall j hj hc)) h2;rw [hk] at h4;exact anyL_ge h4 this
  ·exfalso
   apply hall
   intro i hi _
   have hz:∀ n,n≤ops.size→cnt listed n=0→∀ i,i < n→listed.getD i false=true:=by
    intro n
    induction n with
    | zero=>intro _ _ i hi; omega
    | succ n ih =>
     intro hn hc i hi;unfold cnt at hc
     by_cases e:i=n
     ·subst e
      by_cases hg:listed.getD i false=true
      ·exact hg
      ·rw [if_neg hg] at hc; omega
     ·exact ih (by omega) (by omega) i (by omega)
   exact hz ops.size (Nat.le_refl _) (by omega) i hi
 | succ fuel ih =>
  intro listed vals w h1 h2 h3 h4 h5 h6
  by_cases hall:∀ i,i < ops.size→late.contains i=false→listed.getD i false=true
  ·have hL:listed=(lastB ops late).toArray:=by
    apply Array.ext
    ·simp [lastB,h1]
    ·intro i hi _;have hio:i < ops.size:=by omega
     have e1:listed[i]=listed.getD i false:=by simp [hi]
     rw [e1];simp only [lastB,List.getElem_toArray,List.getElem_map,List.getElem_range];cases hc:late.contains i with
     | false=>exact hall i hio hc
     | true=>exact h3 i hc hio
   subst hL;have:=hdone vals w h5 (fun j hj hc=>h6 j (hall j hj hc)) h2;rw [hk] at h4;exact anyL_ge h4 this
  ·have hex:∃ i,i < ops.size∧late.contains i=false∧listed.getD i false=false:=by
    apply Classical.byContradiction
    intro hno
    apply hall
    intro i hi hc;cases hl:listed.getD i false with
    | true=>rfl
    | false=>exact absurd ⟨i,hi,hc,hl⟩ hno
   obtain⟨u,hu,huc,hul⟩:=hex;have hne:=ready_low hlow h1 0 (Nat.zero_le _) (fun i hi=>by omega) ⟨u,hu,hul⟩;refine⟨fun h0=>?_,fun i hi=>?_⟩
   ·obtain⟨i,hi⟩:=hne; rw [h0] at hi; cases hi
   ·have hun:=ready_not hi;obtain⟨hun2,o,ho,-⟩:=mem_ready.1 hi;have hio:i < ops.size:=(Array.getElem?_eq_some_iff.1 ho).1
    have hic:late.contains i=false:=by
     cases hc:late.contains i with
     | false=>rfl
     | true =>
      have hw:=List.all_eq_true.1 hlate u (by simpa using hu);rw [huc,Bool.false_or] at hw;have:=late_listed hw h2 hi hc;rw [hul] at this; cases this
    have ho':ops.toList[i]?=some o:=by rw [Array.getElem?_toList]; exact ho
    have hdi:ds[i]?=some o.dst:=by rw [←hd,List.getElem?_map,ho']; rfl
    have hbi:listed.toList[i]?=some false:=by
     rw [Array.getElem?_toList];have:i < listed.size:=by omega
     simp [this] at hun ⊢; exact hun
    refine wpOp_step ho (fun K' hK=>?_);refine hstep i hio hic o ho' _ w h5 (fun t ht=>putAll_oldB (by rw [←hd]; simp) h3 vals a0 ht) (fun j hj t ht=>?_) K' (fun v w' e hJ=>hK _ _ ⟨fun _ _=>trivial,?_⟩)
    ·have hjl:=preds_ready hi j (by simpa using hj);refine⟨vals j,?_,h6 j hjl⟩
     have hjs:j < listed.size:=by
      rcases Nat.lt_or_ge j listed.size with h | h
      ·exact h
      ·simp [Array.getElem?_eq_none h] at hjl
     have:=putAll_new ds listed.toList vals 0 j a0 hnd (by rw [Array.getElem?_toList]; simp [hjs] at hjl ⊢; exact hjl) ht (by
      have:=List.all_eq_true.1 hsz (some t) (List.mem_of_getElem? ht)
      simpa using this)
     rw [Nat.zero_add] at this;exact this
    ·have hc:=cnt_set (by omega:i < listed.size) hun ops.size;rw [if_pos hio] at hc;have hps:=putAll_set (v:=v) ds listed.toList vals 0 i a0 hnd hbi hdi;rw [Nat.zero_add] at hps;rw [←hps,←Array.toList_setIfInBounds];refine ih (listed.setIfInBounds i true) (updV vals i v) w' (by simpa using h1) (h2.set hi) (fun t htl htn=>?_) (by omega) (h5.trans e) (fun j hj=>?_)
     ·rw [Go.getD_set_ne false (fun e=>by subst e; rw [hic] at htl; cases htl)];exact h3 t htl htn
     ·by_cases hji:i=j
      ·subst hji;have:updV vals i v i=v:=by simp [updV]
       rw [this]; exact hJ
      ·rw [Go.getD_set_ne false hji] at hj;have:updV vals i v j=vals j:=by unfold updV; rw [if_neg (fun e=>hji e.symm)]
       rw [this];exact (Js[j]?.getD Mn.any).mono e (h6 j hj)
theorem region_inv (Js:List Mn) (ds:List (Option Tmp)) (late:List Nat) (bs:List Bool) (k:Nat) {id:Nat} {a0:Act} {W:World} (hm:P.follows .mixedOrders=true) (hd:ops.toList.map (·.dst)=ds) (hnd:nodupB ds=true) (hsz:fitsB ds a0.tmps.size=true) (hlow:lowB ops=true) (hlate:lateB ops late=true)
  (hb:lastB ops late=bs) (hk:cnt bs.toArray ops.size=k) (hstep:∀ i,i < ops.size→late.contains i=false→Stp P ops Q late Js ds a0 W i)
  (hdone:∀ vals w,Ext W w→(∀ j,j < ops.size→late.contains j=false→(Js[j]?.getD Mn.any).p (vals j) w)→stepL P ops Q (fun _=>True) late k bs.toArray (putAll ds bs vals 0 a0) w) :
  (Code.region id ops true).wp P Q a0 W:=by
 subst hb
 have h0:∀ n,putAll ds (Array.replicate n false).toList (fun _=>undef) 0 a0=a0:=by
  intro n;simp only [Array.toList_replicate]
  have:∀ (ds:List (Option Tmp)) (n k:Nat),putAll ds (List.replicate n false) (fun _=>undef) k a0=a0:=by
   intro ds
   induction ds with
   | nil=>intro n k; unfold putAll; rfl
   | cons d ds ih =>
    intro n k;cases n with
    | zero=>rfl
    | succ n=>exact ih n (k+1)
  exact this ds n 0
 have hc0:∀ (n:Nat) (l:Array Bool),cnt l n≤n:=by
  intro n l
  induction n with
  | zero=>exact Nat.le_refl _
  | succ n ih=>unfold cnt; split <;> omega
 have hf0:∀ j,(Array.replicate ops.size false).getD j false=false:=fun j=>by
  rw [Array.getD_eq_getD_getElem?,Array.getElem?_replicate]; split <;> rfl
 have:=inv_go (P:=P) (Q:=Q) (late:=late) hd hnd hsz hlow hlate hstep hk hdone ops.size (Array.replicate ops.size false) (fun _=>undef) W.drew (by simp) (Closed.start _) (fun t _ _=>hf0 t) (hc0 _ _) (Ext.refl W).drew (fun j hj=>by rw [hf0 j] at hj; cases hj);rw [h0] at this;exact wp_region_any hm (any_of_anyL _ _ _ _ this)
def invB (P:Program) (ops:Array Oper) (ds:List (Option Tmp)) (late:List Nat) (bs:List Bool) (k n:Nat):Bool :=
 P.follows .mixedOrders && (decide (ops.toList.map (·.dst)=ds) && (nodupB ds && (fitsB ds n && (lowB ops && (lateB ops late && (decide (lastB ops late=bs) && decide (cnt bs.toArray ops.size=k)))))))
theorem regI (Js:List Mn) (ds:List (Option Tmp)) (late:List Nat) (bs:List Bool) (k:Nat) {id:Nat} {a0:Act} {W:World} (h:invB P ops ds late bs k a0.tmps.size=true) (hstep:∀ i,i < ops.size→late.contains i=false→Stp P ops Q late Js ds a0 W i)
  (hdone:∀ vals w,Ext W w→(∀ j,j < ops.size→late.contains j=false→(Js[j]?.getD Mn.any).p (vals j) w)→stepL P ops Q (fun _=>True) late k bs.toArray (putAll ds bs vals 0 a0) w) :
  (Code.region id ops true).wp P Q a0 W:=by
 unfold invB at h;simp only [Bool.and_eq_true,decide_eq_true_eq] at h;obtain⟨h1,h2,h3,h4,h5,h6,h7,h8⟩:=h;exact region_inv Js ds late bs k h1 h2 h3 h4 h5 h6 h7 h8 hstep hdone
end
end Go.Proofs.YthkkknjcoidioaaGreat
namespace Go.Proofs.YthkkknjcoidioaaGreat
open Go.RowKit
def Mn.rat (N:Nat) (q:Rat):Mn:=⟨fun v w=>RatV N w v q,fun e h=>h.ext e⟩
def Mn.ls (N n:Nat) (x:Nat→Rat):Mn:=⟨fun v w=>LsV N 0 w.heap.size w v n x,fun e h=>LsR.wide (h.ext e) (Nat.le_refl _) e.size (Nat.le_refl _)⟩
def Mn.mt (N m n:Nat) (X:Nat→Nat→Rat):Mn:=⟨fun v w=>MtV N 0 w.heap.size w v m n X,fun e h=>MtR.wide (h.ext e) (Nat.le_refl _) e.size (Nat.le_refl _)⟩
def Mn.blk (lo:Nat) (o:Obj):Mn:=⟨fun v w=>∃ g,v=.pointer (some ⟨g,0,none⟩)∧lo≤g∧w.heap[g]?=some o,fun e h=>by
  obtain⟨g,h0,h1,h2⟩:=h
  exact⟨g,h0,h1,e.block h2⟩⟩
theorem one_rat {N:Nat} {w:World} {g:Nat} {b:Bool} {s t:Value} {q:Rat} (hN:N≤w.heap.size) (h:w.heap[g]?=some (.cells #[.bool b,s,.bool false,t] 36 (0,0))) (hb:Hid (b=decide (q.num < 0))) (h1:Gs N w s (dg q.num.natAbs)) (h2:Gs N w t (dg q.den)) :
  LsV N 0 w.heap.size w (.slice (some ⟨g,0,none⟩) 1 1) 1 (fun _=>q):=by
 refine⟨hN,Nat.le_refl _,_,1,rfl,Nat.le_refl _,by unfold maxLen; omega,fun _=>⟨g,0,rfl,Nat.zero_le _,blk_lt h,fun i hi=>?_⟩⟩;obtain rfl:i=0:=by omega
 refine⟨s,t,?_,cell_blk h 1,cell_blk h 2,cell_blk h 3,h1,h2⟩
 show w.cell? ⟨g,0,none⟩=some (.bool (decide (q.num < 0)))
 rw [←hb.out]; exact cell_blk h 0
theorem run_make_rows (w:World) (kl kc:IntKind) (n:Nat) (hn:n*24≤281474976710656) :
  ∃ w' cs,(Instr.makeSlice 23 (.int kl n) (.int kc n)).run Tryz.prog w=.ok (.slice (some ⟨w.heap.size,0,none⟩) n n) w'∧w'.heap[w.heap.size]?=some (.cells cs 24 (0,0))∧cs.size=n∧Ext w w':=by
 obtain⟨i0,hi0,hz0,hz1,hz2⟩:=info_parts info_row;obtain⟨w',hrun,hown,hgr⟩:=run_make_full (P:=Tryz.prog) w w.heap.size 23 24 i0 _ 1 Tryz.underlying23 hi0 hz0 hz1 kl kc n (by rw [hz2]; omega) (by unfold maxLen; omega) (Nat.le_refl _);have hx:=(Ext.refl w).grown hgr (fun k hk=>by cases hk)
 rcases hown.2 with ⟨h,_⟩ | ⟨g,cap,cur,hv,hg,hh,hnc,hcm,hcs,htk⟩
 ·cases h
 ·have e1:w.heap.size=g:=Option.some.inj (congrArg Value.ownBlock hv);have e3:n=cap:=congrArg (fun v:Value=>match v with | .slice _ _ c=>c | _=>0) hv;subst e1 e3;exact⟨w',cur,hrun,hh,by omega,hx⟩
theorem run_make_rats (w:World) (kl kc:IntKind) (n:Nat) (hn:n*64≤281474976710656) :
  ∃ w' cs,(Instr.makeSlice 24 (.int kl n) (.int kc n)).run Tryz.prog w=.ok (.slice (some ⟨w.heap.size,0,none⟩) n n) w'∧w'.heap[w.heap.size]?=some (.cells cs 36 (0,0))∧cs.size=n*4∧Ext w w':=by
 obtain⟨i0,hi0,hz0,hz1,hz2⟩:=info_parts info_rat;obtain⟨w',hrun,hown,hgr⟩:=run_make_full (P:=Tryz.prog) w w.heap.size 24 36 i0 _ 4 Tryz.underlying24 hi0 hz0 hz1 kl kc n (by rw [hz2]; omega) (by unfold maxLen; omega) (Nat.le_refl _);have hx:=(Ext.refl w).grown hgr (fun k hk=>by cases hk)
 rcases hown.2 with ⟨h,_⟩ | ⟨g,cap,cur,hv,hg,hh,hnc,hcm,hcs,htk⟩
 ·cases h
 ·have e1:w.heap.size=g:=Option.some.inj (congrArg Value.ownBlock hv);have e3:n=cap:=congrArg (fun v:Value=>match v with | .slice _ _ c=>c | _=>0) hv;subst e1 e3;exact⟨w',cur,hrun,hh,hcs,hx⟩
theorem wpList_make_rows {w:World} {ops:Array Oper} {rest:List Oper} {o:Oper} {a:Act} {Q:Exit→Act→World→Prop} (hg:o.guard=none) (l c:Operand) (hop:o.op=Op.makeSlice 23 l c)
  (kl kc:IntKind) (L C:Int) (n:Nat) (hl:a.eval l=.int kl L) (hc:a.eval c=.int kc C) (hL:L=(n:Int)) (hC:C=(n:Int)) (hn:n < 1000000)
  (hK:∀ w' cs,w'.heap[w.heap.size]?=some (.cells cs 24 (0,0))→cs.size=n→Ext w w'→wpList Tryz.prog ops Q rest (a.put o.dst (.slice (some ⟨w.heap.size,0,none⟩) n n)) w'):wpList Tryz.prog ops Q (o :: rest) a w:=by
 refine wpList_plain hg fun K hK'=>?_
 obtain⟨w',cs,hrun,r1,r2,r3⟩:=run_make_rows w kl kc n (by omega);subst hL;subst hC;unfold Oper.wp;simp [execOp,hop,hl,hc,hrun,Result.andThen]
 exact hK' _ _ (hK w' cs r1 r2 r3)
theorem wpList_make_rats {w:World} {ops:Array Oper} {rest:List Oper} {o:Oper} {a:Act} {Q:Exit→Act→World→Prop} (hg:o.guard=none) (l c:Operand) (hop:o.op=Op.makeSlice 24 l c)
  (kl kc:IntKind) (L C:Int) (n:Nat) (hl:a.eval l=.int kl L) (hc:a.eval c=.int kc C) (hL:L=(n:Int)) (hC:C=(n:Int)) (hn:n < 1000000)
  (hK:∀ w' cs,w'.heap[w.heap.size]?=some (.cells cs 36 (0,0))→cs.size=n*4→Ext w w'→wpList Tryz.prog ops Q rest (a.put o.dst (.slice (some ⟨w.heap.size,0,none⟩) n n)) w'):wpList Tryz.prog ops Q (o :: rest) a w:=by
 refine wpList_plain hg fun K hK'=>?_
 obtain⟨w',cs,hrun,r1,r2,r3⟩:=run_make_rats w kl kc n (by omega);subst hL;subst hC;unfold Oper.wp;simp [execOp,hop,hl,hc,hrun,Result.andThen]
 exact hK' _ _ (hK w' cs r1 r2 r3)
theorem OwnM.more {N lo hi:Nat} {w:World} {h k m n:Nat} {β κ:Nat→Nat} {A:Nat→Nat→Rat} (o:OwnM N lo hi w h k m n β κ A) (hm:m < k) {b cap:Nat} {x:Nat→Rat} (hc:w.cell? ⟨h,m,none⟩=some (.slice (some ⟨b,0,none⟩) n cap)) (hr:RowB N w b cap n x) (hb:hi≤b) (hcm:cap≤maxLen) :
  OwnM N lo w.heap.size w h k (m+1) n (fun i=>if i=m then b else β i) (fun i=>if i=m then cap else κ i) (updM A m x):=by
 obtain⟨hs,h1,h2,h3⟩:=o.hh;have hlt:=hr.lt;have hlo:=o.hlo;have hhi:=o.hhi;have his:=o.his;refine⟨o.le,⟨hs,h1,h2,fun i hi'=>?_⟩,by omega,hlo,by omega,Nat.le_refl _,fun i hi'=>?_,fun i hi'=>?_,fun i hi'=>?_,fun i hi'=>?_,fun i j hi' hj' hij=>?_⟩
 ·by_cases e:i=m
  ·subst e; rw [cell_blk h1] at hc; rw [hc]; simp
  ·rw [h3 i (by omega)]; simp [e]
 ·by_cases e:i=m
  ·simp only [e,if_true]; omega
  ·simp only [e,if_false]; exact o.lo_ i (by omega)
 ·by_cases e:i=m
  ·simp only [e,if_true]; exact hlt
  ·simp only [e,if_false]; have:=o.hi_ i (by omega); omega
 ·by_cases e:i=m
  ·simp only [e,if_true]; exact hcm
  ·simp only [e,if_false]; exact o.cap i (by omega)
 ·by_cases e:i=m
  ·simp only [e,if_true]; rw [updM_same]; exact hr
  ·simp only [e,if_false]; rw [updM_ne A x e]; exact o.row i (by omega)
 ·by_cases e:i=m
  ·have e2:j≠m:=by omega
   simp only [e,e2,if_true,if_false]; have:=o.hi_ j (by omega); omega
  ·by_cases e2:j=m
   ·simp only [e,e2,if_true,if_false]; have:=o.hi_ i (by omega); omega
   ·simp only [e,e2,if_false]; exact o.inj i j (by omega) (by omega) hij
theorem OwnM.start {N lo:Nat} {w:World} {h k n:Nat} {cs:Array Value} (hN:N≤lo) (hl:lo≤h) (hb:w.heap[h]?=some (.cells cs 24 (0,0))) (hk:cs.size=k) (A:Nat→Nat→Rat) {hi:Nat} (h1:h < hi) (h2:hi≤w.heap.size):OwnM N lo hi w h k 0 n (fun _=>0) (fun _=>0) A :=
 ⟨hN,⟨cs,hb,hk,fun i hi=>by omega⟩,by omega,hl,h1,h2,fun i hi=>by omega,fun i hi=>by omega,fun i hi=>by omega,fun i hi=>by omega,fun i j hi=>by omega⟩
theorem OwnM.setHead {N lo hi:Nat} {w:World} {h k m n:Nat} {β κ:Nat→Nat} {A:Nat→Nat→Rat} (o:OwnM N lo hi w h k m n β κ A) {i:Nat} (hi':m≤i) (hik:i < k) (v:Value) :
  ∃ w',w.setCell ⟨h,i,none⟩ v=w'∧Chg h (h+1) w w'∧w'.heap.size=w.heap.size∧w'.cell? ⟨h,i,none⟩=some v∧OwnM N lo hi w' h k m n β κ A:=by
 obtain⟨hs,h1,h2,h3⟩:=o.hh;have b1:=heap_set h1 i v;have U:Upd h w (w.setCell ⟨h,i,none⟩ v):=(Upd.refl h w).set i v;have c:=U.chg o.noU;have hlo:=o.hlo;have hN:=o.le;refine⟨_,rfl,c,U.size,?_,o.le,⟨_,b1,by simp [h2],fun j hj=>?_⟩,o.mle,o.hlo,o.hhi,Nat.le_trans o.his c.size,o.lo_,o.hi_,o.cap,fun j hj=>(o.row j hj).chg c (by omega) (by have:=o.ne hj; omega),o.inj⟩
 ·rw [cell_blk b1,Array.getElem?_setIfInBounds_self_of_lt (by omega)]
 ·rw [Array.getElem?_setIfInBounds_ne (by omega)]; exact h3 j hj
theorem OwnM.hthere {N lo hi:Nat} {w:World} {h k m n:Nat} {β κ:Nat→Nat} {A:Nat→Nat→Rat} (o:OwnM N lo hi w h k m n β κ A) {i:Nat} (hi':i < k):∃ u,w.cell? ⟨h,i,none⟩=some u:=by
 obtain⟨hs,h1,h2,-⟩:=o.hh;rw [cell_blk h1]; exact⟨_,Array.getElem?_eq_getElem (by omega)⟩
theorem m_made_unit {N:Nat} {w:World} (hN:N≤w.heap.size) (m n:Nat) {M' N':Int} (hM':M'=(m:Int)) (hN':N'=(n:Int)) (hm:m < 1000000) (hn:n < 1000000) (X:Nat→Nat→Rat)
  (hf:∀ i,i < m→∀ j,j < n→∀ w',Ext w w'→Calls Tryz.prog 140 #[.int .i64 (i:Int),.int .i64 (j:Int)] w' (RetR N w' (X i j))) :
  Calls Tryz.prog 139 #[.int .i64 M',.int .i64 N',.func (.func 140) #[] #[]] w (RetOwn N w m n X):=by
 subst hM' hN';have HF:=Lib.hid hf;clear hf;go_enter Tryz.func139,Tryz.ntmps139;go_wp2_with (at_make; refine Hid.out ?_);refine wpList_make_rows rfl _ _ rfl .i64 .i64 _ _ m rfl rfl rfl rfl hm ?_;intro w1 cs B0 hcs e1;have ho:OwnM N w.heap.size w1.heap.size w1 w.heap.size m 0 n (fun _=>0) (fun _=>0) X:=OwnM.start hN (Nat.le_refl _) B0 hcs X (blk_lt B0) (Nat.le_refl _);have hs1:w.heap.size < w1.heap.size:=blk_lt B0;clear B0;have HCS:=Lib.hid hcs;clear hcs;go_wp2
 go_loopw [14] (fun i wr=>∃ k:Nat,k≤m∧i=.int .i64 k∧Ext w wr∧∃ β κ,OwnM N w.heap.size wr.heap.size wr w.heap.size m k n β κ X) (fun i _=>m - (intOf i).toNat)
 case atStart=>exact⟨0,Nat.zero_le _,rfl,e1,_,_,ho⟩
 case round =>
  clear ho e1;obtain⟨k,hk,rfl,hE,β,κ,ho⟩:=hrel;have hsr:w.heap.size < wr.heap.size:=by have:=ho.hhi; omega
  by_cases hlt:k < m
  ·go_wp2_with (at_make; refine Hid.out ?_);refine wpList_make_rats rfl _ _ rfl .i64 .i64 _ _ n rfl rfl rfl rfl hn ?_;intro w2 cs2 B2 hcs2 e2;have ho2:=ho.ext e2;have hR:RowB N w2 wr.heap.size n 0 (X k):=⟨by omega,Nat.zero_le _,⟨cs2,B2,hcs2⟩,fun j hj=>by omega⟩
   obtain⟨u0,z0⟩:=ho2.hthere hlt;have z1:=ho2.hfrozen k;have hs2:wr.heap.size < w2.heap.size:=blk_lt B2;have HCS2:=Lib.hid hcs2;clear B2 hcs2 ho;go_upto_region 6 with (fail);obtain⟨w3,E3,C3,hs3,y0,ho3⟩:=ho2.setHead (Nat.le_refl k) hlt (.slice (some ⟨wr.heap.size,0,none⟩) n n);rw [E3];replace hE:=C3.ext (hE.trans e2) (Nat.le_refl _);replace hR:=hR.chg C3 (by omega) (by omega);have hs4:wr.heap.size < w3.heap.size:=by omega
   generalize hgr:wr.heap.size=gr at *
   clear hgr E3 C3 hs3 ho2 z0 z1 e2 hs2;have Y0:=y0;go_wp2
   go_loopw [27] (fun i ws=>∃ j:Nat,j≤n∧i=.int .i64 j∧Ext w ws∧gr < ws.heap.size∧ws.cell? ⟨w.heap.size,k,none⟩=some (.slice (some ⟨gr,0,none⟩) n n)∧OwnM N w.heap.size gr ws w.heap.size m k n β κ X∧RowB N ws gr n j (X k)) (fun i _=>n - (intOf i).toNat)
   case atStart=>exact⟨0,Nat.zero_le _,rfl,hE,hs4,y0,ho3,hR⟩
   case round =>
    clear hE y0 ho3 hR hs4 Y0;obtain⟨j,hj,rfl,hE,hs4,y0,ho3,hR⟩:=hrel
    by_cases hlt':j < n
    ·go_upto_region 9 with (fail);have eC:=(Ext.refl wr).drew;refine region_late (fun w'=>w'.cell? ⟨w.heap.size,k,none⟩=some (.slice (some ⟨gr,0,none⟩) n n)) [10] (by kernel_rfl) (by exact eC.cell y0) (fun hHeld=>?_);refine sP 0 (h:=?_);try simp only [nr]
     refine sP 1 (h:=?_);try simp only [nr]
     refine sP 2 (h:=?_);try simp only [nr]
     refine sT 3 (h:=?_);try simp only [nr]
     refine sP 4 (h:=?_);try simp only [nr]
     refine sP 5 (h:=?_);try simp only [nr]
     refine sP 6 (h:=?_);try simp only [nr]
     refine sP 7 (h:=?_);try simp only [nr]
     refine stepL_only (i:=8) rfl (by kernel_rfl) (fun K hK=>?_);go_simp;refine (HF.out k hlt j hlt' _ (hE.trans eC)).mono ?_;intro e w5 hh;obtain⟨b9,A9,k9,c9,A10,k10,c10,rfl,hb9,g9,g10,e5⟩:=hh.form;replace eC:=eC.trans e5;have hR5:=hR.ext eC;obtain⟨x0,v0⟩:=hR5.there (o:=j*4) (by omega);obtain⟨x1,v1⟩:=hR5.there (o:=j*4+1) (by omega);obtain⟨x2,v2⟩:=hR5.there (o:=j*4+2) (by omega);obtain⟨x3,v3⟩:=hR5.there (o:=j*4+3) (by omega);have f0:=hR5.frozen (j*4);have f1:=hR5.frozen (j*4+1);have f2:=hR5.frozen (j*4+2);have f3:=hR5.frozen (j*4+3);go_wp2_with fail;clear hHeld;refine hK.out _ _ (by exact eC.cell y0) fun hHeld=>?_
     clear hK K;try simp only [nr]
     refine sP 9 (h:=?_);try simp only [nr]
     refine stepL_late (i:=10) rfl (by kernel_rfl) (by kernel_rfl) (fun K hK=>?_);go_simp;refine hK.out _ _ ?_;clear hK K;try simp only [nr]
     refine stepL_done (by kernel_rfl) ?_ _;clear hHeld;obtain⟨w6,E6,C6,hs6,hr6⟩:=hR5.set (i:=j) (q:=X k j) hlt' (Nat.le_refl _) hb9 g9 g10;rw [E6];replace hE:=C6.ext (hE.trans eC) (by omega);replace ho3:=(ho3.ext eC).chg C6 (by omega) (.inl (Nat.le_refl _));replace y0:=C6.cell (p:=⟨w.heap.size,k,none⟩) (eC.cell y0) (.inl (by simp only; omega));have hr7:=(hr6.less (n':=j+1) (by omega)).congr (y:=X k) (fun c hc=>by unfold upd; split; (rename_i e; rw [e]); rfl);have hs7:gr < w6.heap.size:=by have:=eC.size; omega
     clear E6 C6 hs6 hr6 hR hR5 v0 v1 v2 v3 f0 f1 f2 f3;go_wp2;go_roundw
     case rel=>exact⟨j+1,by omega,by go_num,hE,hs7,y0,ho3,hr7⟩
     case measure=>simp [intOf]; omega
    ·obtain rfl:j=n:=by omega
     have ho4:=(ho3.more hlt y0 hR (Nat.le_refl _) (by unfold maxLen; omega)).congr (B:=X) (fun i _ c _=>by unfold updM; split; (rename_i e; rw [e]); rfl);go_wp2;go_roundw
     case rel=>exact⟨k+1,by omega,by go_num,hE,_,_,ho4⟩
     case measure=>simp [intOf]; omega
  ·obtain rfl:k=m:=by omega
   go_wp2;go_ret;exact⟨_,_,β,κ,rfl,by unfold maxLen; omega,ho,hE⟩
theorem m_unit {N:Nat} {w:World} (hN:N≤w.heap.size) (i j:Nat) (hi:i < 1000000) (hj:j < 1000000) :
  Calls Tryz.prog 140 #[.int .i64 (i:Int),.int .i64 (j:Int)] w (RetR N w (dlt i j)):=by
 go_enter Tryz.func140,Tryz.ntmps140
 by_cases hij:i=j
 ·subst hij;rw [dlt_same];go_wp2_with (go_at_call 80; refine Hid.out ?_);refine boxesC1 ?_;intro W hE hsz B0;refine (f_whole (N:=N) (by have:=hE.size; omega) 1 (by omega) (by omega)).mono ?_;intro e w1 hh;obtain⟨b1,A1,k1,c1,A2,k2,c2,rfl,hb1,g1,g2,e1⟩:=hh.form;have B1:=e1.block B0;obtain⟨r0,r1,r2,r3,r4,r5,r6,r7⟩:=cells4 B1;go_wp2;exact fin_rat (q:=1) rfl rfl rfl (hE.trans e1) B1 (by omega) hN g1 g2 hb1
 ·have hne:((i:Int) == (j:Int))=false:=beq_eq_false_iff_ne.2 (by omega);rw [dlt_ne hij];go_wp2_with (go_at_call 80; refine Hid.out ?_);refine boxesC1 ?_;intro W hE hsz B0;refine (f_whole (N:=N) (by have:=hE.size; omega) 0 (by omega) (by omega)).mono ?_;intro e w1 hh;obtain⟨b1,A1,k1,c1,A2,k2,c2,rfl,hb1,g1,g2,e1⟩:=hh.form;have B1:=e1.block B0;obtain⟨r0,r1,r2,r3,r4,r5,r6,r7⟩:=cells4 B1;go_wp2;exact fin_rat (q:=0) rfl rfl rfl (hE.trans e1) B1 (by omega) hN g1 g2 hb1
end Go.Proofs.YthkkknjcoidioaaGreat
