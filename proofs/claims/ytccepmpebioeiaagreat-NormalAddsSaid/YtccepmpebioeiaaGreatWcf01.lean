import Derived.Test.YtccepmpebioeiaaGreatWb41
import Derived.Test.YtccepmpebioeiaaGreatWb44
import Derived.SizedLaws
set_option linter.all false
set_option maxHeartbeats 8000000
set_option maxRecDepth 100000
namespace Go.Proofs.YtccepmpebioeiaaGreat
theorem ln_le_iff {n k:Nat}:ln n≤k↔n < bs ^ k :=
 ⟨fun h=>Nat.lt_of_lt_of_le (lt_pow_ln n) (Nat.pow_le_pow_right bs_pos h),ln_le_of_lt⟩
theorem obj_nonneg {m:Nat} {P v:Nat→Rat} (hP:∀ i,i < m→0 < P i):0≤obj m P v :=
 sum_nonneg fun i hi=>Rat.mul_nonneg (by have:=hP i hi; grind) (sq_nonneg _)
theorem orth_av {m n:Nat} {A:Nat→Nat→Rat} {P v:Nat→Rat} (h:Orth m n A P v) (y:Nat→Rat):sum m (fun k=>av n A y k*(P k*v k))=0:=by
 rw [←dual_av];exact sum_eq_zero fun a ha=>by rw [h a ha]; grind
theorem obj_split {m n:Nat} {A:Nat→Nat→Rat} {P v:Nat→Rat} (h:Orth m n A P v) (y:Nat→Rat):obj m P (fun k=>av n A y k+v k)=obj m P (av n A y)+obj m P v:=by
 have h1:=orth_av h y;have e:∀ k,P k*((av n A y k+v k)*(av n A y k+v k))=P k*(av n A y k*av n A y k)+(2*(av n A y k*(P k*v k))+P k*(v k*v k)):=fun k=>by grind
 unfold obj;rw [sum_congr (fun k _=>e k),sum_add,sum_add,sum_mul,h1]
 grind
theorem obj_congr {m:Nat} {P v v':Nat→Rat} (h:∀ i,i < m→v i=v' i):obj m P v=obj m P v':=sum_congr fun i hi=>by rw [h i hi]
theorem least {m n:Nat} {A:Nat→Nat→Rat} {P L x:Nat→Rat} (hP:∀ i,i < m→0 < P i) (h:Nsol m n A P L x) (y:Nat→Rat):obj m P (fun k=>av n A x k - L k)≤obj m P (fun k=>av n A y k - L k):=by
 have h1:=obj_split (nsol_orth.1 h) (fun c=>y c - x c);have h2:obj m P (fun k=>av n A (fun c=>y c - x c) k+(av n A x k - L k))=obj m P (fun k=>av n A y k - L k):=obj_congr fun i _=>by rw [av_sub]; grind
 have h3:=obj_nonneg (v:=av n A (fun c=>y c - x c)) hP
 grind
end Go.Proofs.YtccepmpebioeiaaGreat
namespace Go.Proofs.YtccepmpebioeiaaGreat
open Go.RowKit
def Mn.lin (N m n:Nat) (X:Nat→Nat→Rat) (y p:Nat→Rat):Mn:=⟨fun v w=>∃ v1 v2 v3,v=.agg #[v1,v2,v3]∧MtV N 0 w.heap.size w v1 m n X∧LsV N 0 w.heap.size w v2 m y∧LsV N 0 w.heap.size w v3 m p,
 fun e h=>by
  obtain⟨v1,v2,v3,h0,h1,h2,h3⟩:=h
  exact⟨v1,v2,v3,h0,MtR.wide (h1.ext e) (Nat.le_refl _) e.size (Nat.le_refl _),LsR.wide (h2.ext e) (Nat.le_refl _) e.size (Nat.le_refl _),LsR.wide (h3.ext e) (Nat.le_refl _) e.size (Nat.le_refl _)⟩⟩
theorem GrowS.mtr0 {N base:Nat} {w:World} {v:Value} {xs:List Value} (h:GrowS base w v xs) (hN:N≤w.heap.size) (hn:0 < xs.length) {L:Nat→Nat} {R:Nat→Nat→Raw} (hr:∀ i (hi:i < xs.length),LsR N 0 w.heap.size w xs[i] (L i) (R i)):MtR N 0 w.heap.size w v xs.length L R:=by
 obtain⟨g,cap,rfl,hcm,hnc,hat⟩:=h.at_ hn;refine⟨hN,Nat.le_refl _,_,cap,rfl,hnc,hcm,fun _=>⟨g,0,rfl,Nat.zero_le _,?_,fun i hi=>⟨xs[i],?_,hr i hi⟩⟩⟩
 ·exact cell_lt (hat 0 hn)
 ·rw [Nat.zero_add]; exact hat i hi
structure FewLin (Z:Lin) (n:Nat) (X:Nat→Nat→Rat) (y p:Nat→Rat):Prop where
 m0:0 < Z.m
 m6:Z.m≤6
 n0:0 < n
 n4:n≤4
 L:∀ i,i < Z.m→Z.L i=n
 eA:∀ i,i < Z.m→∀ j,j < n→Z.A i j=raw (X i j)
 nl:Z.nl=Z.m
 el:∀ i,i < Z.m→Z.l i=raw (y i)
 np:Z.np=Z.m
 ep:∀ i,i < Z.m→Z.p i=raw (p i)
 pos:∀ i,i < Z.m→0 < p i
 hX:HtM Z.m n 17 X
 hy:HtL Z.m 17 y
 hp:HtL Z.m 17 p
theorem FewLin.mem {Z:Lin} {n:Nat} {X:Nat→Nat→Rat} {y p:Nat→Rat} (f:FewLin Z n X y p) {N lo hi:Nat} {w:World} {A1 A2 A3:Option Addr} {c1 c2 c3:Nat} (h1:MtR N lo hi w (.slice A1 Z.m c1) Z.m Z.L Z.A) (h2:LsR N lo hi w (.slice A2 Z.nl c2) Z.nl Z.l) (h3:LsR N lo hi w (.slice A3 Z.np c3) Z.np Z.p) :
  MtV N lo hi w (.slice A1 Z.m c1) Z.m n X∧LsV N lo hi w (.slice A2 Z.m c2) Z.m y∧LsV N lo hi w (.slice A3 Z.m c3) Z.m p:=by
 refine⟨MtR.congr h1 f.L (fun i hi j hj=>f.eA i hi j (by rw [←f.L i hi]; exact hj)),?_,?_⟩
 ·rw [f.nl] at h2; exact LsR.congr h2 f.el
 ·rw [f.np] at h3; exact LsR.congr h3 f.ep
theorem FewG.mem {r c:Nat} {Z:Lin} {n:Nat} {X:Nat→Nat→Rat} {y p:Nat→Rat} (f:FewG r c Z n X y p) {N lo hi:Nat} {w:World} {A1 A2 A3:Option Addr} {c1 c2 c3:Nat} (h1:MtR N lo hi w (.slice A1 Z.m c1) Z.m Z.L Z.A) (h2:LsR N lo hi w (.slice A2 Z.nl c2) Z.nl Z.l) (h3:LsR N lo hi w (.slice A3 Z.np c3) Z.np Z.p) :
  MtV N lo hi w (.slice A1 Z.m c1) Z.m n X∧LsV N lo hi w (.slice A2 Z.m c2) Z.m y∧LsV N lo hi w (.slice A3 Z.m c3) Z.m p:=by
 refine⟨MtR.congr h1 f.L (fun i hi j hj=>f.eA i hi j (by rw [←f.L i hi]; exact hj)),?_,?_⟩
 ·rw [f.nl] at h2; exact LsR.congr h2 f.el
 ·rw [f.np] at h3; exact LsR.congr h3 f.ep
def RetCutC (N:Nat) (w:World) (m n:Nat) (X:Nat→Nat→Rat) (y p:Nat→Rat) (e:Ending) (w':World):Prop:=∃ v,e=.returned (.tuple #[v,.int .i64 0])∧CutV N w m n X y p v w'∧Ext w w'
theorem n_Without_bad {N lo hi:Nat} {w:World} {v:Value} {Z:Lin} (h:LinV N lo hi w v Z) (hs:LinSz Z) (hp:∀ i,i < Z.np→RawS (Z.p i)) (hc:codeOf Z≠0) (kz:Int) :
  Calls Tryz.prog 39 #[v,.int .i64 kz] w (RetV w (.tuple #[nilLin,.int .i64 (codeOf Z)])):=by
 have HS:=Lib.hid hs;have HP:=Lib.hid hp;obtain⟨r,hr⟩:=hid_eq (codeOf Z);have hr0:(r == 0)=false:=by rw [hr.out]; simpa using hc
 have hr1:(r != 0)=true:=by simpa using hr0
 rw [←hr.out];have hI:=h;obtain⟨A1,c1,A2,c2,A3,c3,rfl,h1,h2,h3,hm,hnl,hnp⟩:=h.parts;clear h h1 h2 h3 hc hs hp;go_enter Tryz.func39,Tryz.ntmps39;go_upto_region 1 with (fail);refine boxes2 ?_;intro W hE hsz B0 B4;obtain⟨a0,a1,a2,-⟩:=cells3 B0;go_wp2_with (go_at_call 58; refine Hid.out ?_);refine (n_check (hI.ext hE) HS.out HP.out).mono ?_;rintro e w1 ⟨rfl,e1⟩;rw [←hr.out];replace B4:=e1.block B4;clear a0 a1 a2;obtain⟨u0,u1,u2,u3,u4,u5⟩:=cells3 B4;go_wp2;obtain⟨w10,E10,D10,U10⟩:=ex3 B4 (.slice none 0 0) (.slice none 0 0) (.slice none 0 0);rw [E10];have C10:=U10.chg (NoU.mk B4 (by decide));have hE10:=C10.ext (hE.trans e1) (by omega);obtain⟨x0,x1,x2,-⟩:=cells3 D10;refine bodyPost_ret (v:=.tuple #[nilLin,.int .i64 r]) ?_ rfl ?_
 ·simp [results,x0,x1,x2,go_sem,nilLin]
 ·exact⟨rfl,hE10⟩
theorem n_Without_out {N lo hi lo2 hi2:Nat} {w:World} {v1 v2 v3:Value} {m n:Nat} {X:Nat→Nat→Rat} {y p:Nat→Rat} (h1:MtV N lo hi w v1 m n X) (h2:LsV N lo2 hi2 w v2 m y) (h3:LsV N lo2 hi2 w v3 m p) (hm0:0 < m) (hm:m≤64) (hn0:0 < n) (hn:n≤24) (hp:∀ i,i < m→0 < p i)
  {k:Nat} (hkx:HtM m n k X) (hky:HtL m k y) (hkp:HtL m k p) (hK:k≤29000000000) (kz:Int) (hkz:kz < 0∨(m:Int)≤kz) :
  Calls Tryz.prog 39 #[.agg #[v1,v2,v3],.int .i64 kz] w (RetV w (.tuple #[nilLin,.int .i64 2])):=by
 have HKZ:=Lib.hid hkz;clear hkz;have HX:=Lib.hid hkx;have HY:=Lib.hid hky;have HP:=Lib.hid hkp
 have HCK:Hid (∀ w1,Ext w w1→Calls Tryz.prog 58 #[.agg #[v1,v2,v3]] w1 (RetV w1 (.int .i64 0))):=fun w1 e1=>by
  have h9:=n_check (linV_of (h1.ext e1) (h2.ext e1) (h3.ext e1)) (linSz_of hkx hky hkp (by omega)) (fun i hi=>(hkp i hi).sz (by omega));rw [codeOf_lin hm0 hm hn0 hn hp] at h9;exact h9
 have hN:=h1.le;obtain⟨A1,c1,rfl,hmc,hcm⟩:=h1.form;obtain⟨A2,c2,rfl,hmc2,hcm2⟩:=h2.form;obtain⟨A3,c3,rfl,hmc3,hcm3⟩:=h3.form;have hI1:=h1;have hI2:=h2;have hI3:=h3;clear h1 h2 h3 hkx hky hkp hp;go_enter Tryz.func39,Tryz.ntmps39;go_upto_region 1 with (fail);refine boxes2 ?_;intro W hE hsz B0 B4;obtain⟨a0,a1,a2,-⟩:=cells3 B0;go_wp2_with (go_at_call 58; refine Hid.out ?_);refine (HCK.out _ hE).mono ?_;rintro e w1 ⟨rfl,e1⟩;replace hE:=hE.trans e1;replace B4:=e1.block B4;replace B0:=e1.block B0;clear a0 a1 a2 e1 HCK;obtain⟨a0,a1,a2,-⟩:=cells3 B0
 by_cases hk:kz < 0
 ·have t1:decide (kz < 0)=true:=by simpa using hk
  obtain⟨u0,u1,u2,u3,u4,u5⟩:=cells3 B4;go_wp2;obtain⟨w10,E10,D10,U10⟩:=ex3 B4 (.slice none 0 0) (.slice none 0 0) (.slice none 0 0);rw [E10];have C10:=U10.chg (NoU.mk B4 (by decide));have hE10:=C10.ext hE (by omega);obtain⟨x0,x1,x2,-⟩:=cells3 D10;refine bodyPost_ret (v:=.tuple #[nilLin,.int .i64 2]) ?_ rfl ?_
  ·simp [results,x0,x1,x2,go_sem,nilLin]
  ·exact⟨rfl,hE10⟩
 ·have t1:decide (kz < 0)=false:=by simpa using hk
  have t2:(m:Int)≤kz:=by rcases HKZ.out with h9 | h9; exact absurd h9 hk; exact h9
  have t3:decide ((m:Int)≤kz)=true:=by simpa using t2
  obtain⟨u0,u1,u2,u3,u4,u5⟩:=cells3 B4;go_wp2;obtain⟨w10,E10,D10,U10⟩:=ex3 B4 (.slice none 0 0) (.slice none 0 0) (.slice none 0 0);rw [E10];have C10:=U10.chg (NoU.mk B4 (by decide));have hE10:=C10.ext hE (by omega);obtain⟨x0,x1,x2,-⟩:=cells3 D10;refine bodyPost_ret (v:=.tuple #[nilLin,.int .i64 2]) ?_ rfl ?_
  ·simp [results,x0,x1,x2,go_sem,nilLin]
  ·exact⟨rfl,hE10⟩
theorem n_Without_one {N lo hi lo2 hi2:Nat} {w:World} {v1 v2 v3:Value} {n:Nat} {X:Nat→Nat→Rat} {y p:Nat→Rat} (h1:MtV N lo hi w v1 1 n X) (h2:LsV N lo2 hi2 w v2 1 y) (h3:LsV N lo2 hi2 w v3 1 p) (hn0:0 < n) (hn:n≤24) (hp:∀ i,i < 1→0 < p i)
  {k:Nat} (hkx:HtM 1 n k X) (hky:HtL 1 k y) (hkp:HtL 1 k p) (hK:k≤29000000000) :
  Calls Tryz.prog 39 #[.agg #[v1,v2,v3],.int .i64 0] w (RetV w (.tuple #[nilLin,.int .i64 3])):=by
 have hm0:0 < 1:=by omega
 have hm:1≤64:=by omega
 have HX:=Lib.hid hkx;have HY:=Lib.hid hky;have HP:=Lib.hid hkp
 have HCK:Hid (∀ w1,Ext w w1→Calls Tryz.prog 58 #[.agg #[v1,v2,v3]] w1 (RetV w1 (.int .i64 0))):=fun w1 e1=>by
  have h9:=n_check (linV_of (h1.ext e1) (h2.ext e1) (h3.ext e1)) (linSz_of hkx hky hkp (by omega)) (fun i hi=>(hkp i hi).sz (by omega));rw [codeOf_lin hm0 hm hn0 hn hp] at h9;exact h9
 have hN:=h1.le;obtain⟨A1,c1,rfl,hmc,hcm⟩:=h1.form;obtain⟨A2,c2,rfl,hmc2,hcm2⟩:=h2.form;obtain⟨A3,c3,rfl,hmc3,hcm3⟩:=h3.form;have hI1:=h1;have hI2:=h2;have hI3:=h3;clear h1 h2 h3 hkx hky hkp hp;go_enter Tryz.func39,Tryz.ntmps39;go_upto_region 1 with (fail);refine boxes2 ?_;intro W hE hsz B0 B4;obtain⟨a0,a1,a2,-⟩:=cells3 B0;go_wp2_with (go_at_call 58; refine Hid.out ?_);refine (HCK.out _ hE).mono ?_;rintro e w1 ⟨rfl,e1⟩;replace hE:=hE.trans e1;replace B4:=e1.block B4;replace B0:=e1.block B0;clear a0 a1 a2 e1 HCK;obtain⟨a0,a1,a2,-⟩:=cells3 B0;obtain⟨u0,u1,u2,u3,u4,u5⟩:=cells3 B4;go_wp2;obtain⟨w10,E10,D10,U10⟩:=ex3 B4 (.slice none 0 0) (.slice none 0 0) (.slice none 0 0);rw [E10];have C10:=U10.chg (NoU.mk B4 (by decide));have hE10:=C10.ext hE (by omega);obtain⟨x0,x1,x2,-⟩:=cells3 D10;refine bodyPost_ret (v:=.tuple #[nilLin,.int .i64 3]) ?_ rfl ?_
 ·simp [results,x0,x1,x2,go_sem,nilLin]
 ·exact⟨rfl,hE10⟩
theorem n_Without {N lo hi lo2 hi2:Nat} {w:World} {v1 v2 v3:Value} {m n:Nat} {X:Nat→Nat→Rat} {y p:Nat→Rat} (h1:MtV N lo hi w v1 m n X) (h2:LsV N lo2 hi2 w v2 m y) (h3:LsV N lo2 hi2 w v3 m p) (hm1:1 < m) (hm:m≤64) (hn0:0 < n) (hn:n≤24) (hp:∀ i,i < m→0 < p i)
  {k:Nat} (hkx:HtM m n k X) (hky:HtL m k y) (hkp:HtL m k p) (hK:k≤29000000000) {i:Nat} {iz:Int} (hiz:iz=(i:Int)) (hi':i < m) :
  Calls Tryz.prog 39 #[.agg #[v1,v2,v3],.int .i64 iz] w (RetCutC N w (m - 1) n (fun j=>X (skip i j)) (fun j=>y (skip i j)) (fun j=>p (skip i j))):=by
 subst hiz;obtain⟨Rf,hRf⟩:=hid_eq (RetCutC N w (m - 1) n (fun j=>X (skip i j)) (fun j=>y (skip i j)) (fun j=>p (skip i j)));rw [←hRf.out];have hm0:0 < m:=by omega
 have HX:=Lib.hid hkx;have HY:=Lib.hid hky;have HP:=Lib.hid hkp
 have HCK:Hid (∀ w1,Ext w w1→Calls Tryz.prog 58 #[.agg #[v1,v2,v3]] w1 (RetV w1 (.int .i64 0))):=fun w1 e1=>by
  have h9:=n_check (linV_of (h1.ext e1) (h2.ext e1) (h3.ext e1)) (linSz_of hkx hky hkp (by omega)) (fun i hi=>(hkp i hi).sz (by omega));rw [codeOf_lin hm0 hm hn0 hn hp] at h9;exact h9
 have hN:=h1.le;obtain⟨A1,c1,rfl,hmc,hcm⟩:=h1.form;obtain⟨A2,c2,rfl,hmc2,hcm2⟩:=h2.form;obtain⟨A3,c3,rfl,hmc3,hcm3⟩:=h3.form;have hI1:=h1;have hI2:=h2;have hI3:=h3;clear h1 h2 h3 hkx hky hkp hp;go_enter Tryz.func39,Tryz.ntmps39;go_upto_region 1 with (fail);refine boxes2 ?_;intro W hE hsz B0 B4;obtain⟨a0,a1,a2,-⟩:=cells3 B0;go_wp2_with (go_at_call 58; refine Hid.out ?_);refine (HCK.out _ hE).mono ?_;rintro e w1 ⟨rfl,e1⟩;replace hE:=hE.trans e1;replace B4:=e1.block B4;replace B0:=e1.block B0;clear a0 a1 a2 e1 HCK;obtain⟨a0,a1,a2,-⟩:=cells3 B0;have t4:((m:Int) == 1)=false:=beq_eq_false_iff_ne.2 (by omega);go_wp2_with (go_at_call 88; refine Hid.out ?_);refine (n_cut (hI1.ext hE) (hI2.ext hE) (hI3.ext hE) hm hn0 (by omega) hi').mono ?_;rintro e w2 ⟨v,rfl,hV,e2⟩;have hE2:=hE.trans e2;have hlE:=blk_lt B4;replace B4:=e2.block B4;have hsE:=hE.size;obtain⟨B1,b1,B2,b2,B3,b3,rfl,-⟩:=hV.form;clear a0 a1 a2 e2;obtain⟨u0,u1,u2,u3,u4,u5⟩:=cells3 B4;go_wp2;obtain⟨w10,E10,D10,U10⟩:=ex3 B4 (.slice B1 (m - 1) b1) (.slice B2 (m - 1) b2) (.slice B3 (m - 1) b3);rw [E10];have C10:=U10.chg (NoU.mk B4 (by decide));have hE10:=C10.ext hE2 (by omega);obtain⟨x0,x1,x2,-⟩:=cells3 D10;refine bodyPost_ret (v:=.tuple #[.agg #[.slice B1 (m - 1) b1,.slice B2 (m - 1) b2,.slice B3 (m - 1) b3],.int .i64 0]) ?_ rfl ?_
 ·simp [results,x0,x1,x2,go_sem]
 ·rw [hRf.out];exact⟨_,rfl,(hV.chg C10 (by omega) (by omega)).low (by omega),hE10⟩
end Go.Proofs.YtccepmpebioeiaaGreat
namespace Go.Proofs.YtccepmpebioeiaaGreat
open Go.RowKit Go.ChangeShapes Go.ChangeAt
theorem cells_lin:Tryz.prog.cellsOf 26=3:=by kernel_rfl
section
variable {H:Type} {enc:TypeId×Value→H} {w:World} {spare:Nat→Bool} {held:Bool}
instance:Inhabited Raw:=⟨⟨false,[],false,[]⟩⟩
end
end Go.Proofs.YtccepmpebioeiaaGreat
namespace Go.Proofs.YtccepmpebioeiaaGreat
open Go.RowKit Go.ChangeShapes Go.ChangeAt Go.WideShapes
theorem r2_digitsN {N:Nat} {w:World} {v:Value} {R:Raw} (h:RawV N w v R) (hs:RawL R) :
  Calls Tryz.prog 37 #[v] w (RetV w (.int .i64 ((R.l1.length+R.l2.length:Nat):Int))):=by
 obtain⟨A1,n1,c1,A2,n2,c2,rfl,g1,g2⟩:=h.parts;obtain⟨_,_,_,e1,h1,hc1,hm1⟩:=g1.form;injection e1 with e1 e1' e1''
 subst e1 e1' e1'';obtain⟨_,_,_,e2,h2,hc2,hm2⟩:=g2.form;injection e2 with e2 e2' e2''
 subst e2 e2' e2'';obtain⟨z,hz⟩:=hid_eq (((R.l1.length+R.l2.length:Nat):Int))
 have HB:Hid (wrap64 ((n1:Int)+n2)=z):=by
  obtain⟨s1,s2⟩:=hs;rw [Hid,hz.out];rw [h1.out] at s1;rw [h2.out] at s2;rw [h1.out,h2.out];unfold wrap64;omega
 rw [←hz.out];clear g1 g2 h h1 h2 hs hz;go_enter Tryz.func37,Tryz.ntmps37;go_upto_region 1 with (fail);refine boxes1 ?_;intro W hE hsz B0;obtain⟨a0,a1,a2,a3,-⟩:=cells4 B0;go_wp2
 first | go_ret | skip
 exact⟨ret_int HB.out,hE⟩
def dgn (R:Raw):Nat:=R.l1.length+R.l2.length
section
variable {H:Type} {enc:TypeId×Value→H} {w:World} {spare:Nat→Bool} {held:Bool}
theorem bytes_u32:Tryz.prog.bytesOf 141=4:=by kernel_rfl
theorem gs_of_trodW {n:Nat} {v:Value} {x:DataW H×List MemPlace} (h:DataW.trod enc Tryz.prog w 0 spare held n 40 [v]=some x) (hz:∀ k∈x.1.weights Tryz.prog 40,k≤reachBytes) :
  ∃ l,Gs w.heap.size w v l∧l.length≤35184372088000:=by
 obtain⟨l,g⟩:=gs_of_trod h;refine⟨l,g,?_⟩;obtain⟨A,k,c,e1,h1,-,-⟩:=g.form
 rcases Go.Deep.open_slice1 Tryz.underlying40 cells_u32 h with ⟨hcs,-⟩ | ⟨a,len,cap,m,n',V,D,Pl,hcs,-,hl,hm,hmm,hx,-⟩
 ·simp only [List.cons.injEq,and_true] at hcs;rw [hcs] at e1;injection e1 with _ e2 _
  rw [h1.out,←e2]
  decide
 ·simp only [List.cons.injEq,and_true] at hcs;rw [hcs] at e1;injection e1 with _ e2 _
  rw [h1.out,←e2];subst hx;have h9:=hz ((((List.range len).map D).length+((List.range (m - len)).map fun j=>D (len+j)).length)*Tryz.prog.bytesOf 141) (by simp [DataW.weights,Tryz.underlying40]);rw [bytes_u32,List.length_map,List.length_range] at h9;unfold reachBytes at h9;omega
theorem rat_of_trodW {n:Nat} {c0 c1 c2 c3:Value} {x:DataW H×List MemPlace} (h:DataW.trod enc Tryz.prog w 0 spare held n 44 [c0,c1,c2,c3]=some x) (hz:∀ k∈x.1.weights Tryz.prog 44,k≤reachBytes) :
  ∃ R:Raw,c0=.bool R.b1∧c2=.bool R.b2∧Gs w.heap.size w c1 R.l1∧Gs w.heap.size w c3 R.l2∧RawL R:=by
 obtain⟨y0,y1,n1,rfl,-,h0,h1⟩:=trod_struct2 Tryz.underlying44 h;simp only [cells_int,List.drop_zero,List.take_succ_cons,List.take_zero,List.drop_succ_cons] at h0 h1;obtain⟨z0,z1,n2,rfl,-,k0,k1⟩:=trod_struct2 Tryz.underlying42 h0;obtain⟨z2,z3,n3,rfl,-,k2,k3⟩:=trod_struct2 Tryz.underlying42 h1;simp only [cells_bool,cells_u32s,List.drop_zero,List.take_succ_cons,List.take_zero,List.drop_succ_cons] at k0 k1 k2 k3;obtain⟨b1,e1,-⟩:=DataW.trod_bool Tryz.underlying4 k0;obtain⟨b2,e2,-⟩:=DataW.trod_bool Tryz.underlying4 k2;obtain⟨l1,g1,s1⟩:=gs_of_trodW k1 (fun k hk=>hz k (by simp [DataW.weights,DataW.weightsEach,Tryz.underlying44,Tryz.underlying42,hk]));obtain⟨l2,g2,s2⟩:=gs_of_trodW k3 (fun k hk=>hz k (by simp [DataW.weights,DataW.weightsEach,Tryz.underlying44,Tryz.underlying42,hk]));simp only [List.cons.injEq,and_true] at e1 e2;exact⟨⟨b1,l1,b2,l2⟩,e1,e2,g1,g2,⟨Nat.le_trans s1 (by omega),Nat.le_trans s2 (by omega)⟩⟩
end
end Go.Proofs.YtccepmpebioeiaaGreat
namespace Go.Proofs.YtccepmpebioeiaaGreat
open Go.RowKit
def addCode (n k:Nat) (R:Nat→Raw) (RV RW:Raw):Int :=
 if (allB k (fun i=>okR (R i)) && (okR RV && okR RW))=false then 1 else if k≠n then 4 else if ratOf RW≤0 then 2 else 0
theorem two_raws {N:Nat} {w:World} {g:Nat} {RV RW:Raw} {s t s' t':Value} (hN:N≤w.heap.size) (h:w.heap[g]?=some (.cells #[.bool RV.b1,s,.bool RV.b2,t,.bool RW.b1,s',.bool RW.b2,t'] 44 (0,0)))
  (h1:Gs N w s RV.l1) (h2:Gs N w t RV.l2) (h1':Gs N w s' RW.l1) (h2':Gs N w t' RW.l2) :
  LsR N 0 w.heap.size w (.slice (some ⟨g,0,none⟩) 2 2) 2 (fun i=>if i=0 then RV else RW):=by
 refine⟨hN,Nat.le_refl _,_,2,rfl,Nat.le_refl _,by unfold maxLen; omega,fun _=>⟨g,0,rfl,Nat.zero_le _,blk_lt h,fun i hi=>?_⟩⟩;have hi':i=0∨i=1:=by omega
 rcases hi' with rfl | rfl
 ·exact⟨s,t,cell_blk h 0,cell_blk h 1,cell_blk h 2,cell_blk h 3,h1,h2⟩
 ·exact⟨s',t',cell_blk h 4,cell_blk h 5,cell_blk h 6,cell_blk h 7,h1',h2'⟩
theorem ad_can {k:Nat} {R:Nat→Raw} {RV RW:Raw}:allB 2 (fun i=>allB ((fun i=>if i=0 then k else 2) i) (fun j=>okR ((fun i=>if i=0 then R else fun j=>if j=0 then RV else RW) i j)))=(allB k (fun i=>okR (R i)) && (okR RV && okR RW)):=by
 unfold allB; simp [List.range_succ]
theorem n_Add_bad {N lo hi lo' hi':Nat} {w:World} {v u vv vw:Value} {Z:Lin} {k:Nat} {R:Nat→Raw} {RV RW:Raw} (h:LinV N lo hi w v Z) (hs:LinSz Z) (hp:∀ i,i < Z.np→RawS (Z.p i)) (hc:codeOf Z≠0) (hx:LsR N lo' hi' w u k R) (hv:RawV N w vv RV) (hw:RawV N w vw RW) :
  Calls Tryz.prog 38 #[v,u,vv,vw] w (RetV w (.tuple #[nilLin,.int .i64 (codeOf Z)])):=by
 have HS:=Lib.hid hs;have HP:=Lib.hid hp;obtain⟨r,hr⟩:=hid_eq (codeOf Z);have hr0:(r == 0)=false:=by rw [hr.out]; simpa using hc
 have hr1:(r != 0)=true:=by simpa using hr0
 rw [←hr.out];have hI:=h;obtain⟨A1,c1,A2,c2,A3,c3,rfl,h1,h2,h3,hm,hnl,hnp⟩:=h.parts;obtain⟨A4,c4,rfl,-⟩:=hx.form;obtain⟨A5,n5,c5,A6,n6,c6,rfl,gv1,gv2⟩:=hv.parts;obtain⟨A7,n7,c7,A8,n8,c8,rfl,gw1,gw2⟩:=hw.parts;clear h h1 h2 h3 hc hs hp hx hv hw;go_enter Tryz.func38,Tryz.ntmps38;go_upto_region 1 with (fail);refine boxes4 ?_;intro W hE hsz B0 B6 B7 B8;obtain⟨a0,a1,a2,-⟩:=cells3 B0;go_wp2_with (go_at_call 58; refine Hid.out ?_);refine (n_check (hI.ext hE) HS.out HP.out).mono ?_;rintro e w1 ⟨rfl,e1⟩;replace hE:=hE.trans e1;replace B0:=e1.block B0;replace B6:=e1.block B6;replace B7:=e1.block B7;replace B8:=e1.block B8;clear a0 a1 a2 e1;rw [←hr.out];obtain⟨u0,u1,u2,u3,u4,u5⟩:=cells3 B8;go_wp2;obtain⟨w10,E10,D10,U10⟩:=ex3 B8 (.slice none 0 0) (.slice none 0 0) (.slice none 0 0);rw [E10];have C10:=U10.chg (NoU.mk B8 (by decide));have hE10:=C10.ext hE (by omega);obtain⟨x0,x1,x2,-⟩:=cells3 D10;refine bodyPost_ret (v:=.tuple #[nilLin,.int .i64 r]) ?_ rfl ?_
 ·simp [results,x0,x1,x2,go_sem,nilLin]
 ·exact⟨rfl,hE10⟩
theorem n_Add_no {N lo hi lo' hi':Nat} {w:World} {v u vv vw:Value} {Z:Lin} {n k:Nat} {R:Nat→Raw} {RV RW:Raw} (h:LinV N lo hi w v Z) (hs:LinSz Z) (hp:∀ i,i < Z.np→RawS (Z.p i)) (hc:codeOf Z=0) (hn:Z.L 0=n) (hx:LsR N lo' hi' w u k R) (hv:RawV N w vv RV) (hw:RawV N w vw RW)
  (hR:∀ i,i < k→RawSz (R i)) (hVW:RawSz RV∧RawSz RW) (hSW:okR RW=true→Sz (ratOf RW)) (hA:addCode n k R RV RW≠0) :
  Calls Tryz.prog 38 #[v,u,vv,vw] w (RetV w (.tuple #[nilLin,.int .i64 (addCode n k R RV RW)])):=by
 have HS:=Lib.hid hs;have HP:=Lib.hid hp;have HR:=Lib.hid hR;have HVW:=Lib.hid hVW;have HSW:=Lib.hid hSW;have HA:=Lib.hid hA;have HC:=Lib.hid hc;have HM:Hid (1≤Z.m):=codeOf_m hc;obtain⟨g,hg⟩:=hid_eq (addCode n k R RV RW);obtain⟨ok,hok⟩:=hid_eq (allB k (fun i=>okR (R i)) && (okR RV && okR RW));rw [←hg.out] at HA ⊢;have hI:=h;obtain⟨A1,c1,A2,c2,A3,c3,rfl,h1,h2,h3,hm,hnl,hnp⟩:=h.parts;have hX:=hx;obtain⟨A4,c4,rfl,hkc,hck⟩:=hx.form;have hVV:=hv;have hWW:=hw;obtain⟨A5,n5,c5,A6,n6,c6,rfl,gv1,gv2⟩:=hv.parts;obtain⟨A7,n7,c7,A8,n8,c8,rfl,gw1,gw2⟩:=hw.parts;have hN:=hX.le;clear h h2 h3 hc hs hp hx hv hw hR hVW hSW hA;go_enter Tryz.func38,Tryz.ntmps38;go_upto_region 1 with (fail);refine boxes4 ?_;intro W hE hsz B0 B6 B7 B8;obtain⟨a0,a1,a2,-⟩:=cells3 B0;go_wp2_with (go_at_call 58; refine Hid.out ?_);refine (n_check (hI.ext hE) HS.out HP.out).mono ?_;rintro e w1 ⟨rfl,e1⟩;replace hE:=hE.trans e1;replace B0:=e1.block B0;replace B6:=e1.block B6;replace B7:=e1.block B7;replace B8:=e1.block B8;clear a0 a1 a2 e1;rw [HC.out];obtain⟨d0,d1,d2,d3,-⟩:=cells4 B6;obtain⟨f0,f1,f2,f3,-⟩:=cells4 B7;go_wp2_with (go_at_call 76; refine Hid.out ?_);refine boxesC2 ?_;intro W2 e2 hsz2 C0 C1;replace hE:=hE.trans e2;replace B0:=e2.block B0;replace B6:=e2.block B6;replace B7:=e2.block B7;replace B8:=e2.block B8;have hLT:=two_raws (N:=N) (by have:=hE.size; omega) C0 (gv1.ext hE) (gv2.ext hE) (gw1.ext hE) (gw2.ext hE)
 refine (n_canonical (two_rows (LsR.wide (hX.ext hE) (Nat.zero_le _) (hX.ext hE).2.1 (Nat.le_refl _)) hLT C1) (fun i hi j hj=>?_)).mono ?_
 ·have hi':i=0∨i=1:=by omega
  rcases hi' with rfl | rfl
  ·exact HR.out j hj
  ·show RawSz (if j=0 then RV else RW)
   split
   ·exact HVW.out.1
   ·exact HVW.out.2
 rw [ad_can];rintro e w3 ⟨rfl,e3⟩;rw [←hok.out];replace hE:=hE.trans e3;replace B0:=e3.block B0;replace B6:=e3.block B6;replace B7:=e3.block B7;replace B8:=e3.block B8;clear C0 C1 e2 e3 hLT hsz2 d0 d1 d2 d3 f0 f1 f2 f3;cases hb:ok with
 | false =>
  subst hb;have HF:Hid (g=1):=by rw [Hid,hg.out]; unfold addCode; rw [if_pos hok.out.symm]
  obtain⟨u0,u1,u2,u3,u4,u5⟩:=cells3 B8;go_wp2;obtain⟨w10,E10,D10,U10⟩:=ex3 B8 (.slice none 0 0) (.slice none 0 0) (.slice none 0 0);rw [E10];have C10:=U10.chg (NoU.mk B8 (by decide));have hE10:=C10.ext hE (by omega);obtain⟨x0,x1,x2,-⟩:=cells3 D10;refine bodyPost_ret (v:=.tuple #[nilLin,.int .i64 1]) ?_ rfl ?_
  ·simp [results,x0,x1,x2,go_sem,nilLin]
  ·rw [HF.out]; exact⟨rfl,hE10⟩
 | true =>
 subst hb;obtain⟨b,off,rfl,-,-,hxr⟩:=(h1.ext hE).addr (by have:=HM.out; omega);obtain⟨AL,cL,p0,hLc,hcL,-⟩:=hxr 0 (by have:=HM.out; omega);rw [Nat.add_zero,hn] at p0;clear hxr;have hkl:k≤maxLen:=by omega
 have hnl':n≤maxLen:=by rw [hn] at hLc; omega
 unfold maxLen at hkl hnl';obtain⟨a0,a1,a2,-⟩:=cells3 B0
 by_cases hkn:k=n
 case neg =>
  have HF:Hid (g=4):=by rw [Hid,hg.out]; unfold addCode; rw [←hok.out,if_neg (by simp),if_pos hkn]
  have t1:((k:Int) != (n:Int))=true:=by rw [bne_iff_ne]; omega
  clear hkn hn;obtain⟨u0,u1,u2,u3,u4,u5⟩:=cells3 B8;go_wp2;obtain⟨w10,E10,D10,U10⟩:=ex3 B8 (.slice none 0 0) (.slice none 0 0) (.slice none 0 0);rw [E10];have C10:=U10.chg (NoU.mk B8 (by decide));have hE10:=C10.ext hE (by omega);obtain⟨x0,x1,x2,-⟩:=cells3 D10;refine bodyPost_ret (v:=.tuple #[nilLin,.int .i64 4]) ?_ rfl ?_
  ·simp [results,x0,x1,x2,go_sem,nilLin]
  ·rw [HF.out]; exact⟨rfl,hE10⟩
 have t1:((k:Int) != (n:Int))=false:=by rw [hkn]; simp
 have HKN:=Lib.hid hkn;clear hkn hn;obtain⟨f0,f1,f2,f3,-⟩:=cells4 B7;go_wp2_with (go_at_call 86; refine Hid.out ?_)
 have hokW:okR RW=true:=by
  have h9:=hok.out;cases h8:okR RW
  ·rw [h8] at h9; simp at h9
  ·rfl
 have hWR:RatV N w (.agg #[.bool RW.b1,.slice A7 n7 c7,.bool RW.b2,.slice A8 n8 c8]) (ratOf RW):=by
  show RawV _ _ _ (raw (ratOf RW))
  rw [←raw_ratOf hokW]; exact hWW
 refine (f_sign (hWR.ext hE) (HSW.out hokW)).mono ?_;obtain⟨sg,hsg⟩:=hid_eq (ratOf RW).num.sign;rw [←hsg.out];rintro e w4 ⟨rfl,e4⟩;replace hE:=hE.trans e4;replace B0:=e4.block B0;replace B6:=e4.block B6;replace B7:=e4.block B7;replace B8:=e4.block B8;have HF0:Hid (g=if ratOf RW≤0 then 2 else 0):=by rw [Hid,hg.out]; unfold addCode; rw [←hok.out,if_neg (by simp),if_neg (by rw [HKN.out]; simp)]
 have hle:ratOf RW≤0:=by
  by_cases h9:ratOf RW≤0
  ·exact h9
  ·exact absurd (HF0.out.trans (if_neg h9)) HA.out
 have HF:Hid (g=2):=by rw [Hid,HF0.out,if_pos hle]
 have t2:decide (sg≤0)=true:=by
  rw [decide_eq_true_eq,hsg.out];have h1:¬ 0 < (ratOf RW).num.sign:=fun h1=>absurd (rat_pos (Int.sign_pos_iff.1 h1)) (Rat.not_lt.2 hle)
  omega
 clear hle hokW hWR e4 a0 a1 a2 p0;obtain⟨u0,u1,u2,u3,u4,u5⟩:=cells3 B8;go_wp2;obtain⟨w10,E10,D10,U10⟩:=ex3 B8 (.slice none 0 0) (.slice none 0 0) (.slice none 0 0);rw [E10];have C10:=U10.chg (NoU.mk B8 (by decide));have hE10:=C10.ext hE (by omega);obtain⟨x0,x1,x2,-⟩:=cells3 D10;refine bodyPost_ret (v:=.tuple #[nilLin,.int .i64 2]) ?_ rfl ?_
 ·simp [results,x0,x1,x2,go_sem,nilLin]
 ·rw [HF.out]; exact⟨rfl,hE10⟩
def Mn.l2 (N n:Nat) (x:Nat→Rat):Mn:=⟨fun v w=>∃ A c,v=.tuple #[.slice A n c,.int .i64 0]∧LsV N 0 w.heap.size w (.slice A n c) n x,fun e h=>by
  obtain⟨A,c,h0,h1⟩:=h
  exact⟨A,c,h0,LsV.all (h1.ext e)⟩⟩
def RetLinA (N:Nat) (w:World) (m n:Nat) (X:Nat→Nat→Rat) (y p:Nat→Rat) (e:Ending) (w':World):Prop :=
 ∃ A1 c1 A2 c2 A3 c3,e=.returned (.tuple #[.agg #[.slice A1 m c1,.slice A2 m c2,.slice A3 m c3],.int .i64 0])∧MtV N 0 w'.heap.size w' (.slice A1 m c1) m n X∧LsV N 0 w'.heap.size w' (.slice A2 m c2) m y∧LsV N 0 w'.heap.size w' (.slice A3 m c3) m p∧Ext w w'
theorem OwnM.grows {N lo hi:Nat} {w:World} {h k m n:Nat} {β κ:Nat→Nat} {A:Nat→Nat→Rat} (o:OwnM N lo hi w h k m n β κ A) (hk:k≤maxLen) :
  ∃ xs:List Value,xs.length=m∧GrowS lo w (.slice (some ⟨h,0,none⟩) m k) xs∧∀ i (_:i < xs.length),xs[i]=.slice (some ⟨β i,0,none⟩) n (κ i):=by
 obtain⟨hs,a1,a2,a3⟩:=o.hh;have hm:=o.mle;have hl:(hs.toList.take m).length=m:=by rw [List.length_take]; simp; omega
 refine⟨hs.toList.take m,hl,⟨by have:=o.hlo; have:=o.hhi; have:=o.his; omega,by rw [hl,Nat.mul_one],.inr ⟨h,k,hs,by rw [hl],o.hlo,a1,by rw [hl]; exact hm,hk,by omega,by rw [hl,Nat.mul_one]⟩⟩,fun i hi'=>?_⟩;rw [hl] at hi';have h9:=a3 i hi';rw [List.getElem_take];have:hs.toList[i]?=some (.slice (some ⟨β i,0,none⟩) n (κ i)):=by rw [←h9]; simp
 exact List.getElem_eq_iff _ |>.2 this
theorem new_blk {w0 w x:World} {l u:Nat} {o:Obj} (c:Chg l u w0 w) (C:x.heap[w.heap.size]?=some o):∃ j,j=w.heap.size∧x.heap[j]?=some o∧w0.heap.size≤j:=⟨_,rfl,C,c.size⟩
def AdM (N lo:Nat) (w:World) (v:Value) (m n:Nat) (A:Nat→Nat→Rat):Prop :=
 ∃ ys,GrowS lo w v ys∧ys.length=m∧∀ i (_:i < ys.length),∃ b c,ys[i]=.slice (some ⟨b,0,none⟩) n c∧lo≤b∧c≤maxLen∧RowB N w b c n (A i)
theorem AdM.ext {N lo:Nat} {w w':World} {v:Value} {m n:Nat} {A:Nat→Nat→Rat} (h:AdM N lo w v m n A) (e:Ext w w'):AdM N lo w' v m n A:=by
 obtain⟨ys,h1,h2,h3⟩:=h;refine⟨ys,h1.ext e,h2,fun i hi=>?_⟩;obtain⟨b,c,k1,k2,k3,k4⟩:=h3 i hi;exact⟨b,c,k1,k2,k3,k4.ext e⟩
theorem AdM.chgB {N lo p:Nat} {w w':World} {v:Value} {m n:Nat} {A:Nat→Nat→Rat} (h:AdM N lo w v m n A) (C:Chg p (p+1) w w') (hN:N≤p) (hp:p < lo∨w.heap.size≤p):AdM N lo w' v m n A:=by
 obtain⟨ys,h1,h2,h3⟩:=h;refine⟨ys,h1.chgB C (fun e=>?_),h2,fun i hi=>?_⟩
 ·have:=h1.own_lt e;omega
 ·obtain⟨b,c,k1,k2,k3,k4⟩:=h3 i hi;have:=k4.lt;exact⟨b,c,k1,k2,k3,k4.chg C hN (by omega)⟩
theorem AdM.chgT {N lo g:Nat} {w w':World} {v:Value} {m n:Nat} {A:Nat→Nat→Rat} (h:AdM N lo w v m n A) (C:Chg g (g+1) w w') (hN:N≤g) {cs:Array Value} (BT:w.heap[g]?=some (.cells cs 26 (0,0))):AdM N lo w' v m n A:=by
 obtain⟨ys,h1,h2,h3⟩:=h;refine⟨ys,h1.chgB C (fun e=>?_),h2,fun i hi=>?_⟩
 ·obtain⟨-,-,h4⟩:=h1
  rcases h4 with ⟨rfl,-⟩ | ⟨g2,cap2,cur,rfl,-,hh,-⟩
  ·cases e
  ·obtain rfl:g2=g:=by simpa [Value.ownBlock] using e
   rw [BT] at hh;injection hh with hh
   injection hh with _ hh
   exact absurd hh (by decide)
 ·obtain⟨b,c,k1,k2,k3,k4⟩:=h3 i hi;refine⟨b,c,k1,k2,k3,k4.chg C hN ?_⟩
  have:b≠g:=by
   rintro rfl;obtain⟨-,-,⟨cs',h5,-⟩,-⟩:=k4;rw [BT] at h5;injection h5 with h5
   injection h5 with _ h5
   exact absurd h5 (by decide)
  omega
theorem AdM.mtv {N lo:Nat} {w:World} {v:Value} {m n:Nat} {A:Nat→Nat→Rat} (h:AdM N lo w v m n A) (hm:0 < m) (hN:N≤w.heap.size):MtV N 0 w.heap.size w v m n A:=by
 obtain⟨ys,h1,rfl,h3⟩:=h;refine GrowS.mtr0 (N:=N) (L:=fun _=>n) (R:=fun i j=>raw (A i j)) h1 hN hm (fun i hi=>?_);obtain⟨b,c,k1,k2,k3,k4⟩:=h3 i hi;rw [k1];exact k4.lsv k4.2.1 k3 (Nat.zero_le _) k4.lt (Nat.le_refl _)
theorem ad_rows {N lo hi:Nat} {w w':World} {h k m n:Nat} {β κ:Nat→Nat} {A:Nat→Nat→Rat} (o:OwnM N lo hi w h k m n β κ A) {xs:List Value} (hxs:xs.length=m) (hx:∀ i (_:i < xs.length),xs[i]=.slice (some ⟨β i,0,none⟩) n (κ i)) {gr cr:Nat} {x:Nat→Rat}
  (hr:RowB N w gr cr n x) (hgr:hi≤gr) (hcr:cr≤maxLen) {p:Nat} (hb:lo≤p) (C:Chg p (p+1) w w') (hp:p=h∨p=w.heap.size) {v:Value} (G:GrowS lo w' v (xs ++ [.slice (some ⟨gr,0,none⟩) n cr])):AdM N lo w' v (m+1) n (updM A m x):=by
 have hle:=o.le;have hgl:=hr.lt;have hhh:=o.hhi;have hhs:=o.his;have hll:=o.hlo;have hl:(xs ++ [Value.slice (some ⟨gr,0,none⟩) n cr]).length=m+1:=by simp [hxs]
 refine⟨_,G,hl,fun i hi'=>?_⟩
 by_cases hi2:i < xs.length
 ·rw [List.getElem_append_left hi2,hx i hi2];have him:i < m:=by omega
  have h1:=(o.row i him).chg C (by omega) (by have:=o.ne him; have:=o.hi_ i him; omega);exact⟨_,_,rfl,o.lo_ i him,o.cap i him,h1.congr (fun j _=>by unfold updM; rw [if_neg (by omega)])⟩
 ·obtain rfl:i=xs.length:=by rw [hl] at hi'; omega
  rw [List.getElem_append_right (Nat.le_refl _)];simp only [Nat.sub_self,List.getElem_cons_zero];have h1:=hr.chg C (by omega) (by omega);exact⟨_,_,rfl,by omega,hcr,h1.congr (fun j _=>by unfold updM; rw [if_pos (by omega)])⟩
theorem n_Add {N lo hi lo2 hi2 lo' hi':Nat} {w:World} {v1 v2 v3 u vv vw:Value} {m n:Nat} {X:Nat→Nat→Rat} {y p x:Nat→Rat} {V Q:Rat} (h1:MtV N lo hi w v1 m n X) (h2:LsV N lo2 hi2 w v2 m y) (h3:LsV N lo2 hi2 w v3 m p) (hm0:0 < m) (hm:m < 64) (hn0:0 < n) (hn:n≤24) (hp:∀ i,i < m→0 < p i)
  (hx:LsV N lo' hi' w u n x) (hv:RatV N w vv V) (hw:RatV N w vw Q) (hQ:0 < Q) {k:Nat} (hkx:HtM m n k X) (hky:HtL m k y) (hkp:HtL m k p) (hkr:HtL n k x) (hkv:Ht k V) (hkq:Ht k Q) (hK:k≤29000000000) :
  Calls Tryz.prog 38 #[.agg #[v1,v2,v3],u,vv,vw] w (RetLinA N w (m+1) n (updM X m x) (upd y m V) (upd p m Q)):=by
 obtain⟨Rf,hRf⟩:=hid_eq (RetLinA N w (m+1) n (updM X m x) (upd y m V) (upd p m Q));rw [←hRf.out];have HS:Hid (LinSz (linOf m n X y p)):=linSz_of hkx hky hkp hK;have HP:Hid (∀ i,i < m→RawS (raw (p i))):=fun i hi=>(hkp i hi).sz hK
 have HC:Hid (codeOf (linOf m n X y p)=0):=codeOf_lin hm0 (by omega) hn0 hn hp;obtain⟨R,hR0⟩:=hid_eq (fun i=>raw (x i));obtain⟨RV,hRV⟩:=hid_eq (raw V);obtain⟨RW,hRW⟩:=hid_eq (raw Q);have HR:Hid (∀ i,i < n→RawSz (R i)):=fun i hi=>by rw [hR0.out]; exact ((hkr i hi).sz hK).raw
 have HVW:Hid (RawSz RV∧RawSz RW):=by rw [Hid,hRV.out,hRW.out]; exact⟨(hkv.sz hK).raw,(hkq.sz hK).raw⟩
 have HSQ:Hid (Sz Q):=hkq.sz hK;have hok:Hid (true=(allB n (fun i=>okR (R i)) && (okR RV && okR RW))):=by rw [Hid,hR0.out,hRV.out,hRW.out,okR_raw,okR_raw,allB_true.2 (fun i _=>okR_raw _)]; rfl
 have hN:=h1.le;have hI:LinV N 0 w.heap.size w (.agg #[v1,v2,v3]) (linOf m n X y p):=linV_of h1 h2 h3;obtain⟨A1,c1,rfl,hmc,hcm⟩:=h1.form;obtain⟨A2,c2,rfl,hmc2,hcm2⟩:=h2.form;obtain⟨A3,c3,rfl,hmc3,hcm3⟩:=h3.form;have hI1:=h1;have hI2:=h2;have hI3:=h3;have hX0:=hx;obtain⟨A4,c4,rfl,hkc,hck⟩:=hx.form;have hX:LsR N lo' hi' w (.slice A4 n c4) n R:=by rw [hR0.out]; exact hX0
 have hVV:=hv;have hWW:=hw;have hv':RawV N w vv RV:=by rw [hRV.out]; exact hv
 have hw':RawV N w vw RW:=by rw [hRW.out]; exact hw
 obtain⟨A5,n5,c5,A6,n6,c6,rfl,gv1,gv2⟩:=hv'.parts;obtain⟨A7,n7,c7,A8,n8,c8,rfl,gw1,gw2⟩:=hw'.parts;have HQ:Hid (0 < Q):=hQ;clear h1 h2 h3 hp hx hv hw hv' hw' hkx hky hkp hkr hkv hkq hQ;go_enter Tryz.func38,Tryz.ntmps38;go_upto_region 1 with (fail);refine boxes4 ?_;intro W hE hsz B0 B6 B7 B8;obtain⟨a0,a1,a2,-⟩:=cells3 B0;go_wp2_with (go_at_call 58; refine Hid.out ?_);refine (n_check (hI.ext hE) HS.out HP.out).mono ?_;rintro e w1 ⟨rfl,e1⟩;replace hE:=hE.trans e1;replace B0:=e1.block B0;replace B6:=e1.block B6;replace B7:=e1.block B7;replace B8:=e1.block B8;clear a0 a1 a2 e1;rw [HC.out];obtain⟨d0,d1,d2,d3,-⟩:=cells4 B6;obtain⟨f0,f1,f2,f3,-⟩:=cells4 B7;go_wp2_with (go_at_call 76; refine Hid.out ?_);refine boxesC2 ?_;intro W2 e2 hsz2 C0 C1;replace hE:=hE.trans e2;replace B0:=e2.block B0;replace B6:=e2.block B6;replace B7:=e2.block B7;replace B8:=e2.block B8;have hLT:=two_raws (N:=N) (by have:=hE.size; omega) C0 (gv1.ext hE) (gv2.ext hE) (gw1.ext hE) (gw2.ext hE);refine (n_canonical (two_rows (LsR.wide (hX.ext hE) (Nat.zero_le _) (hX.ext hE).2.1 (Nat.le_refl _)) hLT C1) (fun i hi j hj=>?_)).mono ?_
 ·have hi':i=0∨i=1:=by omega
  rcases hi' with rfl | rfl
  ·exact HR.out j hj
  ·show RawSz (if j=0 then RV else RW)
   split
   ·exact HVW.out.1
   ·exact HVW.out.2
 rw [ad_can];rintro e w3 ⟨rfl,e3⟩;rw [←hok.out];replace hE:=hE.trans e3;replace B0:=e3.block B0;replace B6:=e3.block B6;replace B7:=e3.block B7;replace B8:=e3.block B8;clear C0 C1 e2 e3 hLT hsz2 d0 d1 d2 d3 f0 f1 f2 f3;obtain⟨b,off,rfl,-,-,hxr⟩:=(hI1.ext hE).addr hm0;obtain⟨AL,cL,p0,hLc,hcL,-⟩:=hxr 0 hm0;rw [Nat.add_zero] at p0;clear hxr;obtain⟨a0,a1,a2,-⟩:=cells3 B0;obtain⟨f0,f1,f2,f3,-⟩:=cells4 B7;have t1:((n:Int) != (n:Int))=false:=by simp
 go_wp2_with (go_at_call 86; refine Hid.out ?_);refine (f_sign (hWW.ext hE) HSQ.out).mono ?_;obtain⟨sg,hsg⟩:=hid_eq Q.num.sign;rw [←hsg.out];rintro e w4 ⟨rfl,e4⟩;replace hE:=hE.trans e4;replace B0:=e4.block B0;replace B6:=e4.block B6;replace B7:=e4.block B7;replace B8:=e4.block B8;clear a0 a1 a2 p0 e4 f0 f1 f2 f3
 have t2:decide (sg≤0)=false:=by
  rw [decide_eq_false_iff_not,hsg.out];have h9:=Int.sign_pos_iff.2 (num_pos HQ.out);omega
 have t3:((m:Int) == 64)=false:=beq_eq_false_iff_ne.2 (by omega);obtain⟨a0,a1,a2,-⟩:=cells3 B0;go_wp2_with (go_at_call 87; refine Hid.out ?_);refine (n_copied (hI1.ext hE) (hI2.ext hE) (hI3.ext hE) hm0 (by omega) hn0 (by omega)).mono ?_;rintro e w5 ⟨h,cap,g2,cap2,g3,cap3,β,κ,lo9,rfl,k1,k2,k3,hcap,ho,k4,k5,hr2,k6,k7,hr3,e5⟩;have hs4:=hE.size;have hB8:=blk_lt B8;have hlh:=ho.hlo;have hhh:=ho.hhi;have hhs:=ho.his;replace hE:=hE.trans e5;replace B0:=e5.block B0;replace B6:=e5.block B6;replace B7:=e5.block B7;replace B8:=e5.block B8;clear a0 a1 a2 t1 t2 t3;go_upto_region 13 with (fail);refine boxes1 ?_;intro w6 e6 hsz6 BT;have hsw5:=e5.size;replace hE:=hE.trans e6;replace B0:=e6.block B0;replace B6:=e6.block B6;replace B7:=e6.block B7;replace B8:=e6.block B8;replace ho:=ho.ext e6;replace hr2:=hr2.ext e6;replace hr3:=hr3.ext e6;obtain⟨gt,hgt⟩:∃ gt,gt=w5.heap.size:=⟨_,rfl⟩
 rw [←hgt] at BT hsz6 hhs hhh ho ⊢;have hgt1:w5.heap.size≤gt:=by omega
 have hgt2:gt≤w5.heap.size:=by omega
 clear hgt e6 e5;obtain⟨d0,d1,d2,-⟩:=cells3 BT;go_upto_region 13 with (fail);have eC:=(Ext.refl w6).drew;refine region_late (fun w'=>w'.cell? ⟨gt,0,none⟩=some (.slice (some ⟨h,0,none⟩) m cap)) [7] (by kernel_rfl) (by exact eC.cell d0) (fun hHeld=>?_);refine sP 0 (h:=?_);try simp only [nr]
 refine sT 1 (h:=?_);try simp only [nr]
 refine sP 2 (h:=?_);try simp only [nr]
 refine stepL_only (i:=3) rfl (by kernel_rfl) (fun K hK=>?_);go_simp;refine (sl_clone (hX0.ext (hE.trans eC)) hn0 (by omega)).mono ?_;rintro e w7 ⟨gr,cr,rfl,hgr,hcr,hnr,hrr,e7⟩;have hs7:=e7.size;have hs7':=eC.size;replace eC:=eC.trans e7;go_wp2_with fail;clear hHeld;refine hK.out _ _ (by exact eC.cell d0) fun hHeld=>?_
 clear hK K;try simp only [nr]
 refine stepL_only (i:=4) rfl (by kernel_rfl) (fun K hK=>?_);go_simp
 first | refine boxes1 ?_ | refine boxesD1 ?_
 intro w8 e8 hsz8 BX;replace eC:Ext w6 w8:=by first | exact eC.trans e8 | exact e8
 have hrr8:=hrr.ext e8;have ho8:=ho.ext eC;obtain⟨xs,hxs,hGS,hxv⟩:=ho8.grows hcap;have hxl:xs.length < 100000:=by omega
 rw [←hxs] at hGS;have hs8:=e8.size;clear hHeld;refine hK.out _ _ (by exact eC.cell d0) fun hHeld=>?_
 clear hK K;try simp only [nr]
 refine stepL_only (i:=5) rfl (by kernel_rfl) (fun K hK=>?_);refine step_append_row_at rfl _ _ 23 Tryz.underlying23 rfl (by rw [←hxs]; rfl) hGS (by rfl) BX (by rfl) hxl ?_;rintro gm cm w9 pp G hb9 C9 o1 o2
 have hp9:pp=h∨pp=w8.heap.size:=by
  rcases o1 with o1 | o1
  ·left; simpa [Value.ownBlock] using o1.symm
  ·exact .inr o1
 have hM9:=ad_rows ho8 hxs hxv hrr8 (by omega) hcr hb9 C9 hp9 G;have eC0:=eC;have hpt:gt < pp∨pp+1≤gt:=by omega
 replace d0:=C9.cell (eC0.cell d0) (by show gt < _∨_≤gt; omega);have BT9:=C9.blk (eC0.block BT) hpt;replace eC:=Ext.refl w9;clear hHeld;refine hK.out _ _ (by exact eC.cell d0) fun hHeld=>?_
 clear hK K;try simp only [nr]
 refine sP 6 (h:=?_);try simp only [nr]
 refine stepL_late (i:=7) rfl (by kernel_rfl) (by kernel_rfl) (fun K hK=>?_);obtain⟨u0,u1,u2,u3,u4,u5⟩:=cells3 BT9;go_simp;obtain⟨w10,E10,BT10,U10⟩:=set3 BT9 (.slice (some ⟨gm,0,none⟩) (m+1) cm);rw [E10];have C10:=U10.chg (NoU.mk BT9 (by decide));clear u0 u1 u2 u3 u4 u5;refine hK.out _ _ ?_;clear hK K;try simp only [nr]
 refine stepL_done (by kernel_rfl) ?_ _;clear hHeld;rw [hxs] at hM9;have hs9:=C9.size;have hs10:=U10.size;have hM10:=hM9.chgT C10 (by omega) BT9;replace hr2:=((hr2.ext eC0).chg C9 (by omega) (by omega)).chg C10 (by omega) (by omega);replace hr3:=((hr3.ext eC0).chg C9 (by omega) (by omega)).chg C10 (by omega) (by omega);have hE10:=C10.ext (C9.ext (hE.trans eC0) (by omega)) (by omega);replace B6:=C10.blk (C9.blk (eC0.block B6) (by omega)) (by omega);replace B7:=C10.blk (C9.blk (eC0.block B7) (by omega)) (by omega);replace B8:=C10.blk (C9.blk (eC0.block B8) (by omega)) (by omega);have hL:Grow N g2 w10 (.slice (some ⟨g2,0,none⟩) m cap2) m y:=⟨by omega,by omega,.inr ⟨g2,cap2,rfl,Nat.le_refl _,k5,hr2⟩⟩
 have hP:Grow N g3 w10 (.slice (some ⟨g3,0,none⟩) m cap3) m p:=⟨by omega,by omega,.inr ⟨g3,cap3,rfl,Nat.le_refl _,k7,hr3⟩⟩
 have hAX:=hM10;have hBB:w.heap.size+3 < g2:=by omega
 have hg3t:g3+1≤gt:=by omega
 have hgtl:=blk_lt BT10;have hpq:g3 < lo9:=by omega
 have hsE0:=hE10.size;clear hs9 hs10 d0 hM9 hM10 G C9 C10 BT9 BX hrr hrr8 hr2 hr3 ho ho8 hxs hxv hGS hgr e8 e7 eC eC0 hE E10 U10 B0 hb9 hp9 o1 o2 hpt BT;obtain⟨d0,d1,d2,-⟩:=cells3 BT10;obtain⟨f0,f1,f2,f3,-⟩:=cells4 B6;obtain⟨q0,q1,q2,q3,-⟩:=cells4 B7;have hVB:Hid (Hid (RV.b1=decide (V.num < 0))∧Hid (RW.b1=decide (Q.num < 0))):=by rw [hRV.out,hRW.out]; exact⟨rfl,rfl⟩
 have HB2:Hid (RV.b2=false∧RW.b2=false):=by rw [hRV.out,hRW.out]; exact⟨rfl,rfl⟩
 have hVG:Hid (∀ w',Ext w w'→Gs N w' (.slice A5 n5 c5) (dg V.num.natAbs)∧Gs N w' (.slice A6 n6 c6) (dg V.den)):=fun w' e=>by
  have h1:=gv1.ext e;have h2:=gv2.ext e;rw [hRV.out] at h1 h2;exact⟨h1,h2⟩
 have hWG:Hid (∀ w',Ext w w'→Gs N w' (.slice A7 n7 c7) (dg Q.num.natAbs)∧Gs N w' (.slice A8 n8 c8) (dg Q.den)):=fun w' e=>by
  have h1:=gw1.ext e;have h2:=gw2.ext e;rw [hRW.out] at h1 h2;exact⟨h1,h2⟩
 go_upto_region 14 with (fail);have hC0:Chg g2 (g3+1) w10 w10:=Chg.refl _ _ _;have eC:=(Ext.refl w10).drew.chg g2 (g3+1);refine region_late (Chg g2 (g3+1) w10) [11,13] (by kernel_rfl) (by exact eC) (fun hHeld=>?_);refine sP 0 (h:=?_);try simp only [nr]
 refine sT 1 (hy:=by (intro w9 hSw; have c9:=Chg.cell hSw d1 (.inr (by show g3+1≤gt; omega)); go_simp; (try (rw [if_pos (by omega)])); (try with_reducible rfl))) (h:=?_);try simp only [nr]
 refine sT 2 (hy:=by (intro w9 hSw; have c9:=Chg.cell hSw f0 (.inl (by show w.heap.size+1 < g2; omega)); have h1:=Chg.cell hSw f1 (.inl (by show w.heap.size+1 < g2; omega)); have h2:=Chg.cell hSw f2 (.inl (by show w.heap.size+1 < g2; omega)); have h3:=Chg.cell hSw f3 (.inl (by show w.heap.size+1 < g2; omega)); go_simp; (try (rw [if_pos (by omega)])); (try with_reducible rfl))) (h:=?_);try simp only [nr]
 refine sP 5 (h:=?_);try simp only [nr]
 refine sT 6 (hy:=by (intro w9 hSw; have c9:=Chg.cell hSw d2 (.inr (by show g3+1≤gt; omega)); go_simp; (try (rw [if_pos (by omega)])); (try with_reducible rfl))) (h:=?_);try simp only [nr]
 refine sT 7 (hy:=by (intro w9 hSw; have c9:=Chg.cell hSw q0 (.inl (by show w.heap.size+1+1 < g2; omega)); have h1:=Chg.cell hSw q1 (.inl (by show w.heap.size+1+1 < g2; omega)); have h2:=Chg.cell hSw q2 (.inl (by show w.heap.size+1+1 < g2; omega)); have h3:=Chg.cell hSw q3 (.inl (by show w.heap.size+1+1 < g2; omega)); go_simp; (try (rw [if_pos (by omega)])); (try with_reducible rfl))) (h:=?_);try simp only [nr]
 refine stepL_two (i:=3) (j:=8) rfl rfl (by kernel_rfl) (fun K hK=>?_) (fun K hK=>?_)
 focus
  go_simp
  first | refine boxes1 ?_ | refine boxesD1 ?_
  intro x3 e z C;obtain⟨j3,hj,T3,hj3⟩:=new_blk eC C
  first | rw [←hj] | (have hj':j3=w10.heap.size:=hj; rw [←hj']; clear hj')
  clear hj z C;try replace T8:=e.block T8
  have hL9:=hL.ext e;have hP9:=hP.ext e;have hA9:=hAX.ext e;have eC9:Chg g2 (g3+1) w10 x3:=by first | exact eC.trans (e.chg _ _) | exact e.chg _ _
  clear hL hP hAX eC e;have hL:=hL9;have hP:=hP9;have hAX:=hA9;have eC:=eC9;clear hL9 hP9 hA9 eC9;clear hHeld;refine hK.out _ _ (by exact eC) fun hHeld=>?_
  clear hK K;try simp only [nr]
  refine stepL_two (i:=4) (j:=8) rfl rfl (by kernel_rfl) (fun K hK=>?_) (fun K hK=>?_)
  focus
   rw [HB2.out.1] at T3;refine step_append_rat_at rfl _ _ 24 Tryz.underlying24 rfl (by rfl) hL (by rfl) T3 (hVB.out.1) (hVG.out _ (eC.ext hE10 (by omega))).1 (hVG.out _ (eC.ext hE10 (by omega))).2 (by omega) ?_;rintro gL cL y9 pp G hb C o1 o2;have hz:=eC.size
   have hpp:pp=g2∨g3 < pp:=by
    rcases o1 with o1 | o1
    ·left; simpa [Value.ownBlock] using o1.symm
    ·right; omega
   have hP9:=grow_chgB hP C (by omega) (by show some g3≠some pp; intro e; injection e; omega)
   have hA9:AdM N lo9 y9 (.slice (some ⟨gm,0,none⟩) (m+1) cm) (m+1) n (updM X m x):=by
    rcases o1 with o1 | o1
    ·obtain rfl:pp=g2:=by simpa [Value.ownBlock] using o1.symm
     exact hAX.chgB C (by omega) (.inl (by omega))
    ·exact hAX.chgB C (by omega) (.inr (by omega))
   have hLp:gL=g2∨gt < gL:=by
    rcases o2 with o2 | o2
    ·left; simpa [Value.ownBlock] using o2.symm
    ·right; omega
   try (have T89:=C.blk T8 (by have h8:=blk_lt T8; rcases o1 with o1 | o1 <;> first | (have h9:pp=g2:=by simpa [Value.ownBlock] using o1.symm); omega | omega); clear T8; have T8:=T89; clear T89)
   have eC9:Chg g2 (g3+1) w10 y9:=by
    rcases o1 with o1 | o1
    ·obtain rfl:pp=g2:=by simpa [Value.ownBlock] using o1.symm
     exact eC.trans (C.wide (Nat.le_refl _) (by omega))
    ·exact eC.trans ((C.ext (Ext.refl _) (by omega)).chg _ _)
   clear hL hP hAX eC C o1 o2 hpp hb hz;have hL:=G;have hP:=hP9;have hAX:=hA9;have eC:=eC9;clear G hP9 hA9 eC9;clear hHeld;refine hK.out _ _ (by exact eC) fun hHeld=>?_
   clear hK K;try simp only [nr]
   refine sP 10 (h:=?_);try simp only [nr]
   refine stepL_only (i:=8) rfl (by kernel_rfl) (fun K hK=>?_);go_simp
   first | refine boxes1 ?_ | refine boxesD1 ?_
   intro x8 e z C;obtain⟨j8,hj,T8,hj8⟩:=new_blk eC C
   first | rw [←hj] | (have hj':j8=w10.heap.size:=hj; rw [←hj']; clear hj')
   clear hj z C;try replace T3:=e.block T3
   have hL9:=hL.ext e;have hP9:=hP.ext e;have hA9:=hAX.ext e;have eC9:Chg g2 (g3+1) w10 x8:=by first | exact eC.trans (e.chg _ _) | exact e.chg _ _
   clear hL hP hAX eC e;have hL:=hL9;have hP:=hP9;have hAX:=hA9;have eC:=eC9;clear hL9 hP9 hA9 eC9;clear hHeld;refine hK.out _ _ (by exact eC) fun hHeld=>?_
   clear hK K;try simp only [nr]
   refine stepL_only (i:=9) rfl (by kernel_rfl) (fun K hK=>?_);rw [HB2.out.2] at T8;refine step_append_rat_at rfl _ _ 24 Tryz.underlying24 rfl (by rfl) hP (by rfl) T8 (hVB.out.2) (hWG.out _ (eC.ext hE10 (by omega))).1 (hWG.out _ (eC.ext hE10 (by omega))).2 (by omega) ?_;rintro gP cP y10 pp G hb C o1 o2;have hz:=eC.size
   have hpp:pp=g3∨gt < pp:=by
    rcases o1 with o1 | o1
    ·left; simpa [Value.ownBlock] using o1.symm
    ·right; omega
   have hgl:=grow_lt hL (k:=gL) rfl
   have hL9:=grow_chgB hL C (by omega) (by
    show some gL≠some pp
    intro e;injection e
    rcases o1 with o1 | o1
    ·obtain rfl:pp=g3:=by simpa [Value.ownBlock] using o1.symm
     omega
    ·omega)
   have hA9:AdM N lo9 y10 (.slice (some ⟨gm,0,none⟩) (m+1) cm) (m+1) n (updM X m x):=by
    rcases o1 with o1 | o1
    ·obtain rfl:pp=g3:=by simpa [Value.ownBlock] using o1.symm
     exact hAX.chgB C (by omega) (.inl (by omega))
    ·exact hAX.chgB C (by omega) (.inr (by omega))
   have eC9:Chg g2 (g3+1) w10 y10:=by
    rcases o1 with o1 | o1
    ·obtain rfl:pp=g3:=by simpa [Value.ownBlock] using o1.symm
     exact eC.trans (C.wide (by omega) (Nat.le_refl _))
    ·exact eC.trans ((C.ext (Ext.refl _) (by omega)).chg _ _)
   have hPp:gP=g3∨gt < gP:=by
    rcases o2 with o2 | o2
    ·left; simpa [Value.ownBlock] using o2.symm
    ·right; omega
   clear hL hP hAX eC C o1 o2 hpp hb hz;have hL:=hL9;have hP:=G;have hAX:=hA9;have eC:=eC9;clear G hL9 hA9 eC9;clear hHeld;refine hK.out _ _ (by exact eC) fun hHeld=>?_
   clear hK K;try simp only [nr]
  rotate_left 1
  focus
   go_simp
   first | refine boxes1 ?_ | refine boxesD1 ?_
   intro x8 e z C;obtain⟨j8,hj,T8,hj8⟩:=new_blk eC C
   first | rw [←hj] | (have hj':j8=w10.heap.size:=hj; rw [←hj']; clear hj')
   clear hj z C;try replace T3:=e.block T3
   have hL9:=hL.ext e;have hP9:=hP.ext e;have hA9:=hAX.ext e;have eC9:Chg g2 (g3+1) w10 x8:=by first | exact eC.trans (e.chg _ _) | exact e.chg _ _
   clear hL hP hAX eC e;have hL:=hL9;have hP:=hP9;have hAX:=hA9;have eC:=eC9;clear hL9 hP9 hA9 eC9;clear hHeld;refine hK.out _ _ (by exact eC) fun hHeld=>?_
   clear hK K;try simp only [nr]
   refine stepL_only (i:=4) rfl (by kernel_rfl) (fun K hK=>?_);rw [HB2.out.1] at T3;refine step_append_rat_at rfl _ _ 24 Tryz.underlying24 rfl (by rfl) hL (by rfl) T3 (hVB.out.1) (hVG.out _ (eC.ext hE10 (by omega))).1 (hVG.out _ (eC.ext hE10 (by omega))).2 (by omega) ?_;rintro gL cL y9 pp G hb C o1 o2;have hz:=eC.size
   have hpp:pp=g2∨g3 < pp:=by
    rcases o1 with o1 | o1
    ·left; simpa [Value.ownBlock] using o1.symm
    ·right; omega
   have hP9:=grow_chgB hP C (by omega) (by show some g3≠some pp; intro e; injection e; omega)
   have hA9:AdM N lo9 y9 (.slice (some ⟨gm,0,none⟩) (m+1) cm) (m+1) n (updM X m x):=by
    rcases o1 with o1 | o1
    ·obtain rfl:pp=g2:=by simpa [Value.ownBlock] using o1.symm
     exact hAX.chgB C (by omega) (.inl (by omega))
    ·exact hAX.chgB C (by omega) (.inr (by omega))
   have hLp:gL=g2∨gt < gL:=by
    rcases o2 with o2 | o2
    ·left; simpa [Value.ownBlock] using o2.symm
    ·right; omega
   try (have T89:=C.blk T8 (by have h8:=blk_lt T8; rcases o1 with o1 | o1 <;> first | (have h9:pp=g2:=by simpa [Value.ownBlock] using o1.symm); omega | omega); clear T8; have T8:=T89; clear T89)
   have eC9:Chg g2 (g3+1) w10 y9:=by
    rcases o1 with o1 | o1
    ·obtain rfl:pp=g2:=by simpa [Value.ownBlock] using o1.symm
     exact eC.trans (C.wide (Nat.le_refl _) (by omega))
    ·exact eC.trans ((C.ext (Ext.refl _) (by omega)).chg _ _)
   clear hL hP hAX eC C o1 o2 hpp hb hz;have hL:=G;have hP:=hP9;have hAX:=hA9;have eC:=eC9;clear G hP9 hA9 eC9;clear hHeld;refine hK.out _ _ (by exact eC) fun hHeld=>?_
   clear hK K;try simp only [nr]
   refine sP 10 (h:=?_);try simp only [nr]
   refine stepL_only (i:=9) rfl (by kernel_rfl) (fun K hK=>?_);rw [HB2.out.2] at T8;refine step_append_rat_at rfl _ _ 24 Tryz.underlying24 rfl (by rfl) hP (by rfl) T8 (hVB.out.2) (hWG.out _ (eC.ext hE10 (by omega))).1 (hWG.out _ (eC.ext hE10 (by omega))).2 (by omega) ?_;rintro gP cP y10 pp G hb C o1 o2;have hz:=eC.size
   have hpp:pp=g3∨gt < pp:=by
    rcases o1 with o1 | o1
    ·left; simpa [Value.ownBlock] using o1.symm
    ·right; omega
   have hgl:=grow_lt hL (k:=gL) rfl
   have hL9:=grow_chgB hL C (by omega) (by
    show some gL≠some pp
    intro e;injection e
    rcases o1 with o1 | o1
    ·obtain rfl:pp=g3:=by simpa [Value.ownBlock] using o1.symm
     omega
    ·omega)
   have hA9:AdM N lo9 y10 (.slice (some ⟨gm,0,none⟩) (m+1) cm) (m+1) n (updM X m x):=by
    rcases o1 with o1 | o1
    ·obtain rfl:pp=g3:=by simpa [Value.ownBlock] using o1.symm
     exact hAX.chgB C (by omega) (.inl (by omega))
    ·exact hAX.chgB C (by omega) (.inr (by omega))
   have eC9:Chg g2 (g3+1) w10 y10:=by
    rcases o1 with o1 | o1
    ·obtain rfl:pp=g3:=by simpa [Value.ownBlock] using o1.symm
     exact eC.trans (C.wide (by omega) (Nat.le_refl _))
    ·exact eC.trans ((C.ext (Ext.refl _) (by omega)).chg _ _)
   have hPp:gP=g3∨gt < gP:=by
    rcases o2 with o2 | o2
    ·left; simpa [Value.ownBlock] using o2.symm
    ·right; omega
   clear hL hP hAX eC C o1 o2 hpp hb hz;have hL:=hL9;have hP:=G;have hAX:=hA9;have eC:=eC9;clear G hL9 hA9 eC9;clear hHeld;refine hK.out _ _ (by exact eC) fun hHeld=>?_
   clear hK K;try simp only [nr]
  rotate_left 1
 rotate_left 2
 focus
  go_simp
  first | refine boxes1 ?_ | refine boxesD1 ?_
  intro x8 e z C;obtain⟨j8,hj,T8,hj8⟩:=new_blk eC C
  first | rw [←hj] | (have hj':j8=w10.heap.size:=hj; rw [←hj']; clear hj')
  clear hj z C;try replace T3:=e.block T3
  have hL9:=hL.ext e;have hP9:=hP.ext e;have hA9:=hAX.ext e;have eC9:Chg g2 (g3+1) w10 x8:=by first | exact eC.trans (e.chg _ _) | exact e.chg _ _
  clear hL hP hAX eC e;have hL:=hL9;have hP:=hP9;have hAX:=hA9;have eC:=eC9;clear hL9 hP9 hA9 eC9;clear hHeld;refine hK.out _ _ (by exact eC) fun hHeld=>?_
  clear hK K;try simp only [nr]
  refine stepL_only (i:=3) rfl (by kernel_rfl) (fun K hK=>?_);go_simp
  first | refine boxes1 ?_ | refine boxesD1 ?_
  intro x3 e z C;obtain⟨j3,hj,T3,hj3⟩:=new_blk eC C
  first | rw [←hj] | (have hj':j3=w10.heap.size:=hj; rw [←hj']; clear hj')
  clear hj z C;try replace T8:=e.block T8
  have hL9:=hL.ext e;have hP9:=hP.ext e;have hA9:=hAX.ext e;have eC9:Chg g2 (g3+1) w10 x3:=by first | exact eC.trans (e.chg _ _) | exact e.chg _ _
  clear hL hP hAX eC e;have hL:=hL9;have hP:=hP9;have hAX:=hA9;have eC:=eC9;clear hL9 hP9 hA9 eC9;clear hHeld;refine hK.out _ _ (by exact eC) fun hHeld=>?_
  clear hK K;try simp only [nr]
  refine stepL_only (i:=4) rfl (by kernel_rfl) (fun K hK=>?_);rw [HB2.out.1] at T3;refine step_append_rat_at rfl _ _ 24 Tryz.underlying24 rfl (by rfl) hL (by rfl) T3 (hVB.out.1) (hVG.out _ (eC.ext hE10 (by omega))).1 (hVG.out _ (eC.ext hE10 (by omega))).2 (by omega) ?_;rintro gL cL y9 pp G hb C o1 o2;have hz:=eC.size
  have hpp:pp=g2∨g3 < pp:=by
   rcases o1 with o1 | o1
   ·left; simpa [Value.ownBlock] using o1.symm
   ·right; omega
  have hP9:=grow_chgB hP C (by omega) (by show some g3≠some pp; intro e; injection e; omega)
  have hA9:AdM N lo9 y9 (.slice (some ⟨gm,0,none⟩) (m+1) cm) (m+1) n (updM X m x):=by
   rcases o1 with o1 | o1
   ·obtain rfl:pp=g2:=by simpa [Value.ownBlock] using o1.symm
    exact hAX.chgB C (by omega) (.inl (by omega))
   ·exact hAX.chgB C (by omega) (.inr (by omega))
  have hLp:gL=g2∨gt < gL:=by
   rcases o2 with o2 | o2
   ·left; simpa [Value.ownBlock] using o2.symm
   ·right; omega
  try (have T89:=C.blk T8 (by have h8:=blk_lt T8; rcases o1 with o1 | o1 <;> first | (have h9:pp=g2:=by simpa [Value.ownBlock] using o1.symm); omega | omega); clear T8; have T8:=T89; clear T89)
  have eC9:Chg g2 (g3+1) w10 y9:=by
   rcases o1 with o1 | o1
   ·obtain rfl:pp=g2:=by simpa [Value.ownBlock] using o1.symm
    exact eC.trans (C.wide (Nat.le_refl _) (by omega))
   ·exact eC.trans ((C.ext (Ext.refl _) (by omega)).chg _ _)
  clear hL hP hAX eC C o1 o2 hpp hb hz;have hL:=G;have hP:=hP9;have hAX:=hA9;have eC:=eC9;clear G hP9 hA9 eC9;clear hHeld;refine hK.out _ _ (by exact eC) fun hHeld=>?_
  clear hK K;try simp only [nr]
  refine sP 10 (h:=?_);try simp only [nr]
  refine stepL_only (i:=9) rfl (by kernel_rfl) (fun K hK=>?_);rw [HB2.out.2] at T8;refine step_append_rat_at rfl _ _ 24 Tryz.underlying24 rfl (by rfl) hP (by rfl) T8 (hVB.out.2) (hWG.out _ (eC.ext hE10 (by omega))).1 (hWG.out _ (eC.ext hE10 (by omega))).2 (by omega) ?_;rintro gP cP y10 pp G hb C o1 o2;have hz:=eC.size
  have hpp:pp=g3∨gt < pp:=by
   rcases o1 with o1 | o1
   ·left; simpa [Value.ownBlock] using o1.symm
   ·right; omega
  have hgl:=grow_lt hL (k:=gL) rfl
  have hL9:=grow_chgB hL C (by omega) (by
   show some gL≠some pp
   intro e;injection e
   rcases o1 with o1 | o1
   ·obtain rfl:pp=g3:=by simpa [Value.ownBlock] using o1.symm
    omega
   ·omega)
  have hA9:AdM N lo9 y10 (.slice (some ⟨gm,0,none⟩) (m+1) cm) (m+1) n (updM X m x):=by
   rcases o1 with o1 | o1
   ·obtain rfl:pp=g3:=by simpa [Value.ownBlock] using o1.symm
    exact hAX.chgB C (by omega) (.inl (by omega))
   ·exact hAX.chgB C (by omega) (.inr (by omega))
  have eC9:Chg g2 (g3+1) w10 y10:=by
   rcases o1 with o1 | o1
   ·obtain rfl:pp=g3:=by simpa [Value.ownBlock] using o1.symm
    exact eC.trans (C.wide (by omega) (Nat.le_refl _))
   ·exact eC.trans ((C.ext (Ext.refl _) (by omega)).chg _ _)
  have hPp:gP=g3∨gt < gP:=by
   rcases o2 with o2 | o2
   ·left; simpa [Value.ownBlock] using o2.symm
   ·right; omega
  clear hL hP hAX eC C o1 o2 hpp hb hz;have hL:=hL9;have hP:=G;have hAX:=hA9;have eC:=eC9;clear G hL9 hA9 eC9;clear hHeld;refine hK.out _ _ (by exact eC) fun hHeld=>?_
  clear hK K;try simp only [nr]
 rotate_left 1
 all_goals
  refine stepL_late (i:=11) rfl (by kernel_rfl) (by kernel_rfl) (fun K hK=>?_);have BT11:=eC.blk BT10 (.inr (by omega));obtain⟨u0,u1,u2,u3,u4,u5⟩:=cells3 BT11;go_simp;obtain⟨w11,E11,BT12,U11⟩:=set31 BT11 (.slice (some ⟨gL,0,none⟩) (m+1) cL);rw [E11];have C11:=U11.chg (NoU.mk BT11 (by decide));clear u0 u1 u2 u3 u4 u5;refine hK.out _ _ ?_;clear hK K;try simp only [nr]
  refine sP 12 (h:=?_);try simp only [nr]
  refine stepL_late (i:=13) rfl (by kernel_rfl) (by kernel_rfl) (fun K hK=>?_);obtain⟨u0,u1,u2,u3,u4,u5⟩:=cells3 BT12;go_simp;obtain⟨w13,E13,BT13,U13⟩:=set32 BT12 (.slice (some ⟨gP,0,none⟩) (m+1) cP);rw [E13];have C13:=U13.chg (NoU.mk BT12 (by decide));clear u0 u1 u2 u3 u4 u5;refine hK.out _ _ ?_;clear hK K;try simp only [nr]
  refine stepL_done (by kernel_rfl) ?_ _;clear hHeld;have hL13:=grow_chgB (grow_chgB hL C11 (by omega) (by show some gL≠some gt; intro e; injection e; omega)) C13 (by omega) (by show some gL≠some gt; intro e; injection e; omega);have hP13:=grow_chgB (grow_chgB hP C11 (by omega) (by show some gP≠some gt; intro e; injection e; omega)) C13 (by omega) (by show some gP≠some gt; intro e; injection e; omega);have hA13:=(hAX.chgT C11 (by omega) BT11).chgT C13 (by omega) BT12;have B813:=C13.blk (C11.blk (eC.blk B8 (.inl (by omega))) (.inl (by omega))) (.inl (by omega));have hE13:=C13.ext (C11.ext (eC.ext hE10 (by omega)) (by omega)) (by omega);clear E11 E13 U11 U13 C11 C13 BT11 BT12 BT10 hL hP hAX T3 T8 eC d0 d1 d2 f0 f1 f2 f3 q0 q1 q2 q3;obtain⟨d0,d1,d2,-⟩:=cells3 BT13;obtain⟨u0,u1,u2,u3,u4,u5⟩:=cells3 B813;go_wp2;obtain⟨w14,E14,D14,U14⟩:=ex3 B813 (.slice (some ⟨gm,0,none⟩) (m+1) cm) (.slice (some ⟨gL,0,none⟩) (m+1) cL) (.slice (some ⟨gP,0,none⟩) (m+1) cP);rw [E14];have C14:=U14.chg (NoU.mk B813 (by decide));have hL14:=hL13.chg C14 (by omega) (by omega);have hP14:=hP13.chg C14 (by omega) (by omega);have hA14:=hA13.chgB C14 (by omega) (.inl (by omega));have hE14:=C14.ext hE13 (by omega);have hs14:=hE14.size;obtain⟨x0,x1,x2,-⟩:=cells3 D14;clear d0 d1 d2 u0 u1 u2 u3 u4 u5 E14;refine bodyPost_ret (v:=.tuple #[.agg #[.slice (some ⟨gm,0,none⟩) (m+1) cm,.slice (some ⟨gL,0,none⟩) (m+1) cL,.slice (some ⟨gP,0,none⟩) (m+1) cP],.int .i64 0]) ?_ rfl ?_
  ·simp [results,x0,x1,x2,go_sem]
  ·rw [hRf.out];exact⟨_,_,_,_,_,_,rfl,hA14.mtv (by omega) (by omega),hL14.lsv (Nat.zero_le _) rfl,hP14.lsv (Nat.zero_le _) rfl,hE14⟩
end Go.Proofs.YtccepmpebioeiaaGreat
namespace Go.Proofs.YtccepmpebioeiaaGreat
theorem nmat_nm5 (m:Nat) (B:Nat→Nat→Rat) (p:Nat→Rat) (i j:Nat):nmat B p m i j=nm m B p i j:=sum_congr fun t _=>by grind
theorem nsv_sum {n:Nat} {K:Nat→Nat→Rat} {b:Nat→Rat} (h:Reg n K):∀ i,i < n→sum n (fun c=>K i c*nsv n K b c)=b i:=(reg_solve h b).2
theorem nsv_ht {n q P:Nat} {K:Nat→Nat→Rat} {b:Nat→Rat} (hK:HtM n n q K) (hb:HtL n q b) (hP:n≤P):HtL n (n*(5 ^ P*q+2)+1) (nsv n K b):=by
 have hk3:HtM n (n+1) q (aug n K b):=fun i hi c hc=>by
  unfold aug
  split
  ·exact hK i hi c ‹_›
  ·exact hb i hi
 have hk4:HtM n (n+1) (5 ^ P*q) (rref n (aug n K b) (n+1)).1:=rref_ht' (p:=P) hk3 (j:=n+1) (Nat.le_refl _) (.inl hP);have hlen:=(rref_len n (aug n K b) (n+1)).1;intro c hc;unfold nsv sol;refine Ht.mono (sum_ht (n:=(rref n (aug n K b) (n+1)).2.length) (k:=5 ^ P*q+1) (K:=(rref n (aug n K b) (n+1)).2.length*(5 ^ P*q+1+1)+1) (fun s hs=>Ht.mono (Ht.mul (k:=1) ?_ (hk4 s (by omega) n (by omega))) (by omega)) (Nat.le_refl _) (Nat.le_refl _)) ?_
 ·unfold dlt; split
  ·exact Ht.one
  ·exact Ht.zero
 ·exact Nat.succ_le_succ (Nat.mul_le_mul_right _ hlen)
theorem nsv_nsol {m n:Nat} {X:Nat→Nat→Rat} {y p:Nat→Rat} (h:Reg n (nmat X p m)):Nsol m n X p y (nsv n (nmat X p m) (nrhs X y p m)):=by
 intro a ha;rw [sum_congr (fun b _=>by rw [←nmat_nm5]),nsv_sum h a ha];exact sum_congr fun t _=>by grind
theorem nsv_least {m n:Nat} {X:Nat→Nat→Rat} {y p:Nat→Rat} (hp:∀ i,i < m→0 < p i) (h:Reg n (nmat X p m)) (z:Nat→Rat) :
  obj m p (fun i=>av n X (nsv n (nmat X p m) (nrhs X y p m)) i - y i)≤obj m p (fun i=>av n X z i - y i):=least hp (nsv_nsol h) z
end Go.Proofs.YtccepmpebioeiaaGreat
namespace Go.Proofs.YtccepmpebioeiaaGreat
open Go.RowKit
theorem BoxR.lt {N:Nat} {w:World} {g:Nat} {q:Rat} (h:BoxR N w g q):g < w.heap.size:=by
 obtain⟨_,_,_,_,_,_,_,B,_⟩:=h;exact blk_lt B
section
variable {m n a b:Nat} {X:Nat→Nat→Rat} {y p:Nat→Rat}
theorem skip_le (hb:b < m) {j:Nat} (hj:j < m - 1):skip b j < m:=by
 have h:=skip_lt (m:=m - 1) (i:=b) hj;omega
end
theorem dgn_ht12 {R:Raw} (hok:okR R=true) (h:dgn R≤12):Ht 360 (ratOf R):=by
 have e:=raw_ratOf hok;obtain⟨q,hq⟩:∃ q,q=ratOf R:=⟨_,rfl⟩
 rw [←hq] at e ⊢;clear hq;subst e;have h0:(dg q.num.natAbs).length+(dg q.den).length≤12:=h
 have h1:ln q.num.natAbs≤12:=by
  show (dg q.num.natAbs).length≤12
  omega
 have h2:ln q.den≤12:=by
  show (dg q.den).length≤12
  omega
 have hp:bs ^ 12≤2 ^ 360:=by unfold bs; decide +kernel
 exact⟨Nat.lt_of_lt_of_le (ln_le_iff.1 h1) hp,Nat.lt_of_lt_of_le (ln_le_iff.1 h2) hp⟩
section
variable {m n k:Nat} {X:Nat→Nat→Rat} {y p x z:Nat→Rat} {V Q:Rat}
theorem updM_lt {i:Nat} (h:i < m):updM X m x i=X i:=by unfold updM; rw [if_neg (by omega)]
theorem upd_lt {i:Nat} (h:i < m):upd y m V i=y i:=by unfold upd; rw [if_neg (by omega)]
theorem skip_last {j:Nat} (h:j < m):skip m j=j:=by unfold skip; rw [if_pos h]
theorem av_more {i:Nat} (h:i < m):av n (updM X m x) z i=av n X z i:=by unfold av; rw [updM_lt h]
theorem more_pos (hp:∀ i,i < m→0 < p i) (hQ:0 < Q):∀ i,i < m+1→0 < upd p m Q i:=fun i hi=>by
 unfold upd
 split
 ·exact hQ
 ·exact hp i (by omega)
theorem more_htX (hX:HtM m n k X) (hx:HtL n k x):HtM (m+1) n k (updM X m x):=fun i hi j hj=>by
 unfold updM
 split
 ·exact hx j hj
 ·exact hX i (by omega) j hj
theorem more_htL (hy:HtL m k y) (hv:Ht k V):HtL (m+1) k (upd y m V):=fun i hi=>by
 unfold upd
 split
 ·exact hv
 ·exact hy i (by omega)
theorem obj_more:obj (m+1) (upd p m Q) (fun i=>av n (updM X m x) z i - upd y m V i)=obj m p (fun i=>av n X z i - y i)+Q*((sum n (fun c=>x c*z c) - V)*(sum n (fun c=>x c*z c) - V)):=by
 unfold obj;rw [sum_succ,upd_same]
 show _+Q*((av n (updM X m x) z m - upd y m V m)*(av n (updM X m x) z m - upd y m V m))=_
 rw [upd_same];have e:av n (updM X m x) z m=sum n (fun c=>x c*z c):=by unfold av; rw [updM_same]
 rw [e]
 congr 1
 exact sum_congr fun i hi=>by
  show upd p m Q i*((av n (updM X m x) z i - upd y m V i)*(av n (updM X m x) z i - upd y m V i))=_
  rw [upd_lt hi,upd_lt hi,av_more hi]
theorem obj_more_le (hQ:0 < Q):obj m p (fun i=>av n X z i - y i)≤obj (m+1) (upd p m Q) (fun i=>av n (updM X m x) z i - upd y m V i):=by
 rw [obj_more]
 generalize sum n (fun c=>x c*z c) - V=d
 have h1:0≤d*d:=by
  rcases Rat.le_total (a:=0) (b:=d) with h | h
  ·exact Rat.mul_nonneg h h
  ·have:d*d=(-d)*(-d):=by grind
   rw [this];exact Rat.mul_nonneg (by grind) (by grind)
 have h2:0≤Q*(d*d):=Rat.mul_nonneg (Rat.le_of_lt hQ) h1
 grind
theorem reg_nmA {m n:Nat} {X:Nat→Nat→Rat} {p:Nat→Rat}:Reg n (nmat X p m)↔Reg n (nm m X p):=by
 have e:∀ a b,nmat X p m a b=nm m X p a b:=fun a b=>by unfold nmat nm; exact sum_congr fun t _=>by grind
 have e2:nmat X p m=nm m X p:=by funext a b; exact e a b
 rw [e2]
theorem reg_more (hp:∀ i,i < m→0 < p i) (hQ:0 < Q) (h:Reg n (nmat X p m)):Reg n (nmat (updM X m x) (upd p m Q) (m+1)):=by
 rw [reg_nmA] at h ⊢;intro z hz;refine h z (fun a ha=>?_);have h1:=normal_zero (A:=updM X m x) (more_pos hp hQ) hz;rw [nm_av]
 exact sum_eq_zero fun i hi=>by
  have h2:=h1 i (by omega);rw [av_more hi] at h2;rw [h2]; grind
end
theorem cells9 {w:World} {g:Nat} {t:TypeId} {x0 x1 x2 x3 x4 x5 x6 x7 x8:Value} (h:w.heap[g]?=some (.cells #[x0,x1,x2,x3,x4,x5,x6,x7,x8] t (0,0))) :
  w.cell? ⟨g,0,none⟩=some x0∧w.cell? ⟨g,1,none⟩=some x1∧w.cell? ⟨g,2,none⟩=some x2∧w.cell? ⟨g,3,none⟩=some x3∧w.cell? ⟨g,4,none⟩=some x4∧w.cell? ⟨g,5,none⟩=some x5∧w.cell? ⟨g,6,none⟩=some x6∧w.cell? ⟨g,7,none⟩=some x7∧w.cell? ⟨g,8,none⟩=some x8 :=
 ⟨cell_blk h 0,cell_blk h 1,cell_blk h 2,cell_blk h 3,cell_blk h 4,cell_blk h 5,cell_blk h 6,cell_blk h 7,cell_blk h 8⟩
theorem adds_out {N lo hi lo' hi':Nat} {w:World} {v:Value} {A4 A5 A6 A7 A8:Option Addr} {c4 n5 c5 n6 c6 n7 c7 n8 c8 k:Nat} {Z:Lin} {R:Nat→Raw} {RV RW:Raw} {iz:Int} (h:LinV N lo hi w v Z) (x0:LsR N lo' hi' w (.slice A4 k c4) k R)
  (gv1:Gs N w (.slice A5 n5 c5) RV.l1) (gv2:Gs N w (.slice A6 n6 c6) RV.l2) (gw1:Gs N w (.slice A7 n7 c7) RW.l1) (gw2:Gs N w (.slice A8 n8 c8) RW.l2) (hl1:RawL RV) (hl2:RawL RW)
  (hs:few34 8 5 Z=false∨(few34 8 5 Z=true∧(shB 8 k R=false∨(shB 8 k R=true∧12 < dgn RV+dgn RW)))) :
  Calls Tryz.prog 7 #[v,.agg #[.slice A4 k c4,.bool RV.b1,.slice A5 n5 c5,.bool RV.b2,.slice A6 n6 c6,.bool RW.b1,.slice A7 n7 c7,.bool RW.b2,.slice A8 n8 c8],.int .i64 iz] w (RetV w (.bool true)):=by
 have hI:=h;obtain⟨A1,c1,A2,c2,A3,c3,rfl,-⟩:=h.parts;have hX:=x0;have hVV:RawV N w (.agg #[.bool RV.b1,.slice A5 n5 c5,.bool RV.b2,.slice A6 n6 c6]) RV:=⟨_,_,rfl,gv1,gv2⟩
 have hWW:RawV N w (.agg #[.bool RW.b1,.slice A7 n7 c7,.bool RW.b2,.slice A8 n8 c8]) RW:=⟨_,_,rfl,gw1,gw2⟩
 have HL:Hid (RawL RV∧RawL RW):=⟨hl1,hl2⟩
 obtain⟨dv,hdv⟩:=hid_eq ((RV.l1.length+RV.l2.length:Nat):Int);obtain⟨dw,hdw⟩:=hid_eq ((RW.l1.length+RW.l2.length:Nat):Int);have hdv2:0≤dv∧dv≤70368744177400:=by rw [hdv.out]; have:=hl1.1; have:=hl1.2; omega
 have hdw2:0≤dw∧dw≤70368744177400:=by rw [hdw.out]; have:=hl2.1; have:=hl2.2; omega
 have hwr:IntKind.i64.wrap (dv+dw)=dv+dw:=IntWalk.i64_in _ (by omega)
 rcases hs with hs | ⟨hs,hs0 | ⟨hs0,hs1⟩⟩
 ·have HS:=Lib.hid hs;clear h hs gv1 gv2 gw1 gw2 hl1 hl2;go_enter Tryz.func7,Tryz.ntmps7;go_wp2_with (go_at_call 10; refine Hid.out ?_);refine boxesC2 ?_;intro W hE hsz B0 B1;refine (l34_known W).mono ?_;rintro e w1 ⟨rfl,e1⟩;replace hE:=hE.trans e1;replace B0:=e1.block B0;replace B1:=e1.block B1;have hsz1:=blk_lt B1;clear e1 hsz;obtain⟨a0,a1,a2,-⟩:=cells3 B0;obtain⟨b0,b1,b2,b3,b4,b5,b6,b7,b8⟩:=cells9 B1;go_upto_region 3 with (fail);refine regI [Mn.eq (.agg #[.slice A1 Z.m c1,.slice A2 Z.nl c2,.slice A3 Z.np c3]),Mn.eq (.bool false),Mn.eq (.bool (!false)),Mn.eq (.bool (!false)),Mn.eq undef,Mn.eq undef,Mn.eq undef,Mn.eq undef,Mn.eq (.bool (!(false && false))),Mn.eq (.bool (!(false && false))),Mn.eq undef,Mn.eq undef,Mn.eq undef,Mn.eq undef,Mn.eq undef,Mn.eq undef,Mn.eq undef,Mn.eq undef,Mn.eq (.bool true)] [some 18,some 19,some 20,some 21,some 22,some 23,some 24,some 25,some 26,some 27,some 28,some 29,some 30,some 31,some 32,some 33,some 34,some 35,some 36] [] [true,true,true,true,true,true,true,true,true,true,true,true,true,true,true,true,true,true,true] 0 (by kernel_rfl) ?_ ?_
  ·show ∀ i,i < 19→_
   iterate 19 refine fs ?_ ?_
   ·exact fz
   all_goals intro hl
   all_goals clear hl
   all_goals refine stp rfl ?_
   all_goals intro ac wi eI hB hA K hK
   have o3:=oOf (hB 3 (by kernel_rfl)) rfl;have cc0:=eI.cell a0;have cc1:=eI.cell a1;have cc2:=eI.cell a2
   rotate_left
   obtain⟨_,s18,rfl⟩:=hA 0 (by kernel_rfl) 18 rfl;clear hB hA
   ·go_simp;refine (l34_few (hI.ext (hE.trans eI)) 8 5 rfl rfl (by omega) (by omega)).mono ?_;rw [HS.out];rintro e wj ⟨rfl,ej⟩;go_wp2_with fail;exact hK.out _ _ ej rfl
   obtain⟨_,s19,rfl⟩:=hA 1 (by kernel_rfl) 19 rfl
   rotate_left
   obtain⟨_,s20,rfl⟩:=hA 2 (by kernel_rfl) 20 rfl
   rotate_left
   obtain⟨_,s21,rfl⟩:=hA 3 (by kernel_rfl) 21 rfl;clear hB hA;rw [if_neg (by simp [Region.wanted,yielded,s21,undef])];exact hK.out _ _ (Ext.refl _) rfl;obtain⟨_,s21,rfl⟩:=hA 3 (by kernel_rfl) 21 rfl;clear hB hA;rw [if_neg (by simp [Region.wanted,yielded,s21,undef])];exact hK.out _ _ (Ext.refl _) rfl;obtain⟨_,s21,rfl⟩:=hA 3 (by kernel_rfl) 21 rfl;clear hB hA;rw [if_neg (by simp [Region.wanted,yielded,s21,undef])];exact hK.out _ _ (Ext.refl _) rfl;obtain⟨_,s21,rfl⟩:=hA 3 (by kernel_rfl) 21 rfl;clear hB hA;rw [if_neg (by simp [Region.wanted,yielded,s21,undef])];exact hK.out _ _ (Ext.refl _) rfl;obtain⟨_,s21,rfl⟩:=hA 3 (by kernel_rfl) 21 rfl;obtain⟨_,s25,rfl⟩:=hA 7 (by kernel_rfl) 25 rfl
   rotate_left
   obtain⟨_,s26,rfl⟩:=hA 8 (by kernel_rfl) 26 rfl
   rotate_left
   obtain⟨_,s27,rfl⟩:=hA 9 (by kernel_rfl) 27 rfl;clear hB hA;rw [if_neg (by simp [Region.wanted,yielded,s27,undef])];exact hK.out _ _ (Ext.refl _) rfl;obtain⟨_,s27,rfl⟩:=hA 9 (by kernel_rfl) 27 rfl;clear hB hA;rw [if_neg (by simp [Region.wanted,yielded,s27,undef])];exact hK.out _ _ (Ext.refl _) rfl;obtain⟨_,s27,rfl⟩:=hA 9 (by kernel_rfl) 27 rfl;clear hB hA;rw [if_neg (by simp [Region.wanted,yielded,s27,undef])];exact hK.out _ _ (Ext.refl _) rfl;obtain⟨_,s27,rfl⟩:=hA 9 (by kernel_rfl) 27 rfl;clear hB hA;rw [if_neg (by simp [Region.wanted,yielded,s27,undef])];exact hK.out _ _ (Ext.refl _) rfl;obtain⟨_,s27,rfl⟩:=hA 9 (by kernel_rfl) 27 rfl;clear hB hA;rw [if_neg (by simp [Region.wanted,yielded,s27,undef])];exact hK.out _ _ (Ext.refl _) rfl;obtain⟨_,s27,rfl⟩:=hA 9 (by kernel_rfl) 27 rfl;clear hB hA;rw [if_neg (by simp [Region.wanted,yielded,s27,undef])];exact hK.out _ _ (Ext.refl _) rfl;obtain⟨_,s27,rfl⟩:=hA 9 (by kernel_rfl) 27 rfl;clear hB hA;rw [if_neg (by simp [Region.wanted,yielded,s27,undef])];exact hK.out _ _ (Ext.refl _) rfl;obtain⟨_,s27,rfl⟩:=hA 9 (by kernel_rfl) 27 rfl;clear hB hA;rw [if_neg (by simp [Region.wanted,yielded,s27,undef])];exact hK.out _ _ (Ext.refl _) rfl;obtain⟨_,s27,rfl⟩:=hA 9 (by kernel_rfl) 27 rfl;obtain⟨_,s35,rfl⟩:=hA 17 (by kernel_rfl) 35 rfl
   rotate_left
   all_goals clear hB hA
   all_goals go_simp
   all_goals exact hK.out _ _ (Ext.refl _) rfl
  intro vals wz eZ hJ;have J36:vals 18=_:=hJ 18 (by decide) (by decide);clear hJ;simp only [pr,Nat.reduceAdd,J36];clear J36;refine stepL_done (by kernel_rfl) ?_ _;replace hE:=hE.trans eZ;replace B0:=eZ.block B0;replace B1:=eZ.block B1;replace hsz1:=blk_lt B1;clear a0 a1 a2 b0 b1 b2 b3 b4 b5 b6 b7 b8;obtain⟨a0,a1,a2,-⟩:=cells3 B0;obtain⟨b0,b1,b2,b3,b4,b5,b6,b7,b8⟩:=cells9 B1;clear eZ;go_wp2;go_ret;exact⟨rfl,hE⟩
 ·have HS:=Lib.hid hs;have HS0:=Lib.hid hs0;clear h hs hs0 gv1 gv2 gw1 gw2 hl1 hl2;go_enter Tryz.func7,Tryz.ntmps7;go_wp2_with (go_at_call 10; refine Hid.out ?_);refine boxesC2 ?_;intro W hE hsz B0 B1;refine (l34_known W).mono ?_;rintro e w1 ⟨rfl,e1⟩;replace hE:=hE.trans e1;replace B0:=e1.block B0;replace B1:=e1.block B1;have hsz1:=blk_lt B1;clear e1 hsz;obtain⟨a0,a1,a2,-⟩:=cells3 B0;obtain⟨b0,b1,b2,b3,b4,b5,b6,b7,b8⟩:=cells9 B1;go_upto_region 3 with (fail);refine regI [Mn.eq (.agg #[.slice A1 Z.m c1,.slice A2 Z.nl c2,.slice A3 Z.np c3]),Mn.eq (.bool true),Mn.eq (.bool (!true)),Mn.eq (.bool (!true)),Mn.eq (.pointer (some ⟨w.heap.size+1,0,none⟩)),Mn.eq (.slice A4 k c4),Mn.eq (.bool false),Mn.eq (.bool (!false)),Mn.eq (.bool (!(true && false))),Mn.eq (.bool (!(true && false))),Mn.eq undef,Mn.eq undef,Mn.eq undef,Mn.eq undef,Mn.eq undef,Mn.eq undef,Mn.eq undef,Mn.eq undef,Mn.eq (.bool true)] [some 18,some 19,some 20,some 21,some 22,some 23,some 24,some 25,some 26,some 27,some 28,some 29,some 30,some 31,some 32,some 33,some 34,some 35,some 36] [] [true,true,true,true,true,true,true,true,true,true,true,true,true,true,true,true,true,true,true] 0 (by kernel_rfl) ?_ ?_
  ·show ∀ i,i < 19→_
   iterate 19 refine fs ?_ ?_
   ·exact fz
   all_goals intro hl
   all_goals clear hl
   all_goals refine stp rfl ?_
   all_goals intro ac wi eI hB hA K hK
   have o3:=oOf (hB 3 (by kernel_rfl)) rfl;have cc0:=eI.cell a0;have cc1:=eI.cell a1;have cc2:=eI.cell a2
   rotate_left
   obtain⟨_,s18,rfl⟩:=hA 0 (by kernel_rfl) 18 rfl;clear hB hA
   ·go_simp;refine (l34_few (hI.ext (hE.trans eI)) 8 5 rfl rfl (by omega) (by omega)).mono ?_;rw [HS.out];rintro e wj ⟨rfl,ej⟩;go_wp2_with fail;exact hK.out _ _ ej rfl
   obtain⟨_,s19,rfl⟩:=hA 1 (by kernel_rfl) 19 rfl
   rotate_left
   obtain⟨_,s20,rfl⟩:=hA 2 (by kernel_rfl) 20 rfl
   rotate_left
   obtain⟨_,s21,rfl⟩:=hA 3 (by kernel_rfl) 21 rfl;have o4:=oOf (hB 4 (by kernel_rfl)) rfl;rw [if_pos (by simp [Region.wanted,yielded,s21])]
   rotate_left
   obtain⟨_,s21,rfl⟩:=hA 3 (by kernel_rfl) 21 rfl;obtain⟨_,s22,rfl⟩:=hA 4 (by kernel_rfl) 22 rfl;rw [if_pos (by simp [Region.wanted,yielded,s21])];have cc0:=eI.cell b0
   rotate_left
   obtain⟨_,s21,rfl⟩:=hA 3 (by kernel_rfl) 21 rfl;obtain⟨_,s23,rfl⟩:=hA 5 (by kernel_rfl) 23 rfl;clear hB hA;rw [if_pos (by simp [Region.wanted,yielded,s21])]
   ·go_simp;refine (r2_short (hX.ext (hE.trans eI)) 8 rfl (by omega)).mono ?_;rw [HS0.out];rintro e wj ⟨rfl,ej⟩;go_wp2_with fail;exact hK.out _ _ ej rfl
   obtain⟨_,s21,rfl⟩:=hA 3 (by kernel_rfl) 21 rfl;obtain⟨_,s24,rfl⟩:=hA 6 (by kernel_rfl) 24 rfl;rw [if_pos (by simp [Region.wanted,yielded,s21])]
   rotate_left
   obtain⟨_,s21,rfl⟩:=hA 3 (by kernel_rfl) 21 rfl;obtain⟨_,s25,rfl⟩:=hA 7 (by kernel_rfl) 25 rfl
   rotate_left
   obtain⟨_,s26,rfl⟩:=hA 8 (by kernel_rfl) 26 rfl
   rotate_left
   obtain⟨_,s27,rfl⟩:=hA 9 (by kernel_rfl) 27 rfl;clear hB hA;rw [if_neg (by simp [Region.wanted,yielded,s27,undef])];exact hK.out _ _ (Ext.refl _) rfl;obtain⟨_,s27,rfl⟩:=hA 9 (by kernel_rfl) 27 rfl;clear hB hA;rw [if_neg (by simp [Region.wanted,yielded,s27,undef])];exact hK.out _ _ (Ext.refl _) rfl;obtain⟨_,s27,rfl⟩:=hA 9 (by kernel_rfl) 27 rfl;clear hB hA;rw [if_neg (by simp [Region.wanted,yielded,s27,undef])];exact hK.out _ _ (Ext.refl _) rfl;obtain⟨_,s27,rfl⟩:=hA 9 (by kernel_rfl) 27 rfl;clear hB hA;rw [if_neg (by simp [Region.wanted,yielded,s27,undef])];exact hK.out _ _ (Ext.refl _) rfl;obtain⟨_,s27,rfl⟩:=hA 9 (by kernel_rfl) 27 rfl;clear hB hA;rw [if_neg (by simp [Region.wanted,yielded,s27,undef])];exact hK.out _ _ (Ext.refl _) rfl;obtain⟨_,s27,rfl⟩:=hA 9 (by kernel_rfl) 27 rfl;clear hB hA;rw [if_neg (by simp [Region.wanted,yielded,s27,undef])];exact hK.out _ _ (Ext.refl _) rfl;obtain⟨_,s27,rfl⟩:=hA 9 (by kernel_rfl) 27 rfl;clear hB hA;rw [if_neg (by simp [Region.wanted,yielded,s27,undef])];exact hK.out _ _ (Ext.refl _) rfl;obtain⟨_,s27,rfl⟩:=hA 9 (by kernel_rfl) 27 rfl;clear hB hA;rw [if_neg (by simp [Region.wanted,yielded,s27,undef])];exact hK.out _ _ (Ext.refl _) rfl;obtain⟨_,s27,rfl⟩:=hA 9 (by kernel_rfl) 27 rfl;obtain⟨_,s35,rfl⟩:=hA 17 (by kernel_rfl) 35 rfl
   rotate_left
   all_goals clear hB hA
   all_goals go_simp
   all_goals exact hK.out _ _ (Ext.refl _) rfl
  intro vals wz eZ hJ;have J36:vals 18=_:=hJ 18 (by decide) (by decide);clear hJ;simp only [pr,Nat.reduceAdd,J36];clear J36;refine stepL_done (by kernel_rfl) ?_ _;replace hE:=hE.trans eZ;replace B0:=eZ.block B0;replace B1:=eZ.block B1;replace hsz1:=blk_lt B1;clear a0 a1 a2 b0 b1 b2 b3 b4 b5 b6 b7 b8;obtain⟨a0,a1,a2,-⟩:=cells3 B0;obtain⟨b0,b1,b2,b3,b4,b5,b6,b7,b8⟩:=cells9 B1;clear eZ;go_wp2;go_ret;exact⟨rfl,hE⟩
 ·have HS:=Lib.hid hs;have HS0:=Lib.hid hs0;have ht:decide (12 < dv+dw)=true:=by rw [decide_eq_true_eq,hdv.out,hdw.out]; unfold dgn at hs1; omega
  clear h hs hs0 hs1 gv1 gv2 gw1 gw2 hl1 hl2;go_enter Tryz.func7,Tryz.ntmps7;go_wp2_with (go_at_call 10; refine Hid.out ?_);refine boxesC2 ?_;intro W hE hsz B0 B1;refine (l34_known W).mono ?_;rintro e w1 ⟨rfl,e1⟩;replace hE:=hE.trans e1;replace B0:=e1.block B0;replace B1:=e1.block B1;have hsz1:=blk_lt B1;clear e1 hsz;obtain⟨a0,a1,a2,-⟩:=cells3 B0;obtain⟨b0,b1,b2,b3,b4,b5,b6,b7,b8⟩:=cells9 B1;go_upto_region 3 with (fail);refine regI [Mn.eq (.agg #[.slice A1 Z.m c1,.slice A2 Z.nl c2,.slice A3 Z.np c3]),Mn.eq (.bool true),Mn.eq (.bool (!true)),Mn.eq (.bool (!true)),Mn.eq (.pointer (some ⟨w.heap.size+1,0,none⟩)),Mn.eq (.slice A4 k c4),Mn.eq (.bool true),Mn.eq (.bool (!true)),Mn.eq (.bool (!(true && true))),Mn.eq (.bool (!(true && true))),Mn.eq (.pointer (some ⟨w.heap.size+1,1,none⟩)),Mn.eq (.agg #[.bool RV.b1,.slice A5 n5 c5,.bool RV.b2,.slice A6 n6 c6]),Mn.eq (.int .i64 dv),Mn.eq (.pointer (some ⟨w.heap.size+1,5,none⟩)),Mn.eq (.agg #[.bool RW.b1,.slice A7 n7 c7,.bool RW.b2,.slice A8 n8 c8]),Mn.eq (.int .i64 dw),Mn.eq (.int .i64 (dv+dw)),Mn.eq (.bool true),Mn.eq (.bool true)] [some 18,some 19,some 20,some 21,some 22,some 23,some 24,some 25,some 26,some 27,some 28,some 29,some 30,some 31,some 32,some 33,some 34,some 35,some 36] [] [true,true,true,true,true,true,true,true,true,true,true,true,true,true,true,true,true,true,true] 0 (by kernel_rfl) ?_ ?_
  ·show ∀ i,i < 19→_
   iterate 19 refine fs ?_ ?_
   ·exact fz
   all_goals intro hl
   all_goals clear hl
   all_goals refine stp rfl ?_
   all_goals intro ac wi eI hB hA K hK
   have o3:=oOf (hB 3 (by kernel_rfl)) rfl;have cc0:=eI.cell a0;have cc1:=eI.cell a1;have cc2:=eI.cell a2
   rotate_left
   obtain⟨_,s18,rfl⟩:=hA 0 (by kernel_rfl) 18 rfl;clear hB hA
   ·go_simp;refine (l34_few (hI.ext (hE.trans eI)) 8 5 rfl rfl (by omega) (by omega)).mono ?_;rw [HS.out];rintro e wj ⟨rfl,ej⟩;go_wp2_with fail;exact hK.out _ _ ej rfl
   obtain⟨_,s19,rfl⟩:=hA 1 (by kernel_rfl) 19 rfl
   rotate_left
   obtain⟨_,s20,rfl⟩:=hA 2 (by kernel_rfl) 20 rfl
   rotate_left
   obtain⟨_,s21,rfl⟩:=hA 3 (by kernel_rfl) 21 rfl;have o4:=oOf (hB 4 (by kernel_rfl)) rfl;rw [if_pos (by simp [Region.wanted,yielded,s21])]
   rotate_left
   obtain⟨_,s21,rfl⟩:=hA 3 (by kernel_rfl) 21 rfl;obtain⟨_,s22,rfl⟩:=hA 4 (by kernel_rfl) 22 rfl;rw [if_pos (by simp [Region.wanted,yielded,s21])];have cc0:=eI.cell b0
   rotate_left
   obtain⟨_,s21,rfl⟩:=hA 3 (by kernel_rfl) 21 rfl;obtain⟨_,s23,rfl⟩:=hA 5 (by kernel_rfl) 23 rfl;clear hB hA;rw [if_pos (by simp [Region.wanted,yielded,s21])]
   ·go_simp;refine (r2_short (hX.ext (hE.trans eI)) 8 rfl (by omega)).mono ?_;rw [HS0.out];rintro e wj ⟨rfl,ej⟩;go_wp2_with fail;exact hK.out _ _ ej rfl
   obtain⟨_,s21,rfl⟩:=hA 3 (by kernel_rfl) 21 rfl;obtain⟨_,s24,rfl⟩:=hA 6 (by kernel_rfl) 24 rfl;rw [if_pos (by simp [Region.wanted,yielded,s21])]
   rotate_left
   obtain⟨_,s21,rfl⟩:=hA 3 (by kernel_rfl) 21 rfl;obtain⟨_,s25,rfl⟩:=hA 7 (by kernel_rfl) 25 rfl
   rotate_left
   obtain⟨_,s26,rfl⟩:=hA 8 (by kernel_rfl) 26 rfl
   rotate_left
   obtain⟨_,s27,rfl⟩:=hA 9 (by kernel_rfl) 27 rfl;have o4:=oOf (hB 4 (by kernel_rfl)) rfl;rw [if_pos (by simp [Region.wanted,yielded,s27])]
   rotate_left
   obtain⟨_,s27,rfl⟩:=hA 9 (by kernel_rfl) 27 rfl;obtain⟨_,s28,rfl⟩:=hA 10 (by kernel_rfl) 28 rfl;rw [if_pos (by simp [Region.wanted,yielded,s27])];have cc0:=eI.cell b1;have cc1:=eI.cell b2;have cc2:=eI.cell b3;have cc3:=eI.cell b4
   rotate_left
   obtain⟨_,s27,rfl⟩:=hA 9 (by kernel_rfl) 27 rfl;obtain⟨_,s29,rfl⟩:=hA 11 (by kernel_rfl) 29 rfl;clear hB hA;rw [if_pos (by simp [Region.wanted,yielded,s27])]
   ·go_simp;refine (r2_digitsN (hVV.ext (hE.trans eI)) HL.out.1).mono ?_;rw [←hdv.out];rintro e wj ⟨rfl,ej⟩;go_wp2_with fail;exact hK.out _ _ ej rfl
   obtain⟨_,s27,rfl⟩:=hA 9 (by kernel_rfl) 27 rfl;have o4:=oOf (hB 4 (by kernel_rfl)) rfl;rw [if_pos (by simp [Region.wanted,yielded,s27])]
   rotate_left
   obtain⟨_,s27,rfl⟩:=hA 9 (by kernel_rfl) 27 rfl;obtain⟨_,s31,rfl⟩:=hA 13 (by kernel_rfl) 31 rfl;rw [if_pos (by simp [Region.wanted,yielded,s27])];have cc0:=eI.cell b5;have cc1:=eI.cell b6;have cc2:=eI.cell b7;have cc3:=eI.cell b8
   rotate_left
   obtain⟨_,s27,rfl⟩:=hA 9 (by kernel_rfl) 27 rfl;obtain⟨_,s32,rfl⟩:=hA 14 (by kernel_rfl) 32 rfl;clear hB hA;rw [if_pos (by simp [Region.wanted,yielded,s27])]
   ·go_simp;refine (r2_digitsN (hWW.ext (hE.trans eI)) HL.out.2).mono ?_;rw [←hdw.out];rintro e wj ⟨rfl,ej⟩;go_wp2_with fail;exact hK.out _ _ ej rfl
   obtain⟨_,s27,rfl⟩:=hA 9 (by kernel_rfl) 27 rfl;obtain⟨_,s30,rfl⟩:=hA 12 (by kernel_rfl) 30 rfl;obtain⟨_,s33,rfl⟩:=hA 15 (by kernel_rfl) 33 rfl;rw [if_pos (by simp [Region.wanted,yielded,s27])]
   rotate_left
   obtain⟨_,s27,rfl⟩:=hA 9 (by kernel_rfl) 27 rfl;obtain⟨_,s34,rfl⟩:=hA 16 (by kernel_rfl) 34 rfl;rw [if_pos (by simp [Region.wanted,yielded,s27])]
   rotate_left
   obtain⟨_,s27,rfl⟩:=hA 9 (by kernel_rfl) 27 rfl;obtain⟨_,s35,rfl⟩:=hA 17 (by kernel_rfl) 35 rfl
   rotate_left
   all_goals clear hB hA
   all_goals go_simp
   all_goals exact hK.out _ _ (Ext.refl _) rfl
  intro vals wz eZ hJ;have J36:vals 18=_:=hJ 18 (by decide) (by decide);clear hJ;simp only [pr,Nat.reduceAdd,J36];clear J36;refine stepL_done (by kernel_rfl) ?_ _;replace hE:=hE.trans eZ;replace B0:=eZ.block B0;replace B1:=eZ.block B1;replace hsz1:=blk_lt B1;clear a0 a1 a2 b0 b1 b2 b3 b4 b5 b6 b7 b8;obtain⟨a0,a1,a2,-⟩:=cells3 B0;obtain⟨b0,b1,b2,b3,b4,b5,b6,b7,b8⟩:=cells9 B1;clear eZ;go_wp2;go_ret;exact⟨rfl,hE⟩
def WAny (N:Nat) (iz:Int) (m n:Nat) (X:Nat→Nat→Rat) (y p:Nat→Rat) (w':World) (z:Int) (k:Nat) (A1:Option Addr) (c1:Nat) (A2:Option Addr) (c2:Nat) (A3:Option Addr) (c3:Nat):Prop :=
 (((iz < 0∨(m:Int)≤iz)∧z=2∧k=0∧A1=none∧c1=0∧A2=none∧c2=0∧A3=none∧c3=0)∨(m=1∧iz=0∧z=3∧k=0∧A1=none∧c1=0∧A2=none∧c2=0∧A3=none∧c3=0)) ∨
 (1 < m∧z=0∧k=m - 1∧∃ i:Nat,iz=(i:Int)∧i < m∧MtV N 0 w'.heap.size w' (.slice A1 (m - 1) c1) (m - 1) n (fun j=>X (skip i j))∧LsV N 0 w'.heap.size w' (.slice A2 (m - 1) c2) (m - 1) (fun j=>y (skip i j))∧LsV N 0 w'.heap.size w' (.slice A3 (m - 1) c3) (m - 1) (fun j=>p (skip i j)))
def RetWA (N:Nat) (iz:Int) (w:World) (m n:Nat) (X:Nat→Nat→Rat) (y p:Nat→Rat) (e:Ending) (w':World):Prop :=
 ∃ z k A1 c1 A2 c2 A3 c3,e=.returned (.tuple #[.agg #[.slice A1 k c1,.slice A2 k c2,.slice A3 k c3],.int .i64 z])∧Ext w w'∧Hid (WAny N iz m n X y p w' z k A1 c1 A2 c2 A3 c3)
theorem n_WithoutAny {N lo hi lo2 hi2:Nat} {w:World} {v1 v2 v3:Value} {m n:Nat} {X:Nat→Nat→Rat} {y p:Nat→Rat} (h1:MtV N lo hi w v1 m n X) (h2:LsV N lo2 hi2 w v2 m y) (h3:LsV N lo2 hi2 w v3 m p) (hm0:0 < m) (hm:m≤64) (hn0:0 < n) (hn:n≤24) (hp:∀ i,i < m→0 < p i)
  {k:Nat} (hkx:HtM m n k X) (hky:HtL m k y) (hkp:HtL m k p) (hK:k≤29000000000) (iz:Int) :
  Calls Tryz.prog 39 #[.agg #[v1,v2,v3],.int .i64 iz] w (RetWA N iz w m n X y p):=by
 by_cases h:iz < 0∨(m:Int)≤iz
 ·refine (n_Without_out h1 h2 h3 hm0 hm hn0 hn hp hkx hky hkp hK iz h).mono ?_;rintro e w' ⟨rfl,e1⟩;exact⟨2,0,none,0,none,0,none,0,rfl,e1,.inl (.inl ⟨h,rfl,rfl,rfl,rfl,rfl,rfl,rfl,rfl⟩)⟩
 ·by_cases h9:m=1
  ·subst h9;obtain rfl:iz=0:=by omega
   refine (n_Without_one h1 h2 h3 hn0 hn hp hkx hky hkp hK).mono ?_;rintro e w' ⟨rfl,e1⟩;exact⟨3,0,none,0,none,0,none,0,rfl,e1,.inl (.inr ⟨rfl,rfl,rfl,rfl,rfl,rfl,rfl,rfl,rfl,rfl⟩)⟩
  ·refine (n_Without h1 h2 h3 (by omega) hm hn0 hn hp hkx hky hkp hK (i:=iz.toNat) (by omega) (by omega)).mono ?_;rintro e w' ⟨v,rfl,hV,e1⟩;obtain⟨A1,c1,A2,c2,A3,c3,rfl,g1,g2,g3⟩:=hV.form;exact⟨0,m - 1,A1,c1,A2,c2,A3,c3,rfl,e1,.inr ⟨by omega,rfl,rfl,iz.toNat,by omega,by omega,g1,g2,g3⟩⟩
def AAny (N m n:Nat) (X:Nat→Nat→Rat) (y p x:Nat→Rat) (V Q:Rat) (ac:Int) (w':World) (k:Nat) (A1:Option Addr) (c1:Nat) (A2:Option Addr) (c2:Nat) (A3:Option Addr) (c3:Nat):Prop :=
 (ac≠0∧k=0∧A1=none∧c1=0∧A2=none∧c2=0∧A3=none∧c3=0) ∨
 (ac=0∧k=m+1∧MtV N 0 w'.heap.size w' (.slice A1 (m+1) c1) (m+1) n (updM X m x)∧LsV N 0 w'.heap.size w' (.slice A2 (m+1) c2) (m+1) (upd y m V)∧LsV N 0 w'.heap.size w' (.slice A3 (m+1) c3) (m+1) (upd p m Q))
def RetAA (N:Nat) (w:World) (m n:Nat) (X:Nat→Nat→Rat) (y p x:Nat→Rat) (V Q:Rat) (ac:Int) (e:Ending) (w':World):Prop :=
 ∃ k A1 c1 A2 c2 A3 c3,e=.returned (.tuple #[.agg #[.slice A1 k c1,.slice A2 k c2,.slice A3 k c3],.int .i64 ac])∧Ext w w'∧Hid (AAny N m n X y p x V Q ac w' k A1 c1 A2 c2 A3 c3)
theorem add_zero_ {n k:Nat} {R:Nat→Raw} {RV RW:Raw} (h:addCode n k R RV RW=0):(∀ i,i < k→okR (R i)=true)∧okR RV=true∧okR RW=true∧k=n∧0 < ratOf RW:=by
 unfold addCode at h
 by_cases h1:(allB k (fun i=>okR (R i)) && (okR RV && okR RW))=false
 ·rw [if_pos h1] at h; exact absurd h (by decide)
 ·rw [if_neg h1] at h
  by_cases h2:k≠n
  ·rw [if_pos h2] at h; exact absurd h (by decide)
  ·rw [if_neg h2] at h
   by_cases h3:ratOf RW≤0
   ·rw [if_pos h3] at h; exact absurd h (by decide)
   ·have h4:(allB k (fun i=>okR (R i)) && (okR RV && okR RW))=true:=by simpa using h1
    simp only [Bool.and_eq_true] at h4;exact⟨allB_true.1 h4.1,h4.2.1,h4.2.2,by omega,Rat.not_le.1 h3⟩
theorem n_AddAny {N lo hi lo' hi':Nat} {w:World} {v1 v2 v3:Value} {A4 A5 A6 A7 A8:Option Addr} {c4 n5 c5 n6 c6 n7 c7 n8 c8 kk m n:Nat} {X:Nat→Nat→Rat} {y p:Nat→Rat} {R:Nat→Raw} {RV RW:Raw} (h1:MtV N lo hi w v1 m n X) (h2:LsV N lo hi w v2 m y) (h3:LsV N lo hi w v3 m p) (hm0:0 < m) (hm:m < 64) (hn0:0 < n) (hn:n≤24) (hp:∀ i,i < m→0 < p i)
  (hx:LsR N lo' hi' w (.slice A4 kk c4) kk R) (hv:RawV N w (.agg #[.bool RV.b1,.slice A5 n5 c5,.bool RV.b2,.slice A6 n6 c6]) RV) (hw:RawV N w (.agg #[.bool RW.b1,.slice A7 n7 c7,.bool RW.b2,.slice A8 n8 c8]) RW) (hkx:HtM m n 17 X) (hky:HtL m 17 y) (hkp:HtL m 17 p)
  (hR:∀ i,i < kk→briefB (R i)=true) (hd:dgn RV+dgn RW≤12) :
  Calls Tryz.prog 38 #[.agg #[v1,v2,v3],.slice A4 kk c4,.agg #[.bool RV.b1,.slice A5 n5 c5,.bool RV.b2,.slice A6 n6 c6],.agg #[.bool RW.b1,.slice A7 n7 c7,.bool RW.b2,.slice A8 n8 c8]] w (RetAA N w m n X y p (fun i=>ratOf (R i)) (ratOf RV) (ratOf RW) (addCode n kk R RV RW)):=by
 have hsv:RawSz RV:=by unfold RawSz; unfold dgn at hd; omega
 have hsw:RawSz RW:=by unfold RawSz; unfold dgn at hd; omega
 by_cases hA:addCode n kk R RV RW=0
 ·obtain⟨o1,o2,o3,rfl,o5⟩:=add_zero_ hA;have q1:LsV N lo' hi' w (.slice A4 kk c4) kk (fun i=>ratOf (R i)):=LsR.congr hx (fun i hi=>raw_ratOf (o1 i hi))
  have q2:RatV N w (.agg #[.bool RV.b1,.slice A5 n5 c5,.bool RV.b2,.slice A6 n6 c6]) (ratOf RV):=by
   show RawV N w _ (raw (ratOf RV)); rw [←raw_ratOf o2]; exact hv
  have q3:RatV N w (.agg #[.bool RW.b1,.slice A7 n7 c7,.bool RW.b2,.slice A8 n8 c8]) (ratOf RW):=by
   show RawV N w _ (raw (ratOf RW)); rw [←raw_ratOf o3]; exact hw
  have q4:HtL kk 360 (fun i=>ratOf (R i)):=fun i hi=>(brief_ht (by rw [←raw_ratOf (o1 i hi)]; exact hR i hi)).mono (by omega)
  refine (n_Add h1 h2 h3 hm0 hm hn0 hn hp q1 q2 q3 o5 (k:=360) (fun i hi j hj=>(hkx i hi j hj).mono (by omega)) (fun i hi=>(hky i hi).mono (by omega)) (fun i hi=>(hkp i hi).mono (by omega)) q4 (dgn_ht12 o2 (by omega)) (dgn_ht12 o3 (by omega)) (by omega)).mono ?_;rintro e w' ⟨A1,c1,A2,c2,A3,c3,rfl,g1,g2,g3,e1⟩;exact⟨m+1,A1,c1,A2,c2,A3,c3,by rw [hA],e1,.inr ⟨hA,rfl,g1,g2,g3⟩⟩
 ·refine (n_Add_no (n:=n) (linV_of h1 h2 h3) (linSz_of hkx hky hkp (by omega)) (fun i hi=>(hkp i hi).sz (by omega)) (codeOf_lin hm0 (by omega) hn0 hn hp) rfl hx hv hw (fun i hi=>(brief_raw (hR i hi)).1) ⟨hsv,hsw⟩ (fun h=>(dgn_ht12 h (by omega)).sz (by omega)) hA).mono ?_;rintro e w' ⟨rfl,e1⟩;exact⟨0,none,0,none,0,none,0,rfl,e1,.inl ⟨hA,rfl,rfl,rfl,rfl,rfl,rfl,rfl⟩⟩
end Go.Proofs.YtccepmpebioeiaaGreat
