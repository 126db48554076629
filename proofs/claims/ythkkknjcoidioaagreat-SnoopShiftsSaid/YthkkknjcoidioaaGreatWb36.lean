import Derived.Test.YthkkknjcoidioaaGreatWb34
import Derived.Test.YthkkknjcoidioaaGreatWb28
import Derived.Test.YthkkknjcoidioaaGreatWb32
import Derived.Test.YthkkknjcoidioaaGreatWb35
import Derived.Test.YthkkknjcoidioaaGreatWb07
import Derived.Shelf.Bits.Mul64
import Derived.Laws.IdiomCopy
import Derived.Test.YthkkknjcoidioaaGreatWb26
import Derived.Deep.RegionLaw
import Derived.Lib.SliceRun
import Derived.Test.YthkkknjcoidioaaGreatWb24
set_option linter.all false
set_option maxHeartbeats 8000000
namespace Go.Proofs.YthkkknjcoidioaaGreat
open Go.RowKit
def linOf (m n:Nat) (X:Nat→Nat→Rat) (y p:Nat→Rat):Lin:=⟨m,fun _=>n,fun i j=>raw (X i j),m,fun i=>raw (y i),m,fun i=>raw (p i)⟩
theorem num_pos {q:Rat} (h:0 < q):0 < q.num:=by
 rcases Int.lt_trichotomy q.num 0 with h1 | h1 | h1
 ·exact absurd h (by rw [Rat.lt_iff]; simp; omega)
 ·rw [Rat.num_eq_zero.1 h1] at h; exact absurd h (Rat.lt_irrefl)
 ·exact h1
theorem codeOf_lin {m n:Nat} {X:Nat→Nat→Rat} {y p:Nat→Rat} (hm0:0 < m) (hm:m≤64) (hn0:0 < n) (hn:n≤24) (hp:∀ i,i < m→0 < p i):codeOf (linOf m n X y p)=0:=by
 have h1:canonB (linOf m n X y p)=true:=by
  unfold canonB canonA linOf;simp only [Bool.and_eq_true];exact⟨allB_true.2 (fun i _=>allB_true.2 (fun j _=>okR_raw _)),allB_true.2 (fun i _=>okR_raw _),allB_true.2 (fun i _=>okR_raw _)⟩
 have h2:sizeB (linOf m n X y p)=true:=by
  unfold sizeB linOf;simp only [Bool.and_eq_true,decide_eq_true_eq]; omega
 have h3:fitB (linOf m n X y p)=true:=by
  unfold fitB evenB linOf;simp only [Bool.and_eq_true,decide_eq_true_eq];exact⟨allB_true.2 (fun i _=>by simp),trivial,trivial⟩
 have h4:allB m (fun i=>posB (raw (p i)))=true:=allB_true.2 (fun i hi=>by
  rw [posB_raw,decide_eq_true_eq]; exact num_pos (hp i hi))
 unfold codeOf;rw [if_neg (by rw [h1]; simp),if_neg (by rw [h2]; simp),if_neg (by rw [h3]; simp)]
 show (if allB m (fun i=>posB (raw (p i)))=false then (2:Int) else 0)=0
 rw [if_neg (by rw [h4]; simp)]
theorem linV_of {N lo hi lo2 hi2 lo3 hi3:Nat} {w:World} {v1 v2 v3:Value} {m n:Nat} {X:Nat→Nat→Rat} {y p:Nat→Rat} (h1:MtV N lo hi w v1 m n X) (h2:LsV N lo2 hi2 w v2 m y) (h3:LsV N lo3 hi3 w v3 m p) :
  LinV N 0 w.heap.size w (.agg #[v1,v2,v3]) (linOf m n X y p) :=
 ⟨v1,v2,v3,rfl,MtR.wide h1 (Nat.zero_le _) h1.2.1 (Nat.le_refl _),LsR.wide h2 (Nat.zero_le _) h2.2.1 (Nat.le_refl _),LsR.wide h3 (Nat.zero_le _) h3.2.1 (Nat.le_refl _)⟩
theorem linSz_of {m n k:Nat} {X:Nat→Nat→Rat} {y p:Nat→Rat} (hkx:HtM m n k X) (hky:HtL m k y) (hkp:HtL m k p) (hk:k≤29000000000):LinSz (linOf m n X y p) :=
 ⟨fun i hi j hj=>((hkx i hi j hj).sz hk).raw,fun i hi=>((hky i hi).sz hk).raw,fun i hi=>((hkp i hi).sz hk).raw⟩
def RetNormal (N:Nat) (w:World) (n:Nat) (M:Nat→Nat→Rat) (r:Nat→Rat) (e:Ending) (w':World):Prop :=
 ∃ A c A' c',e=.returned (.tuple #[.slice A n c,.slice A' n c',.int .i64 0])∧MtV N w.heap.size w'.heap.size w' (.slice A n c) n n M∧LsV N w.heap.size w'.heap.size w' (.slice A' n c') n r∧Ext w w'
set_option maxRecDepth 100000 in
theorem n_normal {N lo hi lo2 hi2 lo3 hi3:Nat} {w:World} {v1 v2 v3:Value} {m n:Nat} {X:Nat→Nat→Rat} {y p:Nat→Rat} (h1:MtV N lo hi w v1 m n X) (h2:LsV N lo2 hi2 w v2 m y) (h3:LsV N lo3 hi3 w v3 m p) (hm0:0 < m) (hm:m≤64) (hn0:0 < n) (hn:n≤24) (hp:∀ i,i < m→0 < p i)
  {k:Nat} (hkx:HtM m n k X) (hky:HtL m k y) (hkp:HtL m k p) (hK:m*(3*k+1)+3*k+2≤29000000000) :
  Calls Tryz.prog 98 #[.agg #[v1,v2,v3]] w (RetNormal N w n (nmat X p m) (nrhs X y p m)):=by
 have HX:=Lib.hid hkx;have HY:=Lib.hid hky;have HP:=Lib.hid hkp;have HK:=Lib.hid hK;have HC:Hid (codeOf (linOf m n X y p)=0):=codeOf_lin hm0 hm hn0 hn hp;obtain⟨Rf,hRf⟩:=hid_eq (RetNormal N w n (nmat X p m) (nrhs X y p m));rw [←hRf.out];have hN:=h1.le;obtain⟨A1,c1,rfl,hmc,hcm⟩:=h1.form;obtain⟨A2,c2,rfl,hmc2,hcm2⟩:=h2.form;obtain⟨A3,c3,rfl,hmc3,hcm3⟩:=h3.form;have hI1:=h1;have hI2:=h2;have hI3:=h3;clear h1 h2 h3 hkx hky hkp hK hp;go_enter Tryz.func98,Tryz.ntmps98;go_upto_region 1 with (fail);refine boxes1 ?_;intro W hE hsz B0;obtain⟨a0,a1,a2,-⟩:=cells3 B0;go_wp2_with (go_at_call 117; refine Hid.out ?_);refine (n_check (linV_of (hI1.ext hE) (hI2.ext hE) (hI3.ext hE)) (linSz_of HX.out HY.out HP.out (by have:=HK.out; omega)) (fun i hi=>(HP.out i hi).sz (by have:=HK.out; omega))).mono ?_;rintro e w1 ⟨rfl,e1⟩;rw [HC.out];replace hE:=hE.trans e1;replace B0:=e1.block B0;clear a0 a1 a2;obtain⟨a0,a1,a2,-⟩:=cells3 B0;go_wp2_with (go_at_call 133; refine Hid.out ?_);refine (n_built (lo:=0) (hi:=w1.heap.size) (MtR.wide (hI1.ext hE) (Nat.zero_le _) (hI1.ext hE).2.1 (Nat.le_refl _)) (LsR.wide (hI2.ext hE) (Nat.zero_le _) (hI2.ext hE).2.1 (Nat.le_refl _)) (LsR.wide (hI3.ext hE) (Nat.zero_le _) (hI3.ext hE).2.1 (Nat.le_refl _)) hm0 (by omega) hn0 (by omega) HX.out HY.out HP.out HK.out).mono ?_;rintro e w2 ⟨h,cap,g,rfl,hM,hr,e2⟩;have hs2:=hE.size;replace hE:=hE.trans e2;clear a0 a1 a2;go_upto_region 5 with (fail)
 refine boxes1 ?_;intro w3 e3 hsz3 B3;replace hE:=hE.trans e3;replace hM:=hM.ext e3;replace hr:=hr.ext e3;obtain⟨d0,d1,-⟩:=cells2 B3;clear B3 e3;have eC:=(Ext.refl w3).drew;refine region_late (fun w'=>w'.cell? ⟨w2.heap.size,0,none⟩=some (.slice (some ⟨h,0,none⟩) n cap)∧w'.cell? ⟨w2.heap.size,1,none⟩=some (.slice (some ⟨g,0,none⟩) n n)) [] (by kernel_rfl) (by exact⟨eC.cell d0,eC.cell d1⟩) (fun hHeld=>?_);refine sP 0 (h:=?_);try simp only [nr]
 refine sT 1 (h:=?_);try simp only [nr]
 refine sP 2 (h:=?_);try simp only [nr]
 refine sT 3 (h:=?_);try simp only [nr]
 refine sP 4 (h:=?_);try simp only [nr]
 refine sP 5 (h:=?_);try simp only [nr]
 refine sP 6 (h:=?_);try simp only [nr]
 refine stepL_done (by kernel_rfl) ?_ _;clear hHeld;go_wp2;go_ret3;rw [hRf.out];exact⟨_,_,_,_,rfl,MtR.wide (hM.ext eC) hs2 (by show w2.heap.size≤w3.heap.size; omega) (Nat.le_refl _),LsR.wide (hr.ext eC) hs2 (by show w2.heap.size≤w3.heap.size; omega) (Nat.le_refl _),hE.trans eC⟩
def Mn.own (N lo m n:Nat) (X:Nat→Nat→Rat):Mn:=⟨fun v w=>∃ h cap β κ hi,v=.slice (some ⟨h,0,none⟩) m cap∧cap≤maxLen∧OwnM N lo hi w h cap m n β κ X,fun e h=>by
  obtain⟨h,cap,β,κ,hi,h0,h1,h2⟩:=h
  exact⟨h,cap,β,κ,hi,h0,h1,h2.ext e⟩⟩
theorem three_lists {N n:Nat} {w:World} {g:Nat} {s t u:Value} {x y z:Nat→Rat} (h:w.heap[g]?=some (.cells #[s,t,u] 24 (0,0))) (h1:LsV N 0 w.heap.size w s n x) (h2:LsV N 0 w.heap.size w t n y) (h3:LsV N 0 w.heap.size w u n z) :
  MtV N 0 w.heap.size w (.slice (some ⟨g,0,none⟩) 3 3) 3 n (fun i=>if i=0 then x else if i=1 then y else z):=by
 have hl:=blk_lt h;obtain⟨c0,c1,c2,-⟩:=cells3 h;refine⟨h1.le,Nat.le_refl _,_,3,rfl,Nat.le_refl _,by unfold maxLen; omega,fun _=>⟨g,0,rfl,Nat.zero_le _,hl,fun i hi=>?_⟩⟩;have hi':i=0∨i=1∨i=2:=by omega
 rcases hi' with rfl | rfl | rfl
 ·exact⟨s,c0,h1⟩
 ·exact⟨t,c1,h2⟩
 ·exact⟨u,c2,h3⟩
theorem LsV.all {N lo hi:Nat} {w:World} {v:Value} {n:Nat} {x:Nat→Rat} (h:LsV N lo hi w v n x):LsV N 0 w.heap.size w v n x:=LsR.wide h (Nat.zero_le _) h.2.1 (Nat.le_refl _)
theorem MtV.all {N lo hi:Nat} {w:World} {v:Value} {m n:Nat} {X:Nat→Nat→Rat} (h:MtV N lo hi w v m n X):MtV N 0 w.heap.size w v m n X:=MtR.wide h (Nat.zero_le _) h.2.1 (Nat.le_refl _)
def ex3f (a b c:Int) (i:Nat):Int:=if i=0 then a else if i=1 then b else c
def nilRat:Value:=.agg #[.bool false,.slice none 0 0,.bool false,.slice none 0 0]
theorem one_row {N lo hi:Nat} {w:World} {s1:Value} {n1:Nat} {R1:Nat→Raw} (h1:LsR N lo hi w s1 n1 R1) {g:Nat} (hg:w.heap[g]?=some (.cells #[s1] 24 (0,0))) :
  MtR N 0 w.heap.size w (.slice (some ⟨g,0,none⟩) 1 1) 1 (fun _=>n1) (fun _=>R1):=by
 have hl:=blk_lt hg;obtain⟨c0,-⟩:=cells1 hg;refine⟨h1.le,Nat.le_refl _,_,1,rfl,Nat.le_refl _,by unfold maxLen; omega,fun _=>⟨g,0,rfl,Nat.zero_le _,hl,fun i hi=>?_⟩⟩;obtain rfl:i=0:=by omega
 exact⟨s1,c0,h1.wide (Nat.zero_le _) (by have:=h1.2.1; omega) (Nat.le_refl _)⟩
theorem allB_one (f:Nat→Bool):allB 1 f=f 0:=by unfold allB; simp [List.range_succ]
def givCode (Z:Lin) (n:Nat) (R:Nat→Raw):Int:=if codeOf Z≠0 then codeOf Z else if allB n (fun i=>okR (R i))=false then 1 else if n≠Z.L 0 then 4 else 0
theorem codeOf_m {Z:Lin} (h:codeOf Z=0):1≤Z.m:=by
 unfold codeOf at h
 by_cases h1:canonB Z=false
 ·rw [if_pos h1] at h; exact absurd h (by decide)
 ·by_cases h2:sizeB Z=false
  ·rw [if_neg h1,if_pos h2] at h; exact absurd h (by decide)
  ·have h3:sizeB Z=true:=by simpa using h2
   unfold sizeB at h3;simp only [Bool.and_eq_true,decide_eq_true_eq] at h3;omega
theorem n_given {N lo hi lo' hi':Nat} {w:World} {v u:Value} {Z:Lin} {n:Nat} {R:Nat→Raw} (h:LinV N lo hi w v Z) (hx:LsR N lo' hi' w u n R) (hs:LinSz Z) (hp:∀ i,i < Z.np→RawS (Z.p i)) (hsx:∀ i,i < n→RawSz (R i)) :
  Calls Tryz.prog 143 #[v,u] w (RetV w (.int .i64 (givCode Z n R))):=by
 have HS:=Lib.hid hs;have HP:=Lib.hid hp;have HSX:=Lib.hid hsx;obtain⟨g,hg⟩:=hid_eq (givCode Z n R);obtain⟨r,hr⟩:=hid_eq (codeOf Z);rw [←hg.out];have hI:=h;have hIx:=hx;obtain⟨A1,c1,A2,c2,A3,c3,rfl,h1,h2,h3,hm,hnl,hnp⟩:=h.parts;obtain⟨A4,c4,rfl,hnc,hcm4⟩:=hx.form;unfold maxLen at hcm4;have h1d:=h1;clear h hx h2 h3 hs hp hsx h1;go_enter Tryz.func143,Tryz.ntmps143;go_upto_region 1 with (fail);refine boxes1 ?_;intro W hE hsz B0;obtain⟨a0,a1,a2,-⟩:=cells3 B0;go_wp2_with (go_at_call 117; refine Hid.out ?_);refine (n_check (hI.ext hE) HS.out HP.out).mono ?_;rintro e w1 ⟨rfl,e1⟩;rw [←hr.out];replace hE:=hE.trans e1;replace B0:=e1.block B0;clear a0 a1 a2 e1
 by_cases hr0:r=0
 case neg =>
  have hr1:(r == 0)=false:=by simpa using hr0
  have hr2:(r != 0)=true:=by simpa using hr0
  have HF:Hid (g=r):=by rw [Hid,hg.out]; unfold givCode; rw [←hr.out,if_pos hr0]
  clear hr0 hg hr;go_wp2;go_ret;exact⟨ret_int HF.out.symm,hE⟩
 case pos =>
 have HM:Hid (1≤Z.m):=codeOf_m (hr.out.symm.trans hr0);have HG:Hid (g=if allB n (fun i=>okR (R i))=false then 1 else if n≠Z.L 0 then 4 else 0):=by rw [Hid,hg.out]; unfold givCode; rw [←hr.out,if_neg (by simpa using hr0)]
 clear hg hr;subst hr0;go_wp2_with (go_at_call 157; refine Hid.out ?_);refine boxesC1 ?_;intro W2 e2 hsz2 B2;replace hE:=hE.trans e2;replace B0:=e2.block B0;refine (n_canonical (one_row (hIx.ext hE) B2) (fun i hi j hj=>HSX.out j hj)).mono ?_;rw [allB_one];obtain⟨s,hs⟩:=hid_eq (allB n (fun i=>okR (R i)));rintro e w3 ⟨rfl,e3⟩;rw [←hs.out];replace hE:=hE.trans e3;replace B0:=e3.block B0;obtain⟨a0,a1,a2,-⟩:=cells3 B0;clear B2 e2 e3 hsz2;cases hs':s with
 | false =>
  subst hs';have HF:Hid (g=1):=by rw [Hid,HG.out,←hs.out]; rfl
  go_wp2;go_ret;exact⟨ret_int HF.out.symm,hE⟩
 | true =>
 subst hs';have HG2:Hid (g=if n≠Z.L 0 then 4 else 0):=by rw [Hid,HG.out,←hs.out]; rfl
 have hm1:=HM.out;obtain⟨b,off,rfl,-,-,hx⟩:=(h1d.ext hE).addr (by omega);obtain⟨AL,cL,p0,hLc,hcL,-⟩:=hx 0 (by omega);rw [Nat.add_zero] at p0;obtain⟨L0,hL0⟩:=hid_eq (Z.L 0);rw [←hL0.out] at p0 hLc;unfold maxLen at hcL;clear hx HG h1d
 by_cases hn:n=L0
 ·have HF:Hid (g=0):=by rw [Hid,HG2.out,←hL0.out,if_neg (by simpa using hn)]
  have t1:((n:Int) != (L0:Int))=false:=by rw [hn]; simp
  clear hn;go_wp2;go_ret;exact⟨ret_int HF.out.symm,hE⟩
 ·have HF:Hid (g=4):=by rw [Hid,HG2.out,←hL0.out,if_pos hn]
  have t1:((n:Int) != (L0:Int))=true:=by rw [bne_iff_ne]; omega
  clear hn;go_wp2;go_ret;exact⟨ret_int HF.out.symm,hE⟩
theorem giv_good {m n:Nat} {X:Nat→Nat→Rat} {y p x:Nat→Rat} (hm0:0 < m) (hm:m≤64) (hn0:0 < n) (hn:n≤24) (hp:∀ i,i < m→0 < p i):givCode (linOf m n X y p) n (fun i=>raw (x i))=0:=by
 unfold givCode;rw [codeOf_lin hm0 hm hn0 hn hp,if_neg (by simp),if_neg (by rw [allB_true.2 (fun i _=>okR_raw _)]; simp),if_neg (by show ¬ n≠n; simp)]
set_option maxRecDepth 100000 in
theorem n_residuals {N lo hi lo2 hi2 lo' hi':Nat} {w:World} {v1 v2 v3 v4:Value} {m n:Nat} {X:Nat→Nat→Rat} {y p x:Nat→Rat} (h1:MtV N lo hi w v1 m n X) (h2:LsV N lo2 hi2 w v2 m y) (h3:LsV N lo2 hi2 w v3 m p) (h4:LsV N lo' hi' w v4 n x) (hm:m < 1000000) (hn0:0 < n) (hn:n < 1000000)
  {k kx:Nat} (hkX:HtM m n k X) (hky:HtL m k y) (hkx:HtL n kx x) (hK:n*(k+kx+1)+1+k≤29000000000) :
  Calls Tryz.prog 144 #[.agg #[v1,v2,v3],v4] w (RetL N w m (fun i=>av n X x i - y i)):=by
 have HX:=Lib.hid hkX;have HXX:=Lib.hid hkx;have HK:Hid (n*(k+kx+1)+1≤29000000000):=by rw [Hid]; omega
 have HSS:Hid (∀ i,i < m→Sz (av n X x i)∧Sz (y i)):=fun i hi =>
  ⟨(sum_ht (n:=n) (k:=k+kx) (K:=n*(k+kx+1)+1) (fun c hc=>(hkX i hi c hc).mul (hkx c hc)) (Nat.le_refl _) (Nat.le_refl _)).sz (by omega),(hky i hi).sz (by omega)⟩
 obtain⟨Rf,hRf⟩:=hid_eq (RetL N w m (fun i=>av n X x i - y i));rw [←hRf.out];have hN:=h1.le;obtain⟨A1,c1,rfl,hmc,hcm⟩:=h1.form;obtain⟨A2,c2,rfl,hmc2,hcm2⟩:=h2.form;obtain⟨A3,c3,rfl,hmc3,hcm3⟩:=h3.form;obtain⟨A4,c4,rfl,hmc4,hcm4⟩:=h4.form;unfold maxLen at hcm4;have hI1:=h1;have hI2:=h2;have hI4:=h4;clear h1 h2 h3 h4 hkX hky hkx hK;go_enter Tryz.func144,Tryz.ntmps144;go_upto_region 2 with (fail);refine boxes1 ?_;intro W hE hsz B0;obtain⟨a0,a1,a2,-⟩:=cells3 B0;have hs0:=hE.size;go_wp2;clear a0 a1 a2
 go_loopw [5,13] (fun v i wr=>∃ k:Nat,k≤m∧i=.int .i64 k∧Ext W wr∧∃ A c,v=.slice A k c∧Grow N W.heap.size wr (.slice A k c) k (fun i=>av n X x i - y i)) (fun _ i _=>m - (intOf i).toNat)
 case atStart=>exact⟨0,Nat.zero_le _,rfl,Ext.refl W,_,_,rfl,Grow.nil (by omega) (Nat.le_refl _) _⟩
 case round =>
  obtain⟨i,hi',rfl,hEr,A6,c6,rfl,hG⟩:=hrel;have hsr:=hEr.size
  by_cases hlt:i < m
  ·obtain⟨b,off,rfl,-,-,hx⟩:=(hI1.ext (hE.trans hEr)).addr (by omega);obtain⟨A7,c7,o0,-,hc7,hrow⟩:=hx i hlt;unfold maxLen at hc7;have HXI:Hid (HtL n k (X i)):=HX.out i hlt;go_wp2_with (go_at_call 105; refine Hid.out ?_);refine (f_dot hrow (hI4.ext (hE.trans hEr)) HXI.out HXX.out HK.out).mono ?_;rintro e w4 ⟨v5,rfl,h5,e4⟩;replace h5:RatV N w4 v5 (av n X x i):=h5;obtain⟨n1,A11,k11,c11,A12,k12,c12,rfl,hb1,g1,g2⟩:=RatV.parts h5;replace hEr:=hEr.trans e4;replace hG:=hG.ext e4;clear o0 hx hrow h5 e4 HXI;obtain⟨b2,off2,rfl,-,-,hx2⟩:=(hI2.ext (hE.trans hEr)).addr (by omega);obtain⟨n2,A9,k9,c9,A10,k10,c10,q0,q1,q2,q3,hb2,g3,g4⟩:=(hx2 i hlt).open;clear hx2;go_upto_region 6 with (fail);refine boxes1 ?_;intro w5 e5 hsz5 B5;obtain⟨t0,t1,t2,t3,-⟩:=cells4 B5;obtain⟨a0,a1,a2,-⟩:=cells3 (e5.block (hEr.block B0));replace q0:=e5.cell q0;replace q1:=e5.cell q1;replace q2:=e5.cell q2;replace q3:=e5.cell q3;replace g1:=g1.ext e5;replace g2:=g2.ext e5;replace g3:=g3.ext e5;replace g4:=g4.ext e5;replace hG:=hG.ext e5;have hs4:=hEr.size;have hEw:=hEr.trans e5;obtain⟨gz,hgz⟩:∃ gz,gz=w4.heap.size:=⟨_,rfl⟩
   rw [←hgz] at t0 t1 t2 t3 hsz5 hs4 ⊢;clear B5 e5 a0 a2 hgz;have eC:=(Ext.refl w5).drew;refine region_late (fun w'=>w'.cell? ⟨gz,0,none⟩=some (.bool n1)∧w'.cell? ⟨gz,1,none⟩=some (.slice A11 k11 c11)∧w'.cell? ⟨gz,2,none⟩=some (.bool false)∧w'.cell? ⟨gz,3,none⟩=some (.slice A12 k12 c12)∧w'.cell? ⟨w.heap.size,1,none⟩=some (.slice (some ⟨b2,off2,none⟩) m c2)∧w'.cell? ⟨b2,off2+i*4,none⟩=some (.bool n2)∧w'.cell? ⟨b2,off2+i*4+1,none⟩=some (.slice A9 k9 c9)∧w'.cell? ⟨b2,off2+i*4+2,none⟩=some (.bool false)∧w'.cell? ⟨b2,off2+i*4+3,none⟩=some (.slice A10 k10 c10)) [9] (by kernel_rfl) (by exact⟨eC.cell t0,eC.cell t1,eC.cell t2,eC.cell t3,eC.cell a1,eC.cell q0,eC.cell q1,eC.cell q2,eC.cell q3⟩) (fun hHeld=>?_);refine sP 0 (h:=?_);try simp only [nr]
   refine sT 1 (h:=?_);try simp only [nr]
   refine sP 2 (h:=?_);try simp only [nr]
   refine sT 3 (h:=?_);try simp only [nr]
   refine sP 4 (h:=?_);try simp only [nr]
   refine sP 5 (h:=?_);try simp only [nr]
   refine sT 6 (h:=?_);try simp only [nr]
   refine stepL_only (i:=7) rfl (by kernel_rfl) (fun K hK=>?_);go_simp;refine (f_sub (x:=av n X x i) (y:=y i) (by exact (RatV.mk hb1 g1 g2).ext eC) (by exact (RatV.mk hb2 g3 g4).ext eC) (HSS.out i hlt).1 (HSS.out i hlt).2).mono ?_;intro e w6 hh;obtain⟨b3,A13,k13,c13,A14,k14,c14,rfl,hb3,g5,g6,e6⟩:=hh.form;replace eC:=eC.trans e6;go_wp2_with fail;clear hHeld;refine hK.out _ _ (by exact⟨eC.cell t0,eC.cell t1,eC.cell t2,eC.cell t3,eC.cell a1,eC.cell q0,eC.cell q1,eC.cell q2,eC.cell q3⟩) fun hHeld=>?_
   clear hK K;try simp only [nr]
   refine stepL_only (i:=8) rfl (by kernel_rfl) (fun K hK=>?_);go_simp
   first | refine boxes1 ?_ | refine boxesD1 ?_
   intro w7 e7 hsz7 BX;replace eC:=eC.trans e7;replace g5:=g5.ext e7;replace g6:=g6.ext e7;have hG7:=hG.ext eC;have hE7:=hEw.trans eC;clear hHeld;refine hK.out _ _ (by exact⟨eC.cell t0,eC.cell t1,eC.cell t2,eC.cell t3,eC.cell a1,eC.cell q0,eC.cell q1,eC.cell q2,eC.cell q3⟩) fun hHeld=>?_
   clear hK K;try simp only [nr]
   refine stepL_late (i:=9) rfl (by kernel_rfl) (by kernel_rfl) (fun K hK=>?_);refine step_append_rat rfl _ _ 24 Tryz.underlying24 rfl (by rfl) hG7 (by rfl) BX hb3 g5 g6 (by omega) ?_;rintro g cap' w8 hG8 ⟨g',hg',c15,-⟩ -;replace hE7:=c15.ext hE7 hg';replace hG8:=hG8.congr (y:=fun i=>av n X x i - y i) (fun j _=>by unfold upd; split <;> simp_all);refine hK.out _ _ ?_;clear hK K;try simp only [nr]
   refine sP 10 (h:=?_);try simp only [nr]
   refine stepL_done (by kernel_rfl) ?_ _;clear hHeld;clear t0 t1 t2 t3 q0 q1 q2 q3 a1 g1 g2 g3 g4 g5 g6 hb1 hb2 hb3 BX hG hG7 c15 hEr hEw eC;go_wp2;go_roundw
   case rel=>exact⟨i+1,by omega,by go_num,hE7,_,_,rfl,hG8⟩
   case measure=>simp [intOf]; omega
  ·obtain rfl:m=i:=by omega
   go_wp2
   first | go_ret | skip
   rw [hRf.out];exact⟨A6,c6,rfl,hG.lsv hs0 rfl,hE.trans hEr⟩
theorem upd_cells (g:Nat):∀ (vs:List Value) (o:Nat) (w w':World),Upd g w w'→Upd g w (w'.setCells g o vs)
 | [],_,_,_,h=>h
 | v :: r,o,w,w',h=>upd_cells g r (o+1) w _ (h.set o v)
theorem blk_cells (g:Nat) (t:TypeId) (fr:Nat×Nat):∀ (vs:List Value) (o:Nat) (cs:Array Value) (w:World),w.heap[g]?=some (.cells cs t fr)→∃ cs',(w.setCells g o vs).heap[g]?=some (.cells cs' t fr)∧cs'.size=cs.size
 | [],_,cs,_,h=>⟨cs,h,rfl⟩
 | v :: r,o,cs,w,h=>by
  obtain⟨cs',h1,h2⟩:=blk_cells g t fr r (o+1) _ (w.setCell ⟨g,o,none⟩ v) (heap_set h o v);exact⟨cs',h1,by rw [h2]; simp⟩
theorem add_none (b o j:Nat):(⟨b,o,none⟩:Addr).add j=⟨b,o+j,none⟩:=by unfold Addr.add; split <;> simp_all
theorem At4.one {N:Nat} {w:World} {b o:Nat} {R:Raw} (h:At4 N w b o R) {r:Nat} (hr:r < 4):∃ v,w.cell? ⟨b,o+r,none⟩=some v∧v.oneCell'=true:=by
 obtain⟨A,n,c,A',n',c',h0,h1,h2,h3,-⟩:=h.val;have hr':r=0∨r=1∨r=2∨r=3:=by omega
 rcases hr' with rfl | rfl | rfl | rfl
 ·exact⟨_,h0,rfl⟩
 ·exact⟨_,h1,rfl⟩
 ·exact⟨_,h2,rfl⟩
 ·exact⟨_,h3,rfl⟩
def GrowS (base:Nat) (w:World) (v:Value) (xs:List Value):Prop:=base≤w.heap.size∧w.ownsRow base 24 1 v xs.length xs
theorem GrowS.empty {base:Nat} {w:World} {g:Nat} (hb:base≤g) (h:w.heap[g]?=some (.cells #[] 24 (0,0))):GrowS base w (.slice (some ⟨g,0,none⟩) 0 0) [] :=
 ⟨Nat.le_trans hb (Nat.le_of_lt (blk_lt h)),rfl,.inr ⟨g,0,#[],rfl,hb,h,Nat.le_refl _,by unfold maxLen; omega,rfl,rfl⟩⟩
theorem GrowS.ext {base:Nat} {w w':World} {v:Value} {xs:List Value} (h:GrowS base w v xs) (e:Ext w w'):GrowS base w' v xs:=by
 obtain⟨h0,h1,h2⟩:=h;refine⟨Nat.le_trans h0 e.size,h1,?_⟩
 rcases h2 with h2 | ⟨g,cap,cur,hv,hb,hg,h3⟩
 ·exact .inl h2
 ·exact .inr ⟨g,cap,cur,hv,hb,e.block hg,h3⟩
theorem GrowS.noU {base:Nat} {w:World} {v:Value} {xs:List Value} (h:GrowS base w v xs):∃ g',base≤g'∧NoU w g'∧(∀ k,v.ownBlock=some k→k=g')∧(v.ownBlock=some g'∨g'=w.heap.size):=by
 obtain⟨h0,-,h2⟩:=h
 rcases h2 with ⟨rfl,-⟩ | ⟨g,cap,cur,rfl,hb,hg,-⟩
 ·exact⟨w.heap.size,h0,fun cs fr h=>by (rw [Array.getElem?_eq_none (Nat.le_refl _)] at h; cases h),fun k hk=>by simp [Value.ownBlock] at hk,.inr rfl⟩
 ·exact⟨g,hb,NoU.mk hg (by decide),fun k hk=>by simpa [Value.ownBlock] using hk.symm,.inl rfl⟩
theorem GrowS.at_ {base:Nat} {w:World} {v:Value} {xs:List Value} (h:GrowS base w v xs) (hn:0 < xs.length):∃ g cap,v=.slice (some ⟨g,0,none⟩) xs.length cap∧cap≤maxLen∧xs.length≤cap∧∀ j (hj:j < xs.length),w.cell? ⟨g,j,none⟩=some xs[j]:=by
 obtain⟨-,-,h2⟩:=h
 rcases h2 with ⟨-,h⟩ | ⟨g,cap,cur,hv,hb,hg,hnc,hcm,hcs,htk⟩
 ·omega
 ·refine⟨g,cap,hv,hcm,hnc,fun j hj=>?_⟩;rw [cell_blk hg];have h9:(cur.toList.take (xs.length*1))[j]?=some xs[j]:=by rw [htk]; exact List.getElem?_eq_getElem hj
  rw [List.getElem?_take] at h9;rw [if_pos (by omega)] at h9;simpa using h9
theorem run_clear_cells {P:Program} (w:World) (t e ty:TypeId) (z:Value) (ht:P.underlying t=some (.slice e)) (hv:∀ w,(zeroValue e).run P w=.ok z w) (h1:∀ u∈z.cells.toList,u.oneCell'=true) (b o c:Nat)
  (hc:∀ j,j < z.cells.size→(w.cell? ⟨b,o+j,none⟩).isSome=true) (hf:∀ j,j < z.cells.size→w.frozen? ⟨b,o+j,none⟩=false) :
  (Builtin.clear_ #[t] ty #[.slice (some ⟨b,o,none⟩) 1 c]).run P w=.ok (.tuple #[]) (w.setCells b o z.cells.toList):=by
 have hzc:(Builtin.zeroCells z.cells 1).toList=z.cells.toList:=by
  unfold Builtin.zeroCells
  apply List.ext_getElem
  ·simp
  ·intro i h1 h2;have h3:i < z.cells.size:=by simpa using h2
   simp [Nat.mod_eq_of_lt h3,h3]
 have hst:=run_storeCells_cells (P:=P) b o z.cells.toList 0 w (by simpa using hc) (by simpa using hf) h1;simp only [Nat.add_zero] at hst;simp [Builtin.clear_,run_underlying ht,hv,hzc,hst]
theorem zero_rat (w:World):(zeroValue 36).run Tryz.prog w=.ok (.agg #[.bool false,.slice none 0 0,.bool false,.slice none 0 0]) w:=by kernel_rfl
theorem zero_row (w:World):(zeroValue 24).run Tryz.prog w=.ok (.slice none 0 0) w:=by kernel_rfl
def RetDel (Z:Nat) (ET:TypeId) (g n cap i:Nat) (w:World) (e:Ending) (w':World):Prop :=
 e=.returned (.slice (some ⟨g,0,none⟩) (n - 1) cap)∧Chg g (g+1) w w'∧(∃ cs,w'.heap[g]?=some (.cells cs ET (0,0))∧cs.size=cap*Z)∧(∀ k,k < i*Z→w'.cell? ⟨g,k,none⟩=w.cell? ⟨g,k,none⟩)∧(∀ k,i*Z≤k→k < (n - 1)*Z→w'.cell? ⟨g,k,none⟩=w.cell? ⟨g,k+Z,none⟩)
set_option maxRecDepth 100000 in
theorem sl_del_rats {w:World} {g cap n i:Nat} {cs:Array Value} (hb:w.heap[g]?=some (.cells cs 36 (0,0))) (hsz:cs.size=cap*4) (hcm:cap≤9223372036854775807) (hn:n≤cap) (hi:i < n) (hone:∀ k,k < n*4→∃ v,w.cell? ⟨g,k,none⟩=some v∧v.oneCell'=true) {J:Int} (hJ:J=(i:Int)+1) :
  Calls Tryz.prog 160 #[.slice (some ⟨g,0,none⟩) n cap,.int .i64 (i:Int),.int .i64 J] w (RetDel 4 36 g n cap i w):=by
 obtain⟨i0,hi0,hz0,hz1,hz2⟩:=info_parts info_rat;have hT:NoU w g:=NoU.mk hb (by decide)
 obtain⟨news,hnl,hnv,hno⟩:∃ news:List Value,news.length=(n - (i+1))*4∧(∀ j u,news[j]?=some u→w.cell? ⟨g,(i+1)*4+j,none⟩=some u)∧∀ u∈news,u.oneCell'=true:=by
  refine⟨(List.range ((n - (i+1))*4)).map (fun j=>(w.cell? ⟨g,(i+1)*4+j,none⟩).getD undef),by simp,fun j u hu=>?_,fun u hu=>?_⟩
  ·rw [List.getElem?_map] at hu;obtain⟨j',hj',rfl⟩:=Option.map_eq_some_iff.1 hu;have hj2:=List.getElem?_eq_some_iff.1 hj';obtain⟨hj3,hj4⟩:=hj2;simp at hj3 hj4
   subst hj4;obtain⟨v,hv,-⟩:=hone ((i+1)*4+j) (by omega);rw [hv]; rfl
  ·obtain⟨j,hj,rfl⟩:=List.mem_map.1 hu;have hj3:j < (n - (i+1))*4:=by simpa using hj
   obtain⟨v,hv,h1⟩:=hone ((i+1)*4+j) (by omega);rw [hv]; exact h1
 have hfz:∀ k,w.frozen? ⟨g,k,none⟩=false:=fun k=>frozen_blk hb k
 obtain⟨AA,hAA,hsrc⟩:∃ A:Addr,(if cap=i+1 then some (⟨g,0,none⟩:Addr) else some ⟨g,(i+1)*4,none⟩)=some A∧Hid (∀ t u,news[t]?=some u→w.drew.cell? (A.add t)=some u):=by
  by_cases h:cap=i+1
  ·refine⟨⟨g,0,none⟩,by simp [h],fun t u hu=>?_⟩;have h0:news.length=0:=by rw [hnl,show n - (i+1)=0 by omega,Nat.zero_mul]
   rw [List.length_eq_zero_iff.1 h0] at hu;simp at hu
  ·refine⟨⟨g,(i+1)*4,none⟩,by simp [h],fun t u hu=>?_⟩;rw [add_none];exact hnv t u hu
 obtain⟨w1,hw1⟩:∃ w1,w1=w.drew.setCells g (0+i*4) news:=⟨_,rfl⟩
 have U1:Upd g w.drew w1:=by rw [hw1]; exact upd_cells g news _ w.drew w.drew (Upd.refl g w.drew)
 obtain⟨cs1,hb1,hs1⟩:∃ cs1,w1.heap[g]?=some (.cells cs1 36 (0,0))∧cs1.size=cs.size:=by rw [hw1]; exact blk_cells g _ _ news _ cs w.drew hb
 have hthere:∀ k,k < n*4→(w.drew.cell? ⟨g,k,none⟩).isSome=true:=fun k hk=>by obtain⟨v,hv,-⟩:=hone k hk; show (w.cell? _).isSome=true; rw [hv]; rfl
 have hin1:∀ j (hj:j < news.length),w1.cell? ⟨g,0+i*4+j,none⟩=some news[j]:=by
  rw [hw1]; exact World.cell?_setCells_in g news (0+i*4) w.drew (fun j hj=>hthere _ (by omega))
 have hout1:∀ k,k < i*4→w1.cell? ⟨g,k,none⟩=w.cell? ⟨g,k,none⟩:=fun k hk=>by
  rw [hw1]; exact World.cell?_setCells_out g news (0+i*4) w.drew ⟨g,k,none⟩ (fun _ _=>.inl (by simp only; omega))
 have hc1:∀ k,k < cap*4→(w1.cell? ⟨g,k,none⟩).isSome=true:=fun k hk=>by
  rw [cell_blk hb1,Array.getElem?_eq_getElem (by omega)]; rfl
 have hrun:=run_clear_cells (P:=Tryz.prog) w1 24 36 0 (Value.agg #[.bool false,.slice none 0 0,.bool false,.slice none 0 0]) Tryz.underlying24 zero_rat (List.all_eq_true.1 (by rfl)) g ((n - 1)*4) (cap - (n - 1)) (fun j hj=>hc1 _ (by have h9:j < 4:=hj; omega)) (fun j hj=>frozen_blk hb1 _);obtain⟨w2,hw2⟩:∃ w2,w2=w1.setCells g ((n - 1)*4) ((Value.agg #[.bool false,.slice none 0 0,.bool false,.slice none 0 0])).cells.toList:=⟨_,rfl⟩
 have U2:Upd g w1 w2:=by rw [hw2]; exact upd_cells g _ _ w1 w1 (Upd.refl g w1)
 obtain⟨cs2,hb2,hs2⟩:∃ cs2,w2.heap[g]?=some (.cells cs2 36 (0,0))∧cs2.size=cs1.size:=by rw [hw2]; exact blk_cells g _ _ _ _ cs1 w1 hb1
 have hout2:∀ k,k < (n - 1)*4→w2.cell? ⟨g,k,none⟩=w1.cell? ⟨g,k,none⟩:=fun k hk=>by
  rw [hw2]; exact World.cell?_setCells_out g _ _ w1 ⟨g,k,none⟩ (fun _ _=>.inl (by simp only; omega))
 rw [←hw2] at hrun
 have HFIN:Hid (Chg g (g+1) w w2∧(∃ cs,w2.heap[g]?=some (.cells cs 36 (0,0))∧cs.size=cap*4)∧(∀ k,k < i*4→w2.cell? ⟨g,k,none⟩=w.cell? ⟨g,k,none⟩)∧(∀ k,i*4≤k→k < (n - 1)*4→w2.cell? ⟨g,k,none⟩=w.cell? ⟨g,k+4,none⟩)):=by
  refine⟨(((Ext.refl w).drew.chg g (g+1)).trans (U1.chg hT)).trans (U2.chg (NoU.mk hb1 (by decide))),⟨cs2,hb2,by omega⟩,fun k hk=>?_,fun k hk1 hk2=>?_⟩
  ·rw [hout2 k (by omega),hout1 k hk]
  ·obtain⟨j,rfl⟩:∃ j,k=0+i*4+j:=⟨k - i*4,by omega⟩
   have hj:j < news.length:=by rw [hnl]; omega
   rw [hout2 _ hk2,hin1 j hj];have h9:=hnv j _ (List.getElem?_eq_getElem hj);rw [show 0+i*4+j+4=(i+1)*4+j by omega];exact h9.symm
 have s1:Hid (news.length=(n - (i+1))*4):=hnl;have s2:=Lib.hid hno;have s3:Hid (∀ t,t < news.length→(w.drew.cell? ⟨g,0+i*4+t,none⟩).isSome=true∧w.drew.frozen? ⟨g,0+i*4+t,none⟩=false):=fun t ht=>⟨hthere _ (by omega),hfz _⟩
 have HW1:=Lib.hid hw1;have hl9:i+(n - (i+1))=n - 1:=by omega
 have hJ1:((i:Int) == J)=false:=beq_eq_false_iff_ne.2 (by omega);have hJ2:J.toNat=i+1:=by omega
 obtain⟨q,hq⟩:=hid_eq (n - 1);rw [←hq.out] at hl9 hrun HFIN;have hqn:q+1=n:=by rw [hq.out]; omega
 have hqc:¬ cap=q:=by omega
 have hnq:n - q=1:=by omega
 clear hw1 hw2 U1 U2 hthere hin1 hout1 hout2 hc1 hfz hone hnv hnl hno hb1 hb2 hs1 hs2 hT hb hsz
 (try simp only [Nat.mul_one] at hAA hrun)
 go_enter Tryz.func160,Tryz.ntmps160;go_upto_region 5 with (fail);have eC:=(Ext.refl w).drew;refine region_late (fun w'=>True) [6] (by kernel_rfl) (by exact trivial) (fun hHeld=>?_);refine sP 0 (h:=?_);try simp only [nr]
 refine sP 1 (h:=?_);try simp only [nr]
 refine sP 2 (h:=?_);try simp only [nr]
 refine sP 3 (h:=?_);try simp only [nr]
 refine sP 4 (h:=?_);try simp only [nr]
 refine sP 5 (h:=?_);try simp only [nr]
 refine stepL_late (i:=6) rfl (by kernel_rfl) (by kernel_rfl) (fun K hK=>?_);refine step_append_room rfl _ _ 24 rfl 36 i0 4 Tryz.underlying24 hi0 hz1 g 0 i cap (by simp [Act.eval]) AA (n - (i+1)) (cap - (i+1)) news (by simp [Act.eval,hAA]) s1.out hsrc.out s2.out (by omega) s3.out ?_;rw [←HW1.out,hl9];refine hK.out _ _ ?_;clear hK K;try simp only [nr]
 refine sP 7 (h:=?_);try simp only [nr]
 refine stepL_done (by kernel_rfl) ?_ _;clear hHeld;go_wp2;go_ret;refine⟨?_,?_⟩
 ·rw [←hq.out]; rfl
 ·have h9:=HFIN.out;rw [hq.out] at h9;exact h9
set_option maxRecDepth 100000 in
theorem sl_del_rows {w:World} {g cap n i:Nat} {cs:Array Value} (hb:w.heap[g]?=some (.cells cs 24 (0,0))) (hsz:cs.size=cap*1) (hcm:cap≤9223372036854775807) (hn:n≤cap) (hi:i < n) (hone:∀ k,k < n*1→∃ v,w.cell? ⟨g,k,none⟩=some v∧v.oneCell'=true) {J:Int} (hJ:J=(i:Int)+1) :
  Calls Tryz.prog 159 #[.slice (some ⟨g,0,none⟩) n cap,.int .i64 (i:Int),.int .i64 J] w (RetDel 1 24 g n cap i w):=by
 obtain⟨i0,hi0,hz0,hz1,hz2⟩:=info_parts info_row;have hT:NoU w g:=NoU.mk hb (by decide)
 obtain⟨news,hnl,hnv,hno⟩:∃ news:List Value,news.length=(n - (i+1))*1∧(∀ j u,news[j]?=some u→w.cell? ⟨g,(i+1)*1+j,none⟩=some u)∧∀ u∈news,u.oneCell'=true:=by
  refine⟨(List.range ((n - (i+1))*1)).map (fun j=>(w.cell? ⟨g,(i+1)*1+j,none⟩).getD undef),by simp,fun j u hu=>?_,fun u hu=>?_⟩
  ·rw [List.getElem?_map] at hu;obtain⟨j',hj',rfl⟩:=Option.map_eq_some_iff.1 hu;have hj2:=List.getElem?_eq_some_iff.1 hj';obtain⟨hj3,hj4⟩:=hj2;simp at hj3 hj4
   subst hj4;obtain⟨v,hv,-⟩:=hone ((i+1)*1+j) (by omega);rw [hv]; rfl
  ·obtain⟨j,hj,rfl⟩:=List.mem_map.1 hu;have hj3:j < (n - (i+1))*1:=by simpa using hj
   obtain⟨v,hv,h1⟩:=hone ((i+1)*1+j) (by omega);rw [hv]; exact h1
 have hfz:∀ k,w.frozen? ⟨g,k,none⟩=false:=fun k=>frozen_blk hb k
 obtain⟨AA,hAA,hsrc⟩:∃ A:Addr,(if cap=i+1 then some (⟨g,0,none⟩:Addr) else some ⟨g,(i+1)*1,none⟩)=some A∧Hid (∀ t u,news[t]?=some u→w.drew.cell? (A.add t)=some u):=by
  by_cases h:cap=i+1
  ·refine⟨⟨g,0,none⟩,by simp [h],fun t u hu=>?_⟩;have h0:news.length=0:=by rw [hnl,show n - (i+1)=0 by omega,Nat.zero_mul]
   rw [List.length_eq_zero_iff.1 h0] at hu;simp at hu
  ·refine⟨⟨g,(i+1)*1,none⟩,by simp [h],fun t u hu=>?_⟩;rw [add_none];exact hnv t u hu
 obtain⟨w1,hw1⟩:∃ w1,w1=w.drew.setCells g (0+i*1) news:=⟨_,rfl⟩
 have U1:Upd g w.drew w1:=by rw [hw1]; exact upd_cells g news _ w.drew w.drew (Upd.refl g w.drew)
 obtain⟨cs1,hb1,hs1⟩:∃ cs1,w1.heap[g]?=some (.cells cs1 24 (0,0))∧cs1.size=cs.size:=by rw [hw1]; exact blk_cells g _ _ news _ cs w.drew hb
 have hthere:∀ k,k < n*1→(w.drew.cell? ⟨g,k,none⟩).isSome=true:=fun k hk=>by obtain⟨v,hv,-⟩:=hone k hk; show (w.cell? _).isSome=true; rw [hv]; rfl
 have hin1:∀ j (hj:j < news.length),w1.cell? ⟨g,0+i*1+j,none⟩=some news[j]:=by
  rw [hw1]; exact World.cell?_setCells_in g news (0+i*1) w.drew (fun j hj=>hthere _ (by omega))
 have hout1:∀ k,k < i*1→w1.cell? ⟨g,k,none⟩=w.cell? ⟨g,k,none⟩:=fun k hk=>by
  rw [hw1]; exact World.cell?_setCells_out g news (0+i*1) w.drew ⟨g,k,none⟩ (fun _ _=>.inl (by simp only; omega))
 have hc1:∀ k,k < cap*1→(w1.cell? ⟨g,k,none⟩).isSome=true:=fun k hk=>by
  rw [cell_blk hb1,Array.getElem?_eq_getElem (by omega)]; rfl
 have hrun:=run_clear_cells (P:=Tryz.prog) w1 23 24 0 (Value.slice none 0 0) Tryz.underlying23 zero_row (List.all_eq_true.1 (by rfl)) g ((n - 1)*1) (cap - (n - 1)) (fun j hj=>hc1 _ (by have h9:j < 1:=hj; omega)) (fun j hj=>frozen_blk hb1 _);obtain⟨w2,hw2⟩:∃ w2,w2=w1.setCells g ((n - 1)*1) ((Value.slice none 0 0)).cells.toList:=⟨_,rfl⟩
 have U2:Upd g w1 w2:=by rw [hw2]; exact upd_cells g _ _ w1 w1 (Upd.refl g w1)
 obtain⟨cs2,hb2,hs2⟩:∃ cs2,w2.heap[g]?=some (.cells cs2 24 (0,0))∧cs2.size=cs1.size:=by rw [hw2]; exact blk_cells g _ _ _ _ cs1 w1 hb1
 have hout2:∀ k,k < (n - 1)*1→w2.cell? ⟨g,k,none⟩=w1.cell? ⟨g,k,none⟩:=fun k hk=>by
  rw [hw2]; exact World.cell?_setCells_out g _ _ w1 ⟨g,k,none⟩ (fun _ _=>.inl (by simp only; omega))
 rw [←hw2] at hrun
 have HFIN:Hid (Chg g (g+1) w w2∧(∃ cs,w2.heap[g]?=some (.cells cs 24 (0,0))∧cs.size=cap*1)∧(∀ k,k < i*1→w2.cell? ⟨g,k,none⟩=w.cell? ⟨g,k,none⟩)∧(∀ k,i*1≤k→k < (n - 1)*1→w2.cell? ⟨g,k,none⟩=w.cell? ⟨g,k+1,none⟩)):=by
  refine⟨(((Ext.refl w).drew.chg g (g+1)).trans (U1.chg hT)).trans (U2.chg (NoU.mk hb1 (by decide))),⟨cs2,hb2,by omega⟩,fun k hk=>?_,fun k hk1 hk2=>?_⟩
  ·rw [hout2 k (by omega),hout1 k hk]
  ·obtain⟨j,rfl⟩:∃ j,k=0+i*1+j:=⟨k - i*1,by omega⟩
   have hj:j < news.length:=by rw [hnl]; omega
   rw [hout2 _ hk2,hin1 j hj];have h9:=hnv j _ (List.getElem?_eq_getElem hj);rw [show 0+i*1+j+1=(i+1)*1+j by omega];exact h9.symm
 have s1:Hid (news.length=(n - (i+1))*1):=hnl;have s2:=Lib.hid hno;have s3:Hid (∀ t,t < news.length→(w.drew.cell? ⟨g,0+i*1+t,none⟩).isSome=true∧w.drew.frozen? ⟨g,0+i*1+t,none⟩=false):=fun t ht=>⟨hthere _ (by omega),hfz _⟩
 have HW1:=Lib.hid hw1;have hl9:i+(n - (i+1))=n - 1:=by omega
 have hJ1:((i:Int) == J)=false:=beq_eq_false_iff_ne.2 (by omega);have hJ2:J.toNat=i+1:=by omega
 obtain⟨q,hq⟩:=hid_eq (n - 1);rw [←hq.out] at hl9 hrun HFIN;have hqn:q+1=n:=by rw [hq.out]; omega
 have hqc:¬ cap=q:=by omega
 have hnq:n - q=1:=by omega
 clear hw1 hw2 U1 U2 hthere hin1 hout1 hout2 hc1 hfz hone hnv hnl hno hb1 hb2 hs1 hs2 hT hb hsz
 (try simp only [Nat.mul_one] at hAA hrun)
 go_enter Tryz.func159,Tryz.ntmps159;go_upto_region 5 with (fail);have eC:=(Ext.refl w).drew;refine region_late (fun w'=>True) [6] (by kernel_rfl) (by exact trivial) (fun hHeld=>?_);refine sP 0 (h:=?_);try simp only [nr]
 refine sP 1 (h:=?_);try simp only [nr]
 refine sP 2 (h:=?_);try simp only [nr]
 refine sP 3 (h:=?_);try simp only [nr]
 refine sP 4 (h:=?_);try simp only [nr]
 refine sP 5 (h:=?_);try simp only [nr]
 refine stepL_late (i:=6) rfl (by kernel_rfl) (by kernel_rfl) (fun K hK=>?_);refine step_append_room rfl _ _ 23 rfl 24 i0 1 Tryz.underlying23 hi0 hz1 g 0 i cap (by simp [Act.eval]) AA (n - (i+1)) (cap - (i+1)) news (by simp [Act.eval,hAA]) s1.out hsrc.out s2.out (by omega) s3.out ?_;rw [←HW1.out,hl9];refine hK.out _ _ ?_;clear hK K;try simp only [nr]
 refine sP 7 (h:=?_);try simp only [nr]
 refine stepL_done (by kernel_rfl) ?_ _;clear hHeld;go_wp2;go_ret;refine⟨?_,?_⟩
 ·rw [←hq.out]; rfl
 ·have h9:=HFIN.out;rw [hq.out] at h9;exact h9
def RetRowC (N:Nat) (w:World) (n:Nat) (x:Nat→Rat) (e:Ending) (w':World):Prop :=
 ∃ g cap,e=.returned (.slice (some ⟨g,0,none⟩) n cap)∧w.heap.size≤g∧cap≤maxLen∧n≤cap∧RowB N w' g cap n x∧Ext w w'
set_option maxRecDepth 100000 in
theorem sl_clone {N lo hi:Nat} {w:World} {v:Value} {n:Nat} {x:Nat→Rat} (h:LsV N lo hi w v n x) (hn0:0 < n) (hn:n < 1000000) :
  Calls Tryz.prog 32 #[v] w (RetRowC N w n x):=by
 obtain⟨Rf,hRf⟩:=hid_eq (RetRowC N w n x);rw [←hRf.out];have hN:=h.le;obtain⟨A1,c1,rfl,hmc,hcm⟩:=h.form;obtain⟨b,off,rfl,-⟩:=LsV.addr h hn0;have hI:=h;clear h;have hnl:=fun (w:World) (a:Option Addr) (n c:Nat)=>Lib.run_eql_slice_nil (P:=Tryz.prog) w 24 36 a n c 0 0 Tryz.underlying24
 go_enter Tryz.func32,Tryz.ntmps32;go_wp2_with (at_builtin; refine Hid.out ?_);refine boxes1 ?_;intro W hE hsz B0;refine wpList_append_list rfl _ _ 24 Tryz.underlying24 rfl (by rfl) (Grow.empty hN (Nat.le_refl _) B0 x) (by rfl) (hI.ext hE) (by omega:0+n < 1000000000) ?_;rintro A' c' w2 hG ⟨g',hg',C2,-⟩;have hE2:=C2.ext hE hg';rw [Nat.zero_add] at hG ⊢;obtain⟨g,cap,hv,hg,hgs,hcm2,hnc,hrw⟩:=hG.some hn0;injection hv with e1 e2 e3
 subst e1 e3;go_wp2
 first | go_ret | skip
 rw [hRf.out];exact⟨g,c',rfl,hg,hcm2,hnc,hrw.congr (fun j hj=>by unfold cat; rw [if_neg (by omega)]; rfl),hE2⟩
theorem del_row {N:Nat} {w w':World} {g n cap i:Nat} {e:Ending} {x:Nat→Rat} (h:RowB N w g cap n x) (hi:i < n) (hd:RetDel 4 36 g n cap i w e w') :
  e=.returned (.slice (some ⟨g,0,none⟩) (n - 1) cap)∧Chg g (g+1) w w'∧RowB N w' g cap (n - 1) (fun j=>x (skip i j)):=by
 obtain⟨he,hC,hb,h1,h2⟩:=hd;obtain⟨a1,a2,a3,a4⟩:=h;refine⟨he,hC,a1,by omega,hb,fun j hj=>?_⟩
 show At4 N w' g (j*4) (raw (x (skip i j)))
 by_cases hji:j < i
 ·have hsk:skip i j=j:=by unfold skip; rw [if_pos hji]
  rw [hsk];obtain⟨s,t,d0,d1,d2,d3,g1,g2⟩:=a4 j (by omega);exact⟨s,t,by rw [h1 _ (by omega)]; exact d0,by rw [h1 _ (by omega)]; exact d1,by rw [h1 _ (by omega)]; exact d2,by rw [h1 _ (by omega)]; exact d3,g1.chg hC a1,g2.chg hC a1⟩
 ·have hsk:skip i j=j+1:=by unfold skip; rw [if_neg hji]
  rw [hsk];obtain⟨s,t,d0,d1,d2,d3,g1,g2⟩:=a4 (j+1) (by omega);have e0:(j+1)*4=j*4+4:=by omega
  rw [e0] at d0 d1 d2 d3;refine⟨s,t,?_,?_,?_,?_,g1.chg hC a1,g2.chg hC a1⟩
  ·rw [h2 _ (by omega) (by omega)]; exact d0
  ·rw [h2 _ (by omega) (by omega),show j*4+1+4=j*4+4+1 by omega]; exact d1
  ·rw [h2 _ (by omega) (by omega),show j*4+2+4=j*4+4+2 by omega]; exact d2
  ·rw [h2 _ (by omega) (by omega),show j*4+3+4=j*4+4+3 by omega]; exact d3
theorem row_one {N:Nat} {w:World} {g cap n:Nat} {x:Nat→Rat} (h:RowB N w g cap n x):∀ k,k < n*4→∃ v,w.cell? ⟨g,k,none⟩=some v∧v.oneCell'=true:=fun k hk=>by
 have:=(h.2.2.2 (k / 4) (by omega)).one (r:=k % 4) (by omega);rw [show k / 4*4+k % 4=k by omega] at this;exact this
theorem del_rows {N lo hi:Nat} {w w':World} {h cap m n i:Nat} {β κ:Nat→Nat} {A:Nat→Nat→Rat} {e:Ending} (o:OwnM N lo hi w h cap m n β κ A) (hcm:cap≤maxLen) (hi':i < m) (hd:RetDel 1 24 h m cap i w e w') :
  e=.returned (.slice (some ⟨h,0,none⟩) (m - 1) cap)∧Chg h (h+1) w w'∧MtV N lo hi w' (.slice (some ⟨h,0,none⟩) (m - 1) cap) (m - 1) n (fun j=>A (skip i j)):=by
 obtain⟨he,hC,hb,h1,h2⟩:=hd;have hNh:N≤h:=Nat.le_trans o.le o.hlo;refine⟨he,hC,?_,?_,_,cap,rfl,by have:=o.mle; omega,hcm,fun h0=>⟨h,0,rfl,o.hlo,o.hhi,fun j hj=>?_⟩⟩
 ·exact Nat.le_trans o.le (Nat.le_trans (Nat.le_trans o.hlo (Nat.le_of_lt o.hhi)) (Nat.le_trans o.his hC.size))
 ·exact Nat.le_trans o.his hC.size
 ·have hs:skip i j < m:=by have:=skip_lt (m:=m - 1) (i:=i) hj; omega
  have hrow:=(o.row (skip i j) hs).chg hC hNh (by have:=o.ne hs; omega);refine⟨.slice (some ⟨β (skip i j),0,none⟩) n (κ (skip i j)),?_,hrow.lsv hrow.2.1 (o.cap _ hs) (o.lo_ _ hs) (o.hi_ _ hs) (Nat.le_trans o.his hC.size)⟩;rw [Nat.zero_add]
  by_cases hji:j < i
  ·have hsk:skip i j=j:=by unfold skip; rw [if_pos hji]
   rw [h1 j (by omega),hsk];exact o.hcell (by omega)
  ·have hsk:skip i j=j+1:=by unfold skip; rw [if_neg hji]
   rw [h2 j (by omega) (by omega),hsk];exact o.hcell (by omega)
theorem LsV.sub {N lo hi:Nat} {w:World} {b off n c:Nat} {x:Nat→Rat} (h:LsV N lo hi w (.slice (some ⟨b,off,none⟩) n c) n x) {l r:Nat} (hl:l < r) (hr:r≤n) {c':Nat} (hc:r - l≤c') (hm:c'≤maxLen) :
  LsV N lo hi w (.slice (some ⟨b,off+l*4,none⟩) (r - l) c') (r - l) (fun j=>x (l+j)):=by
 obtain⟨b',off',hA,h1,h2,hx⟩:=LsV.addr h (by omega);obtain⟨rfl,rfl⟩:b=b'∧off=off':=by injection hA with hA; injection hA with e1 e2; exact⟨e1,e2⟩
 refine⟨h.1,h.2.1,_,c',rfl,hc,hm,fun _=>⟨b,off+l*4,rfl,h1,h2,fun i hi=>?_⟩⟩;have h9:=hx (l+i) (by omega);rw [show off+(l+i)*4=off+l*4+i*4 by omega] at h9;exact h9
theorem MtV.sub {N lo hi:Nat} {w:World} {b off m n c:Nat} {X:Nat→Nat→Rat} (h:MtV N lo hi w (.slice (some ⟨b,off,none⟩) m c) m n X) {l r:Nat} (hl:l < r) (hr:r≤m) {c':Nat} (hc:r - l≤c') (hm:c'≤maxLen) :
  MtV N lo hi w (.slice (some ⟨b,off+l,none⟩) (r - l) c') (r - l) n (fun i=>X (l+i)):=by
 obtain⟨h1,h2,A,c0,hv,h3,h4,h5⟩:=h;obtain⟨b',off',hA,h6,h7,hx⟩:=h5 (by omega);injection hv with e1 e2 e3
 rw [←e1] at hA;injection hA with hA
 injection hA with e4 e5
 subst e4 e5;refine⟨h1,h2,_,c',rfl,hc,hm,fun _=>⟨b,off+l,rfl,h6,h7,fun i hi=>?_⟩⟩;obtain⟨u,hu,hr'⟩:=hx (l+i) (by omega);exact⟨u,by rw [←Nat.add_assoc] at hu; exact hu,hr'⟩
theorem invM_ht {e q:Nat} {X:Nat→Nat→Rat} (hq:HtM e e q X):HtM e e (5 ^ e*(q+1)) (invM e X):=fun i hi j hj =>
 rref_ht' (p:=e) (htM_augI hq) (j:=e) (by omega) (.inl (Nat.le_refl _)) i hi (e+j) (by omega)
def GrowC (N lo hi:Nat) (w:World) (v:Value) (m n:Nat) (A:Nat→Nat→Rat):Prop :=
 GrowM N lo hi w v m n A∧∀ h cap,v=.slice (some ⟨h,0,none⟩) m cap→∀ i,i < m→∃ β,w.cell? ⟨h,i,none⟩=some (.slice (some ⟨β,0,none⟩) n n)
section
variable {N lo hi:Nat} {w w':World} {v:Value} {m n:Nat} {A:Nat→Nat→Rat}
theorem GrowC.nil (h1:N≤lo) (h2:lo≤hi) (h3:hi≤w.heap.size) (A:Nat→Nat→Rat):GrowC N lo hi w (.slice none 0 0) 0 n A:=⟨GrowM.nil h1 h2 h3 A,fun _ _ _ i hi=>by omega⟩
theorem GrowC.ext (h:GrowC N lo hi w v m n A) (e:Ext w w'):GrowC N lo hi w' v m n A :=
 ⟨h.1.ext e,fun h' cap hv i hi=>by obtain⟨β,hβ⟩:=h.2 h' cap hv i hi; exact⟨β,e.cell hβ⟩⟩
theorem GrowC.chg (h:GrowC N lo hi w v m n A) {l u:Nat} (c:Chg l u w w') (hN:N≤l) (hd:hi≤l∨u≤lo):GrowC N lo hi w' v m n A :=
 ⟨h.1.chg c hN hd,fun h' cap hv i hi'=>by
  obtain⟨β,hβ⟩:=h.2 h' cap hv i hi';obtain⟨h9,cap9,β9,κ9,hv9,-,ho⟩:=h.1.own (by omega);rw [hv] at hv9;injection hv9 with e1
  injection e1 with e1
  injection e1 with e1 _
  subst e1;have:=ho.hlo;have:=ho.hhi
  exact⟨β,c.cell hβ (by show h' < l∨u≤h'; omega)⟩⟩
theorem GrowC.wide (h:GrowC N lo hi w v m n A) {hi':Nat} (h1:hi≤hi') (h2:hi'≤w.heap.size):GrowC N lo hi' w v m n A:=⟨h.1.wide h1 h2,h.2⟩
theorem GrowC.congr {B:Nat→Nat→Rat} (h:GrowC N lo hi w v m n A) (he:∀ i,i < m→∀ j,j < n→A i j=B i j):GrowC N lo hi w v m n B:=⟨h.1.congr he,h.2⟩
theorem GrowC.own (h:GrowC N lo hi w v m n A) (hm:0 < m):∃ h cap β κ,v=.slice (some ⟨h,0,none⟩) m cap∧cap≤maxLen∧OwnM N lo hi w h cap m n β κ A∧∀ i,i < m→κ i=n:=by
 obtain⟨h9,cap,β,κ,hv,hc,ho⟩:=h.1.own hm;refine⟨h9,cap,β,κ,hv,hc,ho,fun i hi'=>?_⟩;obtain⟨β',hβ⟩:=h.2 h9 cap hv i hi';rw [ho.hcell hi'] at hβ;injection hβ with hβ
 injection hβ
end
end Go.Proofs.YthkkknjcoidioaaGreat
