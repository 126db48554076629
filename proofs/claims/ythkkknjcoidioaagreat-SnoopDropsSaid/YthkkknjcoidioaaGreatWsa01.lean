import Derived.Test.YthkkknjcoidioaaGreatWb01
import Derived.Test.YthkkknjcoidioaaGreatWb02
import Derived.Test.YthkkknjcoidioaaGreatWb03
import Derived.Test.YthkkknjcoidioaaGreatWb04
import Derived.Test.YthkkknjcoidioaaGreatWb05
import Derived.Test.YthkkknjcoidioaaGreatWb06
import Derived.Test.YthkkknjcoidioaaGreatWb07
import Derived.Test.YthkkknjcoidioaaGreatWb08
import Derived.Test.YthkkknjcoidioaaGreatWb09
import Derived.Test.YthkkknjcoidioaaGreatWb10
import Derived.Test.YthkkknjcoidioaaGreatWb11
import Derived.Test.YthkkknjcoidioaaGreatWb12
import Derived.Test.YthkkknjcoidioaaGreatWb13
import Derived.Test.YthkkknjcoidioaaGreatWb14
import Derived.Test.YthkkknjcoidioaaGreatWb15
import Derived.Test.YthkkknjcoidioaaGreatWb16
import Derived.Test.YthkkknjcoidioaaGreatWb17
import Derived.Test.YthkkknjcoidioaaGreatWb18
import Derived.Test.YthkkknjcoidioaaGreatWb19
import Derived.Test.YthkkknjcoidioaaGreatWb20
import Derived.Test.YthkkknjcoidioaaGreatWb21
import Derived.Test.YthkkknjcoidioaaGreatWb22
import Derived.Test.YthkkknjcoidioaaGreatWb23
import Derived.Test.YthkkknjcoidioaaGreatWb24
import Derived.Test.YthkkknjcoidioaaGreatWb25
import Derived.Test.YthkkknjcoidioaaGreatWb26
import Derived.Test.YthkkknjcoidioaaGreatWb27
import Derived.Test.YthkkknjcoidioaaGreatWb28
import Derived.Test.YthkkknjcoidioaaGreatWb29
import Derived.Test.YthkkknjcoidioaaGreatWb30
import Derived.Test.YthkkknjcoidioaaGreatWb31
import Derived.Test.YthkkknjcoidioaaGreatWb32
import Derived.Test.YthkkknjcoidioaaGreatWb33
import Derived.Test.YthkkknjcoidioaaGreatWb34
import Derived.Test.YthkkknjcoidioaaGreatWb35
import Derived.Test.YthkkknjcoidioaaGreatWb36
import Derived.Test.YthkkknjcoidioaaGreatWb37
import Derived.Test.YthkkknjcoidioaaGreatWb38
import Derived.Test.YthkkknjcoidioaaGreatWb39
import Derived.Test.YthkkknjcoidioaaGreatWb40
import Derived.Test.YthkkknjcoidioaaGreatWb41
import Derived.Test.YthkkknjcoidioaaGreatWb42
import Derived.Test.YthkkknjcoidioaaGreatWb45
import Derived.Deep.AppendLies
import Derived.WalkKit
import Derived.WalkSpells
import Derived.WalkLawsBesides
import Derived.Lib.Hide
import Derived.Deep.RegionHeld3
import Derived.Deep.QuietTactic
import Derived.BigQuiet
import Derived.Maps.AppendAt
import Derived.Deep.DeepCutAuto
import Derived.Deep.RegionWith
import Derived.Deep.DeepMust
import Derived.Deep.CutBlock
import Derived.OrdersIn
import Derived.RegionTactic
import Derived.RangeFuncNested
import Derived.RangeFuncBound
import Derived.RangeFuncCalls
import Derived.RangeFuncLeaves
import Derived.RangeFuncBox
import Derived.Shelf.Abstract
import Derived.OwnWalkIn
import Derived.TacticsInMore
import Derived.LoopNIn
import Derived.LoopIn
import Derived.Deep.RegionLaw
import Derived.Lib.SliceRun
import Derived.Laws.IdiomCopy
import Derived.Shelf.Bits.Mul64
import Derived.Laws.EntriesVeiled
import Derived.Deep.Slices
import Derived.Deep.Strs
import Derived.Lib.SmallJoins
import Derived.ProofKit
import Derived.OpenShut
import Derived.Below
set_option linter.all false
set_option maxHeartbeats 8000000
namespace Go.Proofs.YthkkknjcoidioaaGreat
def aug (n:Nat) (N:Nat→Nat→Rat) (b:Nat→Rat) (i c:Nat):Rat:=if c < n then N i c else b i
theorem aug_null {n:Nat} {N:Nat→Nat→Rat} {b x:Nat→Rat} (i:Nat):sum (n+1) (fun c=>aug n N b i c*(if c < n then x c else -1))=sum n (fun c=>N i c*x c) - b i:=by
 rw [sum_succ,sum_congr (g:=fun c=>N i c*x c) (fun c hc=>by unfold aug; rw [if_pos hc,if_pos hc])];unfold aug;rw [if_neg (Nat.lt_irrefl n),if_neg (Nat.lt_irrefl n)]
 grind
def sol (n:Nat) (M:Nat→Nat→Rat) (p:List Nat) (c:Nat):Rat:=sum p.length (fun s=>dlt (p[s]?.getD 0) c*M s n)
theorem sum_sol {n:Nat} {M:Nat→Nat→Rat} {p:List Nat} (hp:∀ s,s < p.length→p[s]?.getD 0 < n) (f:Nat→Rat):sum n (fun c=>f c*sol n M p c)=sum p.length (fun s=>f (p[s]?.getD 0)*M s n):=by
 unfold sol;have e:∀ c,f c*sum p.length (fun s=>dlt (p[s]?.getD 0) c*M s n)=sum p.length (fun s=>f c*(dlt (p[s]?.getD 0) c*M s n)):=fun c=>(sum_mul _ _ _).symm
 rw [sum_congr (fun c _=>e c),sum_comm];refine sum_congr fun s hs=>?_
 have e2:∀ c,f c*(dlt (p[s]?.getD 0) c*M s n)=dlt (p[s]?.getD 0) c*(f c*M s n):=fun c=>by grind
 rw [sum_congr (fun c _=>e2 c),sum_dlt (hp s hs) (fun c=>f c*M s n)]
theorem solve_ok {m n:Nat} {N M:Nat→Nat→Rat} {b:Nat→Rat} {p:List Nat} (h:Rref m (n+1) (aug n N b) M p) (hn:∀ s,s < p.length→p[s]?.getD 0≠n) :
  ∀ i,i < m→sum n (fun c=>N i c*sol n M p c)=b i:=by
 have hp:∀ s,s < p.length→p[s]?.getD 0 < n:=fun s hs=>by have:=h.low s hs; have:=hn s hs; omega
 have hz:∀ i,i < m→sum (n+1) (fun c=>M i c*(if c < n then sol n M p c else -1))=0:=by
  intro i hi;rw [sum_succ,if_neg (Nat.lt_irrefl n),sum_congr (g:=fun c=>M i c*sol n M p c) (fun c hc=>by rw [if_pos hc]),sum_sol hp];rw [sum_congr (g:=fun s=>dlt i s*M s n) (fun s hs=>by rw [h.unit s hs i hi])]
  rcases Nat.lt_or_ge i p.length with h1 | h1
  ·rw [sum_dlt h1 (fun s=>M s n)]; grind
  ·rw [h.zero i h1 hi n (by omega),sum_eq_zero (fun s hs=>by rw [dlt_ne (by omega)]; grind)]; grind
 intro i hi;have:=h.back.null hz i hi;rw [aug_null] at this
 grind
theorem solve_no {m n:Nat} {N M:Nat→Nat→Rat} {b:Nat→Rat} {p:List Nat} (h:Rref m (n+1) (aug n N b) M p) {s:Nat} (hs:s < p.length) (hn:p[s]?.getD 0=n) :
  ∃ y:Nat→Rat,(∀ c,c < n→sum m (fun i=>y i*N i c)=0)∧sum m (fun i=>y i*b i)=1:=by
 obtain⟨T,hT⟩:=h.there;have hsm:s < m:=Nat.lt_of_lt_of_le hs h.len;refine⟨T s,fun c hc=>?_,?_⟩
 ·have h1:=hT s hsm c;rw [h.left s hs c (by omega),mm] at h1;rw [h1];exact sum_congr fun k _=>by unfold aug; rw [if_pos hc]
 ·have h1:=hT s hsm n;have h2:=h.unit s hs s hsm;rw [hn,dlt_same] at h2;rw [h2,mm] at h1;rw [h1];exact sum_congr fun k _=>by unfold aug; rw [if_neg (Nat.lt_irrefl n)]
theorem orth_av {m n:Nat} {A:Nat→Nat→Rat} {P v:Nat→Rat} (h:Orth m n A P v) (y:Nat→Rat):sum m (fun k=>av n A y k*(P k*v k))=0:=by
 rw [←dual_av];exact sum_eq_zero fun a ha=>by rw [h a ha]; grind
variable {m n:Nat} {A M X M':Nat→Nat→Rat} {P:Nat→Rat} {p p':List Nat}
theorem without_nsol {P L x:Nat→Rat} {i:Nat} (hi:i < m+1) (h:Nsol m n (fun j c=>A (skip i j) c) (fun j=>P (skip i j)) (fun j=>L (skip i j)) x) :
  Nsol (m+1) n A P (fun k=>if k=i then av n A x i else L k) x:=by
 rw [nsol_orth] at h ⊢;intro a ha;rw [←sum_skip hi];have h1:=h a ha
 have e:∀ j,A (skip i j) a*(P (skip i j)*(av n A x (skip i j) - if skip i j=i then av n A x i else L (skip i j)))=A (skip i j) a*(P (skip i j)*(av n (fun j c=>A (skip i j) c) x j - L (skip i j))):=by
  intro j; rw [if_neg (skip_ne i j)]; rfl
 simp only [e,h1,if_true]
 grind
theorem alone (h:Model (m+1) n A M X P p) {L x:Nat→Rat} {i:Nat} (hi:i < m+1) (hx:Nsol m n (fun j c=>A (skip i j) c) (fun j=>P (skip i j)) (fun j=>L (skip i j)) x) :
  (1 - hd A X P p i)*(av n A x i - L i)=sum (m+1) (fun j=>gf A X p i j*P j*L j) - L i:=by
 have h1:=fits_fit h.rr h.pos h.kx (without_nsol hi hx) i hi
 have e:∀ j,fits p.length (bas A p) X i j*P j*(if j=i then av n A x i else L j)=gf A X p i j*P j*L j+dlt i j*(gf A X p i j*P j*(av n A x i - L i)):=by
  intro j
  by_cases hj:j=i
  ·subst hj; rw [if_pos rfl,dlt_same]; unfold gf; grind
  ·rw [if_neg hj,dlt_ne (fun e=>hj e.symm)]; unfold gf; grind
 rw [sum_congr (fun j _=>e j),sum_add,sum_dlt hi (fun j=>gf A X p i j*P j*(av n A x i - L i))] at h1;unfold hd
 grind
theorem obj_fall {P L x x':Nat→Rat} {i:Nat} (hi:i < m+1) (hx:Nsol (m+1) n A P L x) (hx':Nsol m n (fun j c=>A (skip i j) c) (fun j=>P (skip i j)) (fun j=>L (skip i j)) x') :
  obj (m+1) P (fun k=>av n A x k - L k)=obj m (fun j=>P (skip i j)) (fun j=>av n (fun j c=>A (skip i j) c) x' j - L (skip i j))+(av n A x' i - L i)*(P i*(av n A x i - L i)):=by
 have ho:=nsol_orth.1 hx;have hs:=nsol_orth.1 (without_nsol hi hx');have o1:=orth_av ho (fun c=>x c - x' c);have o2:=orth_av hs (fun c=>x c - x' c)
 have hfall:obj m (fun j=>P (skip i j)) (fun j=>av n (fun j c=>A (skip i j) c) x' j - L (skip i j))=sum (m+1) (fun k=>P k*((av n A x' k - if k=i then av n A x' i else L k)*(av n A x' k - if k=i then av n A x' i else L k))):=by
  rw [←sum_skip hi];unfold obj
  have e:∀ j,(av n A x' (skip i j) - if skip i j=i then av n A x' i else L (skip i j))=av n (fun j c=>A (skip i j) c) x' j - L (skip i j):=by
   intro j; rw [if_neg (skip_ne i j)]; rfl
  simp only [e,if_true]
  grind
 rw [hfall];unfold obj
 have e1:∀ k,P k*((av n A x k - L k)*(av n A x k - L k))=av n A (fun c=>x c - x' c) k*(P k*(av n A x k - L k))+(av n A (fun c=>x c - x' c) k*(P k*(av n A x' k - if k=i then av n A x' i else L k))+(P k*((av n A x' k - if k=i then av n A x' i else L k)*(av n A x' k - if k=i then av n A x' i else L k))+dlt i k*((av n A x' i - L i)*(P k*(av n A x k - L k))))):=by
  intro k;rw [av_sub]
  by_cases hk:k=i
  ·subst hk; rw [if_pos rfl,dlt_same]; grind
  ·rw [if_neg hk,dlt_ne (fun e=>hk e.symm)]; grind
 rw [sum_congr (fun k _=>e1 k),sum_add,sum_add,sum_add,o1,o2,sum_dlt hi (fun k=>(av n A x' i - L i)*(P k*(av n A x k - L k)))]
 grind
theorem reg_solve {n:Nat} {K:Nat→Nat→Rat} (hK:Reg n K) (b:Nat→Rat):(rref n (aug n K b) (n+1)).2.contains n=false∧∀ i,i < n→sum n (fun c=>K i c*sol n (rref n (aug n K b) (n+1)).1 (rref n (aug n K b) (n+1)).2 c)=b i:=by
 have hR:=rref_ok n (aug n K b) (n+1)
 have hno:∀ s,s < (rref n (aug n K b) (n+1)).2.length→(rref n (aug n K b) (n+1)).2[s]?.getD 0≠n:=by
  intro s hs he;obtain⟨y,h1,h2⟩:=solve_no hR hs he;obtain⟨h3,-⟩:=inv_ok (rref_ok n (besideI n K) n) ((inv_iff n K).2 hK)
  have hy:∀ c,c < n→y c=0:=by
   intro c hc
   have e:sum n (fun d=>sum n (fun i=>y i*K i d)*(rref n (besideI n K) n).1 d (n+c))=y c:=by
    have e1:sum n (fun d=>sum n (fun i=>y i*K i d)*(rref n (besideI n K) n).1 d (n+c))=sum n (fun i=>y i*mm n K (fun a b=>(rref n (besideI n K) n).1 a (n+b)) i c):=by
     rw [show sum n (fun d=>sum n (fun i=>y i*K i d)*(rref n (besideI n K) n).1 d (n+c))=sum n (fun d=>sum n (fun i=>y i*(K i d*(rref n (besideI n K) n).1 d (n+c)))) from sum_congr fun d _=>by rw [←sum_mul_right]; exact sum_congr fun i _=>by grind,sum_comm];exact sum_congr fun i _=>by unfold mm; rw [sum_mul]
    rw [e1,show sum n (fun i=>y i*mm n K (fun a b=>(rref n (besideI n K) n).1 a (n+b)) i c)=sum n (fun i=>y i*dlt i c) from sum_congr fun i hi=>by rw [h3 i hi c hc]];exact sum_dlt' hc y
   rw [←e];exact sum_eq_zero fun d hd=>by rw [h1 d hd]; grind
  rw [sum_eq_zero (fun i hi=>by rw [hy i hi]; grind)] at h2;exact absurd h2 (by decide)
 refine⟨?_,solve_ok hR hno⟩;cases hc:(rref n (aug n K b) (n+1)).2.contains n with
 | false=>rfl
 | true =>
  rw [List.contains_iff_mem] at hc;obtain⟨s,hs,he⟩:=List.getElem_of_mem hc;exact absurd (by rw [List.getElem?_eq_getElem hs]; simpa using he) (hno s hs)
theorem Inv2.alone {m n:Nat} {A Q:Nat→Nat→Rat} {P L x x':Nat→Rat} (h:Inv2 (m+1) n A Q P) {i:Nat} (hi:i < m+1) (hx:Nsol (m+1) n A P L x) (hx':Nsol m n (fun j c=>A (skip i j) c) (fun j=>P (skip i j)) (fun j=>L (skip i j)) x') :
  rdn n A Q P i*(av n A x' i - L i)=av n A x i - L i:=by
 obtain⟨hM,hl,hg⟩:=full_model h.pos h.kq h.qk;have h1:=Go.Proofs.YthkkknjcoidioaaGreat.alone hM hi hx';have h2:=fits_fit hM.rr h.pos hM.kx hx i hi;rw [rdn_hd (m:=m) hg];rw [h1];unfold gf;rw [h2]
theorem Inv2.drops {m n:Nat} {A Q:Nat→Nat→Rat} {P L x x':Nat→Rat} (h:Inv2 (m+1) n A Q P) {i:Nat} (hi:i < m+1) (hx:Nsol (m+1) n A P L x) (hx':Nsol m n (fun j c=>A (skip i j) c) (fun j=>P (skip i j)) (fun j=>L (skip i j)) x') (hr:rdn n A Q P i≠0) :
  P i*((av n A x i - L i)*(av n A x i - L i)) / rdn n A Q P i=obj (m+1) P (fun k=>av n A x k - L k) - obj m (fun j=>P (skip i j)) (fun j=>av n (fun j c=>A (skip i j) c) x' j - L (skip i j)):=by
 have h1:=h.alone hi hx hx';rw [obj_fall hi hx hx'];have h3:av n A x' i - L i=(av n A x i - L i) / rdn n A Q P i:=by grind
 rw [h3]
 grind
end Go.Proofs.YthkkknjcoidioaaGreat
namespace Go.Proofs.YthkkknjcoidioaaGreat
open Go.RowKit
def nsv (n:Nat) (K:Nat→Nat→Rat) (b:Nat→Rat):Nat→Rat:=sol n (rref n (aug n K b) (n+1)).1 (rref n (aug n K b) (n+1)).2
end Go.Proofs.YthkkknjcoidioaaGreat
namespace Go.Proofs.YthkkknjcoidioaaGreat
theorem nsv_sum {n:Nat} {K:Nat→Nat→Rat} {b:Nat→Rat} (h:Reg n K):∀ i,i < n→sum n (fun c=>K i c*nsv n K b c)=b i:=(reg_solve h b).2
theorem nsv_nsol {m n:Nat} {X:Nat→Nat→Rat} {y p:Nat→Rat} (h:Reg n (nmat X p m)):Nsol m n X p y (nsv n (nmat X p m) (nrhs X y p m)):=by
 intro a ha;rw [sum_congr (fun b _=>by rw [←nmat_nm5]),nsv_sum h a ha];exact sum_congr fun t _=>by grind
theorem inv_apply {n:Nat} {K:Nat→Nat→Rat} (h:Reg n K) (b:Nat→Rat):∀ i,i < n→sum n (fun c=>invM n K i c*b c)=nsv n K b i:=by
 refine reg_unique h (b:=b) (fun i hi=>?_) (nsv_sum h)
 have e:sum n (fun c=>K i c*sum n (fun d=>invM n K c d*b d))=sum n (fun d=>mm n K (invM n K) i d*b d):=by
  unfold mm;rw [sum_congr (g:=fun c=>sum n (fun d=>K i c*invM n K c d*b d)) (fun c _=>by rw [←sum_mul]; exact sum_congr fun d _=>by grind),sum_comm];exact sum_congr fun d _=>by rw [sum_mul_right]
 rw [e,sum_congr (fun d hd=>by rw [(regInv h).2 i hi d hd])];exact sum_dlt hi b
theorem xS_nsv {m n:Nat} {X:Nat→Nat→Rat} {y p:Nat→Rat} (h:Reg n (nmat X p m)):∀ i,i < n→xS m n X y p i=nsv n (nmat X p m) (nrhs X y p m) i:=inv_apply h _
theorem xS_nsol {m n:Nat} {X:Nat→Nat→Rat} {y p:Nat→Rat} (h:Reg n (nmat X p m)):Nsol m n X p y (xS m n X y p):=by
 intro a ha;rw [←nsv_nsol h a ha];exact sum_congr fun b hb=>by rw [xS_nsv h b hb]
section
variable {m n:Nat} {X:Nat→Nat→Rat} {y p:Nat→Rat}
end
end Go.Proofs.YthkkknjcoidioaaGreat
namespace Go.Proofs.YthkkknjcoidioaaGreat
open Go.RowKit
theorem drop_eq {m n:Nat} {X:Nat→Nat→Rat} {y p:Nat→Rat} (d:Md (m+1) n X y p) (hr:Reg n (nmat X p (m+1))) {i:Nat} (hi:i < m+1) (hr':Reg n (nmat (fun j=>X (skip i j)) (fun j=>p (skip i j)) m)) (h0:rS (m+1) n X p i≠0) :
  tS (m+1) n X y p i=obj (m+1) p (vS (m+1) n X y p) - obj m (fun j=>p (skip i j)) (vS m n (fun j=>X (skip i j)) (fun j=>y (skip i j)) (fun j=>p (skip i j))) :=
 (d.inv2 hr).drops hi (xS_nsol hr) (xS_nsol hr') h0
theorem obj_ht {m n:Nat} {X:Nat→Nat→Rat} {y p:Nat→Rat} (d:Md m n X y p):Ht 1300000000 (obj m p (vS m n X y p)) :=
 sum_ht (n:=m) (k:=400+(90000000+90000000)) (fun i hi=>(d.hp i hi).mul ((d.v_ht i hi).mul (d.v_ht i hi))) (Nat.le_refl _) (by have:=d.m7; omega)
set_option maxRecDepth 100000 in
theorem drops_out {N lo hi:Nat} {w:World} {v:Value} {Z:Lin} (h:LinV N lo hi w v Z) (z:Int) (hs:few34 7 4 Z=false) :
  Calls Tryz.prog 3 #[v,.int .i64 z] w (RetV w (.bool true)):=by
 have hI:=h;obtain⟨A1,c1,A2,c2,A3,c3,rfl,-⟩:=h.parts;have HS:=Lib.hid hs;clear h hs;go_enter Tryz.func3,Tryz.ntmps3;go_wp2_with (go_at_call 10; refine Hid.out ?_);refine boxesC1 ?_;intro W hE hsz B0;refine (l38_known W).mono ?_;rintro e w1 ⟨rfl,e1⟩;replace hE:=hE.trans e1;replace B0:=e1.block B0;have hs1:=e1.size;replace hsz:w.heap.size < w1.heap.size:=by omega
 clear e1 hs1;obtain⟨a0,a1,a2,-⟩:=cells3 B0;go_wp2_with (go_at_call 11; refine Hid.out ?_);refine (l38_few (hI.ext hE)).mono ?_;rintro e w2 ⟨rfl,e2⟩;rw [HS.out];replace hE:=hE.trans e2;replace B0:=e2.block B0;replace hsz:=blk_lt B0;clear a0 a1 a2;obtain⟨a0,a1,a2,-⟩:=cells3 B0;clear e2;go_wp2;go_ret;exact⟨rfl,hE⟩
set_option maxRecDepth 100000 in
theorem drops_bad {N lo hi:Nat} {w:World} {v:Value} {Z:Lin} (h:LinV N lo hi w v Z) (z:Int) (hf:few34 7 4 Z=true) (hc:code38 Z 0 (fun _=>raw 0)≠0∨(code38 Z 0 (fun _=>raw 0)=0∧inB Z.m z=false)) :
  Calls Tryz.prog 3 #[v,.int .i64 z] w (RetV w (.bool true)):=by
 have hI:=h
 have hN:N≤w.heap.size:=by
  obtain⟨s1,s2,s3,-,g1,-⟩:=h;exact g1.le
 obtain⟨A1,c1,A2,c2,A3,c3,rfl,-⟩:=h.parts;have HF:=Lib.hid hf
 rcases hc with hc | ⟨hc,hi'⟩
 ·obtain⟨r,hr⟩:=hid_eq (code38 Z 0 (fun _=>raw 0));have hr0:(r == 0)=false:=by rw [hr.out]; simpa using hc
  have hr1:(r != 0)=true:=by simpa using hr0
  clear h hf hc;go_enter Tryz.func3,Tryz.ntmps3;go_wp2_with (go_at_call 10; refine Hid.out ?_);refine boxesC1 ?_;intro W hE hsz B0;refine (l38_known W).mono ?_;rintro e w1 ⟨rfl,e1⟩;replace hE:=hE.trans e1;replace B0:=e1.block B0;have hs1:=e1.size;replace hsz:w.heap.size < w1.heap.size:=by omega
  clear e1 hs1;obtain⟨a0,a1,a2,-⟩:=cells3 B0;go_wp2_with (go_at_call 11; refine Hid.out ?_);refine (l38_few (hI.ext hE)).mono ?_;rintro e w2 ⟨rfl,e2⟩;rw [HF.out];replace hE:=hE.trans e2;replace B0:=e2.block B0;replace hsz:=blk_lt B0;clear a0 a1 a2;obtain⟨a0,a1,a2,-⟩:=cells3 B0;clear e2;go_wp2_with (go_at_call 12; refine Hid.out ?_);refine (l38_checked (R:=fun _=>raw 0) (hI.ext hE) (lsr_nil (N:=N) (by have:=hE.size; omega) _) HF.out (fun i hi=>absurd hi (by omega))).mono ?_;rintro e w3 ⟨rfl,e3⟩;rw [←hr.out];replace hE:=hE.trans e3;replace B0:=e3.block B0;replace hsz:=blk_lt B0;clear a0 a1 a2;obtain⟨a0,a1,a2,-⟩:=cells3 B0;clear e3;go_wp2;go_ret;exact⟨rfl,hE⟩
 ·have HC:=Lib.hid hc;have HB:=Lib.hid hi';clear h hf hc hi';go_enter Tryz.func3,Tryz.ntmps3;go_wp2_with (go_at_call 10; refine Hid.out ?_);refine boxesC1 ?_;intro W hE hsz B0;refine (l38_known W).mono ?_;rintro e w1 ⟨rfl,e1⟩;replace hE:=hE.trans e1;replace B0:=e1.block B0;have hs1:=e1.size;replace hsz:w.heap.size < w1.heap.size:=by omega
  clear e1 hs1;obtain⟨a0,a1,a2,-⟩:=cells3 B0;go_wp2_with (go_at_call 11; refine Hid.out ?_);refine (l38_few (hI.ext hE)).mono ?_;rintro e w2 ⟨rfl,e2⟩;rw [HF.out];replace hE:=hE.trans e2;replace B0:=e2.block B0;replace hsz:=blk_lt B0;clear a0 a1 a2;obtain⟨a0,a1,a2,-⟩:=cells3 B0;clear e2;go_wp2_with (go_at_call 12; refine Hid.out ?_);refine (l38_checked (R:=fun _=>raw 0) (hI.ext hE) (lsr_nil (N:=N) (by have:=hE.size; omega) _) HF.out (fun i hi=>absurd hi (by omega))).mono ?_;rintro e w3 ⟨rfl,e3⟩;rw [HC.out];replace hE:=hE.trans e3;replace B0:=e3.block B0;replace hsz:=blk_lt B0;clear a0 a1 a2;obtain⟨a0,a1,a2,-⟩:=cells3 B0;clear e3;go_wp2_with (go_at_call 13; refine Hid.out ?_);refine (l38_inside (hI.ext hE) _).mono ?_;rintro e w4 ⟨rfl,e4⟩;rw [HB.out];replace hE:=hE.trans e4;replace B0:=e4.block B0;replace hsz:=blk_lt B0;clear a0 a1 a2;obtain⟨a0,a1,a2,-⟩:=cells3 B0;clear e4;go_wp2;go_ret;exact⟨rfl,hE⟩
set_option maxRecDepth 100000 in
theorem drops_deg {N lo hi:Nat} {w:World} {A1 A2 A3:Option Addr} {c1 c2 c3 m n:Nat} {X:Nat→Nat→Rat} {y p:Nat→Rat} {Z:Lin} (hI:LinV N lo hi w (.agg #[.slice A1 m c1,.slice A2 m c2,.slice A3 m c3]) Z) (hm:Z.m=m) (hf:few34 7 4 Z=true) (hc:code38 Z 0 (fun _=>raw 0)=0)
  (h1:MtV N lo hi w (.slice A1 m c1) m n X) (h2:LsV N lo hi w (.slice A2 m c2) m y) (h3:LsV N lo hi w (.slice A3 m c3) m p) (d:Md m n X y p) (hr:Reg n (nmat X p m)) (z:Int) (hz:inB m z=true) (h0:rS m n X p z.toNat=0) :
  Calls Tryz.prog 3 #[.agg #[.slice A1 m c1,.slice A2 m c2,.slice A3 m c3],.int .i64 z] w (RetV w (.bool true)):=by
 have H00:=Lib.hid h0;obtain⟨i,hiz⟩:∃ i,i=z.toNat:=⟨_,rfl⟩
 have him:i < m:=by rw [hiz]; exact (inB_true hz).2
 have hzi:z=(i:Int):=by rw [hiz]; exact (inB_true hz).1
 have HB:Hid (inB Z.m z=true):=by rw [Hid,hm]; exact hz
 have HBm:Hid (inB m z=true):=hz;have HF:=Lib.hid hf;have HC:=Lib.hid hc;have HD:=Lib.hid d;have HG:=Lib.hid hr;rw [←hiz] at h0;clear hiz;subst hzi;have HIZ:Hid (((i:Nat):Int).toNat=i):=Int.toNat_natCast i;have hI1:=h1;have hI2:=h2;have hI3:=h3;have hN:=h1.le;have hm0:=d.m0;have hm7:=d.m7;have hn0:=d.n0;have hn4:=d.n4;clear hz hf hc h1 h2 h3 d hr hm;go_enter Tryz.func3,Tryz.ntmps3;go_wp2_with (go_at_call 10; refine Hid.out ?_);refine boxesC1 ?_;intro W hE hsz B0;refine (l38_known W).mono ?_;rintro e w1 ⟨rfl,e1⟩;replace hE:=hE.trans e1;replace B0:=e1.block B0;have hs1:=e1.size;replace hsz:w.heap.size < w1.heap.size:=by omega
 clear e1 hs1;obtain⟨a0,a1,a2,-⟩:=cells3 B0;go_wp2_with (go_at_call 11; refine Hid.out ?_);refine (l38_few (hI.ext hE)).mono ?_;rintro e w2 ⟨rfl,e2⟩;rw [HF.out];replace hE:=hE.trans e2;replace B0:=e2.block B0;replace hsz:=blk_lt B0;clear a0 a1 a2;obtain⟨a0,a1,a2,-⟩:=cells3 B0;clear e2;go_wp2_with (go_at_call 12; refine Hid.out ?_);refine (l38_checked (R:=fun _=>raw 0) (hI.ext hE) (lsr_nil (N:=N) (by have:=hE.size; omega) _) HF.out (fun i hi=>absurd hi (by omega))).mono ?_;rintro e w3 ⟨rfl,e3⟩;rw [HC.out];replace hE:=hE.trans e3;replace B0:=e3.block B0;replace hsz:=blk_lt B0;clear a0 a1 a2;obtain⟨a0,a1,a2,-⟩:=cells3 B0;clear e3;go_wp2_with (go_at_call 13; refine Hid.out ?_);refine (l38_inside (hI.ext hE) _).mono ?_;rintro e w4 ⟨rfl,e4⟩;rw [HB.out];replace hE:=hE.trans e4;replace B0:=e4.block B0;replace hsz:=blk_lt B0;clear a0 a1 a2;obtain⟨a0,a1,a2,-⟩:=cells3 B0;clear e4;go_wp2_with (go_at_call 14; refine Hid.out ?_);refine (sn_Statistic_deg (hI1.ext hE) (hI2.ext hE) (hI3.ext hE) HD.out HG.out _ HBm.out H00.out).mono ?_;rintro e w5 ⟨rfl,e5⟩;unfold nilRat;replace hE:=hE.trans e5;replace B0:=e5.block B0;replace hsz:=blk_lt B0;clear a0 a1 a2;obtain⟨a0,a1,a2,-⟩:=cells3 B0;clear e5;go_upto_region 6 with (fail);refine boxes1 ?_;intro w6 e6 hsz6 B5;replace hE:=hE.trans e6;replace B0:=e6.block B0;replace hsz:=blk_lt B0;clear a0 a1 a2;obtain⟨a0,a1,a2,-⟩:=cells3 B0;clear e6 hsz6 B5
 by_cases hm1:m=1
 ·have t1:((m:Int) == 1)=true:=by rw [hm1]; rfl
  clear hm1;go_wp2;go_ret;exact⟨rfl,hE⟩
 ·have t1:((m:Int) == 1)=false:=by rw [beq_eq_false_iff_ne]; omega
  have hm1':1 < m:=by omega
  have HRN:Hid (Md (m - 1) n (fun j=>X (skip i j)) (fun j=>y (skip i j)) (fun j=>p (skip i j))∧¬ Reg n (nmat (fun j=>X (skip i j)) (fun j=>p (skip i j)) (m - 1))):=by
   obtain⟨k,rfl⟩:∃ k,m=k+1:=⟨m - 1,by omega⟩
   rw [Nat.add_sub_cancel];exact⟨HD.out.cut (by omega),(HD.out.zero HG.out him).1 h0⟩
  clear hm1 h0;go_wp2_with (go_at_call 16; refine Hid.out ?_);refine (l34_without (hI1.ext hE) (hI2.ext hE) (hI3.ext hE) hm1' (by omega) hn0 (by omega) rfl him).mono ?_;rintro e w7 ⟨E1,k1,E2,k2,E3,k3,rfl,g1,g2,g3,e7⟩;replace hE:=hE.trans e7;replace B0:=e7.block B0;replace hsz:=blk_lt B0;clear a0 a1 a2;obtain⟨a0,a1,a2,-⟩:=cells3 B0;clear e7;go_wp2_with (go_at_call 15; refine Hid.out ?_);refine (l34_solve0 g1 g2 g3 HRN.out.1 HRN.out.2).mono ?_;rintro e w8 ⟨rfl,e8⟩;go_wp2;go_ret;exact⟨rfl,hE.trans e8⟩
set_option maxRecDepth 100000 in
theorem drops_good {N lo hi:Nat} {w:World} {A1 A2 A3:Option Addr} {c1 c2 c3 m n:Nat} {X:Nat→Nat→Rat} {y p:Nat→Rat} {Z:Lin} (hI:LinV N lo hi w (.agg #[.slice A1 m c1,.slice A2 m c2,.slice A3 m c3]) Z) (hm:Z.m=m) (hf:few34 7 4 Z=true) (hc:code38 Z 0 (fun _=>raw 0)=0)
  (h1:MtV N lo hi w (.slice A1 m c1) m n X) (h2:LsV N lo hi w (.slice A2 m c2) m y) (h3:LsV N lo hi w (.slice A3 m c3) m p) (d:Md m n X y p) (hr:Reg n (nmat X p m)) (z:Int) (hz:inB m z=true) (h0:rS m n X p z.toNat≠0) :
  Calls Tryz.prog 3 #[.agg #[.slice A1 m c1,.slice A2 m c2,.slice A3 m c3],.int .i64 z] w (RetV w (.bool true)):=by
 have H00:=Lib.hid h0
 have hm1':1 < m:=by
  have:=d.m0
  rcases Nat.lt_or_ge 1 m with h9 | h9
  ·exact h9
  ·exfalso
   obtain rfl:m=1:=by omega
   obtain⟨h8,h7⟩:=inB_true hz;have h6:z.toNat=0:=by omega
   exact h0 (by rw [h6]; exact d.zero1 hr)
 have t1:((m:Int) == 1)=false:=by rw [beq_eq_false_iff_ne]; omega
 obtain⟨i,hiz⟩:∃ i,i=z.toNat:=⟨_,rfl⟩
 have him:i < m:=by rw [hiz]; exact (inB_true hz).2
 have hzi:z=(i:Int):=by rw [hiz]; exact (inB_true hz).1
 have HB:Hid (inB Z.m z=true):=by rw [Hid,hm]; exact hz
 have HBm:Hid (inB m z=true):=hz;have HF:=Lib.hid hf;have HC:=Lib.hid hc;have HD:=Lib.hid d;have HG:=Lib.hid hr;rw [←hiz] at h0;clear hiz;subst hzi;have HIZ:Hid (((i:Nat):Int).toNat=i):=Int.toNat_natCast i;have hI1:=h1;have hI2:=h2;have hI3:=h3;have hN:=h1.le;have hm0:=d.m0;have hm7:=d.m7;have hn0:=d.n0;have hn4:=d.n4;clear hz hf hc h1 h2 h3 d hr hm;go_enter Tryz.func3,Tryz.ntmps3;go_wp2_with (go_at_call 10; refine Hid.out ?_);refine boxesC1 ?_;intro W hE hsz B0;refine (l38_known W).mono ?_;rintro e w1 ⟨rfl,e1⟩;replace hE:=hE.trans e1;replace B0:=e1.block B0;have hs1:=e1.size;replace hsz:w.heap.size < w1.heap.size:=by omega
 clear e1 hs1;obtain⟨a0,a1,a2,-⟩:=cells3 B0;go_wp2_with (go_at_call 11; refine Hid.out ?_);refine (l38_few (hI.ext hE)).mono ?_;rintro e w2 ⟨rfl,e2⟩;rw [HF.out];replace hE:=hE.trans e2;replace B0:=e2.block B0;replace hsz:=blk_lt B0;clear a0 a1 a2;obtain⟨a0,a1,a2,-⟩:=cells3 B0;clear e2;go_wp2_with (go_at_call 12; refine Hid.out ?_);refine (l38_checked (R:=fun _=>raw 0) (hI.ext hE) (lsr_nil (N:=N) (by have:=hE.size; omega) _) HF.out (fun i hi=>absurd hi (by omega))).mono ?_;rintro e w3 ⟨rfl,e3⟩;rw [HC.out];replace hE:=hE.trans e3;replace B0:=e3.block B0;replace hsz:=blk_lt B0;clear a0 a1 a2;obtain⟨a0,a1,a2,-⟩:=cells3 B0;clear e3;go_wp2_with (go_at_call 13; refine Hid.out ?_);refine (l38_inside (hI.ext hE) _).mono ?_;rintro e w4 ⟨rfl,e4⟩;rw [HB.out];replace hE:=hE.trans e4;replace B0:=e4.block B0;replace hsz:=blk_lt B0;clear a0 a1 a2;obtain⟨a0,a1,a2,-⟩:=cells3 B0;clear e4;go_wp2_with (go_at_call 14; refine Hid.out ?_)
 have HRN:Hid (Md (m - 1) n (fun j=>X (skip i j)) (fun j=>y (skip i j)) (fun j=>p (skip i j))∧Reg n (nmat (fun j=>X (skip i j)) (fun j=>p (skip i j)) (m - 1))∧tS m n X y p i=obj m p (vS m n X y p) - obj (m - 1) (fun j=>p (skip i j)) (vS (m - 1) n (fun j=>X (skip i j)) (fun j=>y (skip i j)) (fun j=>p (skip i j)))):=by
  obtain⟨k,rfl⟩:∃ k,m=k+1:=⟨m - 1,by omega⟩
  rw [Nat.add_sub_cancel];have hrg:=Classical.not_not.1 (fun h9=>h0 ((HD.out.zero HG.out him).2 h9));exact⟨HD.out.cut (by omega),hrg,drop_eq HD.out HG.out him hrg h0⟩
 refine (sn_Statistic (hI1.ext hE) (hI2.ext hE) (hI3.ext hE) HD.out HG.out _ HBm.out H00.out).mono ?_;rw [HIZ.out];obtain⟨T,hT⟩:=hid_eq (tS m n X y p i);have HTZ:Hid (Sz T):=by rw [Hid,hT.out]; exact (HD.out.t_ht i him).sz (by omega)
 rw [←hT.out] at HRN ⊢;intro e w5 hh;obtain⟨nb,Q1,q1,l1,Q2,q2,l2,rfl,hnb,y1,y2,e5⟩:=hh.form;replace hE:=hE.trans e5;replace B0:=e5.block B0;replace hsz:=blk_lt B0;clear a0 a1 a2;obtain⟨a0,a1,a2,-⟩:=cells3 B0;clear hh;go_upto_region 6 with (fail);refine boxes1 ?_;intro w6 e6 hsz6 B5;have hR:=RatV.mk hnb (y1.ext e6) (y2.ext e6);replace hE:=hE.trans e6;replace B0:=e6.block B0;replace hsz:=blk_lt B0;clear a0 a1 a2;obtain⟨a0,a1,a2,-⟩:=cells3 B0;obtain⟨g5,hg5⟩:∃ g5,g5=w5.heap.size:=⟨_,rfl⟩
 rw [←hg5] at B5 ⊢;clear e5 e6 hsz6 hg5 y1 y2 hnb h0;obtain⟨p0,p1,p2,p3,-⟩:=cells4 B5;go_wp2_with (go_at_call 17; refine Hid.out ?_);refine (r2_valid (R:=raw T) hR (by have:=(szd_raw HTZ.out).1; omega) (by have:=(szd_raw HTZ.out).2; omega)).mono ?_;rw [okR_raw];rintro e w7 ⟨rfl,e7⟩;replace hR:=hR.ext e7;replace B5:=e7.block B5;replace hE:=hE.trans e7;replace B0:=e7.block B0;replace hsz:=blk_lt B0;clear a0 a1 a2;obtain⟨a0,a1,a2,-⟩:=cells3 B0;clear e7 p0 p1 p2 p3;go_wp2_with (go_at_call 16; refine Hid.out ?_);refine (l34_without (hI1.ext hE) (hI2.ext hE) (hI3.ext hE) hm1' (by omega) hn0 (by omega) rfl him).mono ?_;rintro e w8 ⟨E1,k1,E2,k2,E3,k3,rfl,g1,g2,g3,e8⟩;replace hR:=hR.ext e8;replace B5:=e8.block B5;replace hE:=hE.trans e8;replace B0:=e8.block B0;replace hsz:=blk_lt B0;clear a0 a1 a2;obtain⟨a0,a1,a2,-⟩:=cells3 B0;clear e8;go_upto_region 14 with (fail);refine boxes1 ?_;intro w9 e9 hsz9 B9;replace g1:=MtV.all (g1.ext e9);replace g2:=LsV.all (g2.ext e9);replace g3:=LsV.all (g3.ext e9);replace hR:=hR.ext e9;replace B5:=e9.block B5;replace hE:=hE.trans e9;replace B0:=e9.block B0;replace hsz:=blk_lt B0;clear a0 a1 a2;obtain⟨a0,a1,a2,-⟩:=cells3 B0;obtain⟨g9,hg9⟩:∃ g9,g9=w8.heap.size:=⟨_,rfl⟩
 rw [←hg9] at B9 ⊢;clear e9 hsz9 hg9;obtain⟨x0,x1,x2,-⟩:=cells3 B9;go_wp2_with (go_at_call 15; refine Hid.out ?_);refine (l34_solve g1 g2 g3 HRN.out.1 HRN.out.2.1).mono ?_;rintro e w10 ⟨AX,cX,rfl,-,e10⟩;replace g1:=MtV.all (g1.ext e10);replace g2:=LsV.all (g2.ext e10);replace g3:=LsV.all (g3.ext e10);replace hR:=hR.ext e10;replace B5:=e10.block B5;replace B9:=e10.block B9;replace hE:=hE.trans e10;replace B0:=e10.block B0;replace hsz:=blk_lt B0;clear a0 a1 a2;obtain⟨a0,a1,a2,-⟩:=cells3 B0;clear e10 x0 x1 x2;obtain⟨x0,x1,x2,-⟩:=cells3 B9;obtain⟨p0,p1,p2,p3,-⟩:=cells4 B5;have HO1:=Lib.hid ((obj_ht HD.out).sz (by omega));have HO2:=Lib.hid ((obj_ht HRN.out.1).sz (by omega));obtain⟨O1,hO1⟩:=hid_eq (obj m p (vS m n X y p));obtain⟨O2,hO2⟩:=hid_eq (obj (m - 1) (fun j=>p (skip i j)) (vS (m - 1) n (fun j=>X (skip i j)) (fun j=>y (skip i j)) (fun j=>p (skip i j))));have HEQ:Hid (T=O1 - O2):=by rw [Hid,hO1.out,hO2.out]; exact HRN.out.2.2
 rw [←hO1.out] at HO1;rw [←hO2.out] at HO2;go_upto_region 17 with (fail);refine region_inv [Mn.rat N (T),Mn.eq (.agg #[.slice A1 m c1,.slice A2 m c2,.slice A3 m c3]),Mn.rat N O1,Mn.eq (.agg #[.slice E1 (m - 1) k1,.slice E2 (m - 1) k2,.slice E3 (m - 1) k3]),Mn.rat N O2,Mn.rat N (O1 - O2),Mn.eq (.bool true),Mn.eq (.bool true)] [some 72,some 73,some 74,some 75,some 76,some 77,some 78,some 4] [] [true,true,true,true,true,true,true,true] 0 (by kernel_rfl) (by kernel_rfl) (by kernel_rfl) (by kernel_rfl) (by kernel_rfl) (by kernel_rfl) (by kernel_rfl) (by kernel_rfl) ?_ ?_
 ·intro i hi hl;have hi':i=0∨i=1∨i=2∨i=3∨i=4∨i=5∨i=6∨i=7:=by have h9:i < 8:=hi; omega
  clear hi
  rcases hi' with rfl | rfl | rfl | rfl | rfl | rfl | rfl | rfl
  ·clear hl;refine stp rfl ?_;intro ac wi eI hB hA K hK;have o5:=hB 5 (by kernel_rfl);simp only [List.getElem?_toArray,List.getElem?_cons_succ,List.getElem?_cons_zero] at o5;clear hB hA;have cc0:=eI.cell p0;have cc1:=eI.cell p1;have cc2:=eI.cell p2;have cc3:=eI.cell p3;go_simp;exact hK.out _ _ (Ext.refl _) (hR.ext eI)
  ·clear hl;refine stp rfl ?_;intro ac wi eI hB hA K hK;have o2:=hB 2 (by kernel_rfl);simp only [List.getElem?_toArray,List.getElem?_cons_succ,List.getElem?_cons_zero] at o2;clear hB hA;have cc0:=eI.cell a0;have cc1:=eI.cell a1;have cc2:=eI.cell a2;go_simp;exact hK.out _ _ (Ext.refl _) rfl
  ·clear hl;refine stp rfl ?_;intro ac wi eI hB hA K hK;obtain⟨_,s73,rfl⟩:=hA 1 (by kernel_rfl) 73 rfl;clear hB hA;go_simp;refine (l38_least (hI1.ext (hE.trans eI)) (hI2.ext (hE.trans eI)) (hI3.ext (hE.trans eI)) HD.out HG.out).mono ?_;rw [←hO1.out];rintro e wj ⟨vj,rfl,hj,ej⟩;go_wp2_with fail;exact hK.out _ _ ej hj
  ·clear hl;refine stp rfl ?_;intro ac wi eI hB hA K hK;have o9:=hB 9 (by kernel_rfl);simp only [List.getElem?_toArray,List.getElem?_cons_succ,List.getElem?_cons_zero] at o9;clear hB hA;have cc0:=eI.cell x0;have cc1:=eI.cell x1;have cc2:=eI.cell x2;go_simp;exact hK.out _ _ (Ext.refl _) rfl
  ·clear hl;refine stp rfl ?_;intro ac wi eI hB hA K hK;obtain⟨_,s75,rfl⟩:=hA 3 (by kernel_rfl) 75 rfl;clear hB hA;go_simp;refine (l38_least (g1.ext eI) (g2.ext eI) (g3.ext eI) HRN.out.1 HRN.out.2.1).mono ?_;rw [←hO2.out];rintro e wj ⟨vj,rfl,hj,ej⟩;go_wp2_with fail;exact hK.out _ _ ej hj
  ·clear hl;refine stp rfl ?_;intro ac wi eI hB hA K hK;obtain⟨x74,s74,j74⟩:=hA 2 (by kernel_rfl) 74 rfl;replace j74:Mn.p (Mn.rat N O1) x74 wi:=j74;obtain⟨x76,s76,j76⟩:=hA 4 (by kernel_rfl) 76 rfl;replace j76:Mn.p (Mn.rat N O2) x76 wi:=j76;clear hB hA;go_simp;refine (l38_sub j74 j76 HO1.out HO2.out).mono ?_;rintro e wj ⟨vj,rfl,hj,ej⟩;go_wp2_with fail;exact hK.out _ _ ej hj
  ·clear hl;refine stp rfl ?_;intro ac wi eI hB hA K hK;obtain⟨x72,s72,j72⟩:=hA 0 (by kernel_rfl) 72 rfl;replace j72:Mn.p (Mn.rat N (T)) x72 wi:=j72;obtain⟨x77,s77,j77⟩:=hA 5 (by kernel_rfl) 77 rfl;replace j77:Mn.p (Mn.rat N (O1 - O2)) x77 wi:=j77;clear hB hA;go_simp;refine (r2_same j72 j77 HTZ.out HEQ.out).mono ?_;rintro e wj ⟨rfl,ej⟩;go_wp2_with fail;exact hK.out _ _ ej rfl
  ·clear hl;refine stp rfl ?_;intro ac wi eI hB hA K hK;obtain⟨_,s78,rfl⟩:=hA 6 (by kernel_rfl) 78 rfl;clear hB hA;go_simp;exact hK.out _ _ (Ext.refl _) rfl
 intro vals wz eZ hJ;have J72:Mn.p (Mn.rat N (T)) (vals 0) wz:=hJ 0 (by decide) (by decide);have J73:vals 1=(.agg #[.slice A1 m c1,.slice A2 m c2,.slice A3 m c3]):=hJ 1 (by decide) (by decide);have J74:Mn.p (Mn.rat N O1) (vals 2) wz:=hJ 2 (by decide) (by decide);have J75:vals 3=(.agg #[.slice E1 (m - 1) k1,.slice E2 (m - 1) k2,.slice E3 (m - 1) k3]):=hJ 3 (by decide) (by decide);have J76:Mn.p (Mn.rat N O2) (vals 4) wz:=hJ 4 (by decide) (by decide);have J77:Mn.p (Mn.rat N (O1 - O2)) (vals 5) wz:=hJ 5 (by decide) (by decide);have J78:vals 6=(.bool true):=hJ 6 (by decide) (by decide);have J4:vals 7=(.bool true):=hJ 7 (by decide) (by decide);clear hJ;simp only [putAll,if_true,Bool.false_eq_true,if_false,Act.put,Nat.zero_add,Nat.reduceAdd,List.setIfInBounds_toArray,List.set_cons_zero,List.set_cons_succ,J73,J75,J78,J4];clear J73 J75 J78 J4
 generalize vals 0=z72 at J72 ⊢
 generalize vals 2=z74 at J74 ⊢
 generalize vals 4=z76 at J76 ⊢
 generalize vals 5=z77 at J77 ⊢
 refine stepL_done (by kernel_rfl) ?_ _;go_wp2;go_ret;exact⟨rfl,hE.trans eZ⟩
end Go.Proofs.YthkkknjcoidioaaGreat
namespace Go.Proofs.YthkkknjcoidioaaGreat
open Go.RowKit Go.ChangeShapes Go.ChangeAt
theorem cells_lin:Tryz.prog.cellsOf 26=3:=by kernel_rfl
section
variable {H:Type} {enc:TypeId×Value→H} {w:World} {spare:Nat→Bool} {held:Bool}
instance:Inhabited Raw:=⟨⟨false,[],false,[]⟩⟩
end
end Go.Proofs.YthkkknjcoidioaaGreat
