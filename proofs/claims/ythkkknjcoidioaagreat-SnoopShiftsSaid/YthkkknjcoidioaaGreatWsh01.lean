import Derived.Test.YthkkknjcoidioaaGreatWb44
import Derived.Test.YthkkknjcoidioaaGreatWb45
set_option linter.all false
set_option maxHeartbeats 8000000
set_option maxRecDepth 100000
namespace Go.Proofs.YthkkknjcoidioaaGreat
def aug (n:Nat) (N:Nat→Nat→Rat) (b:Nat→Rat) (i c:Nat):Rat:=if c < n then N i c else b i
theorem aug_null {n:Nat} {N:Nat→Nat→Rat} {b x:Nat→Rat} (i:Nat):sum (n+1) (fun c=>aug n N b i c*(if c < n then x c else -1))=sum n (fun c=>N i c*x c) - b i:=by
 rw [sum_succ,sum_congr (g:=fun c=>N i c*x c) (fun c hc=>by unfold aug; rw [if_pos hc,if_pos hc])];unfold aug;rw [if_neg (Nat.lt_irrefl n),if_neg (Nat.lt_irrefl n)]
 grind
def sol (n:Nat) (M:Nat→Nat→Rat) (p:List Nat) (c:Nat):Rat:=sum p.length (fun s=>dlt (p[s]?.getD 0) c*M s n)
theorem sum_sol {n:Nat} {M:Nat→Nat→Rat} {p:List Nat} (hp:∀ s,s < p.length→p[s]?.getD 0 < n) (f:Nat→Rat):sum n (fun c=>f c*sol n M p c)=sum p.length (fun s=>f (p[s]?.getD 0)*M s n):=by
 unfold sol;have e:∀ c,f c*sum p.length (fun s=>dlt (p[s]?.getD 0) c*M s n)=sum p.length (fun s=>f c*(dlt (p[s]?.getD 0) c*M s n)):=fun c=>(sum_mul _ _ _).symm
 rw [sum_congr (fun c _=>e c),sum_comm];refine sum_congr fun s hs=>?_
 have e2:∀ c,f c*(dlt (p[s]?.getD 0) c*M s n)=dlt (p[s]?.getD 0) c*(f c*M s n):=fun c=>by grind
 rw [sum_congr (fun c _=>e2 c),sum_dlt (hp s hs) (fun c=>f c*M s n)]
theorem solve_ok {m n:Nat} {N M:Nat→Nat→Rat} {b:Nat→Rat} {p:List Nat} (h:Rref m (n+1) (aug n N b) M p) (hn:∀ s,s < p.length→p[s]?.getD 0≠n) :
  ∀ i,i < m→sum n (fun c=>N i c*sol n M p c)=b i:=by
 have hp:∀ s,s < p.length→p[s]?.getD 0 < n:=fun s hs=>by have:=h.low s hs; have:=hn s hs; omega
 have hz:∀ i,i < m→sum (n+1) (fun c=>M i c*(if c < n then sol n M p c else -1))=0:=by
  intro i hi;rw [sum_succ,if_neg (Nat.lt_irrefl n),sum_congr (g:=fun c=>M i c*sol n M p c) (fun c hc=>by rw [if_pos hc]),sum_sol hp];rw [sum_congr (g:=fun s=>dlt i s*M s n) (fun s hs=>by rw [h.unit s hs i hi])]
  rcases Nat.lt_or_ge i p.length with h1 | h1
  ·rw [sum_dlt h1 (fun s=>M s n)]; grind
  ·rw [h.zero i h1 hi n (by omega),sum_eq_zero (fun s hs=>by rw [dlt_ne (by omega)]; grind)]; grind
 intro i hi;have:=h.back.null hz i hi;rw [aug_null] at this
 grind
theorem solve_no {m n:Nat} {N M:Nat→Nat→Rat} {b:Nat→Rat} {p:List Nat} (h:Rref m (n+1) (aug n N b) M p) {s:Nat} (hs:s < p.length) (hn:p[s]?.getD 0=n) :
  ∃ y:Nat→Rat,(∀ c,c < n→sum m (fun i=>y i*N i c)=0)∧sum m (fun i=>y i*b i)=1:=by
 obtain⟨T,hT⟩:=h.there;have hsm:s < m:=Nat.lt_of_lt_of_le hs h.len;refine⟨T s,fun c hc=>?_,?_⟩
 ·have h1:=hT s hsm c;rw [h.left s hs c (by omega),mm] at h1;rw [h1];exact sum_congr fun k _=>by unfold aug; rw [if_pos hc]
 ·have h1:=hT s hsm n;have h2:=h.unit s hs s hsm;rw [hn,dlt_same] at h2;rw [h2,mm] at h1;rw [h1];exact sum_congr fun k _=>by unfold aug; rw [if_neg (Nat.lt_irrefl n)]
theorem av_congr {n:Nat} {A:Nat→Nat→Rat} {x y:Nat→Rat} {i:Nat} (h:∀ c,c < n→x c=y c):av n A x i=av n A y i:=sum_congr fun c hc=>by rw [h c hc]
theorem orth_av {m n:Nat} {A:Nat→Nat→Rat} {P v:Nat→Rat} (h:Orth m n A P v) (y:Nat→Rat):sum m (fun k=>av n A y k*(P k*v k))=0:=by
 rw [←dual_av];exact sum_eq_zero fun a ha=>by rw [h a ha]; grind
variable {m n:Nat} {A M X M':Nat→Nat→Rat} {P:Nat→Rat} {p p':List Nat}
theorem without_nsol {P L x:Nat→Rat} {i:Nat} (hi:i < m+1) (h:Nsol m n (fun j c=>A (skip i j) c) (fun j=>P (skip i j)) (fun j=>L (skip i j)) x) :
  Nsol (m+1) n A P (fun k=>if k=i then av n A x i else L k) x:=by
 rw [nsol_orth] at h ⊢;intro a ha;rw [←sum_skip hi];have h1:=h a ha
 have e:∀ j,A (skip i j) a*(P (skip i j)*(av n A x (skip i j) - if skip i j=i then av n A x i else L (skip i j)))=A (skip i j) a*(P (skip i j)*(av n (fun j c=>A (skip i j) c) x j - L (skip i j))):=by
  intro j; rw [if_neg (skip_ne i j)]; rfl
 simp only [e,h1,if_true]
 grind
theorem alone (h:Model (m+1) n A M X P p) {L x:Nat→Rat} {i:Nat} (hi:i < m+1) (hx:Nsol m n (fun j c=>A (skip i j) c) (fun j=>P (skip i j)) (fun j=>L (skip i j)) x) :
  (1 - hd A X P p i)*(av n A x i - L i)=sum (m+1) (fun j=>gf A X p i j*P j*L j) - L i:=by
 have h1:=fits_fit h.rr h.pos h.kx (without_nsol hi hx) i hi
 have e:∀ j,fits p.length (bas A p) X i j*P j*(if j=i then av n A x i else L j)=gf A X p i j*P j*L j+dlt i j*(gf A X p i j*P j*(av n A x i - L i)):=by
  intro j
  by_cases hj:j=i
  ·subst hj; rw [if_pos rfl,dlt_same]; unfold gf; grind
  ·rw [if_neg hj,dlt_ne (fun e=>hj e.symm)]; unfold gf; grind
 rw [sum_congr (fun j _=>e j),sum_add,sum_dlt hi (fun j=>gf A X p i j*P j*(av n A x i - L i))] at h1;unfold hd
 grind
theorem obj_fall {P L x x':Nat→Rat} {i:Nat} (hi:i < m+1) (hx:Nsol (m+1) n A P L x) (hx':Nsol m n (fun j c=>A (skip i j) c) (fun j=>P (skip i j)) (fun j=>L (skip i j)) x') :
  obj (m+1) P (fun k=>av n A x k - L k)=obj m (fun j=>P (skip i j)) (fun j=>av n (fun j c=>A (skip i j) c) x' j - L (skip i j))+(av n A x' i - L i)*(P i*(av n A x i - L i)):=by
 have ho:=nsol_orth.1 hx;have hs:=nsol_orth.1 (without_nsol hi hx');have o1:=orth_av ho (fun c=>x c - x' c);have o2:=orth_av hs (fun c=>x c - x' c)
 have hfall:obj m (fun j=>P (skip i j)) (fun j=>av n (fun j c=>A (skip i j) c) x' j - L (skip i j))=sum (m+1) (fun k=>P k*((av n A x' k - if k=i then av n A x' i else L k)*(av n A x' k - if k=i then av n A x' i else L k))):=by
  rw [←sum_skip hi];unfold obj
  have e:∀ j,(av n A x' (skip i j) - if skip i j=i then av n A x' i else L (skip i j))=av n (fun j c=>A (skip i j) c) x' j - L (skip i j):=by
   intro j; rw [if_neg (skip_ne i j)]; rfl
  simp only [e,if_true]
  grind
 rw [hfall];unfold obj
 have e1:∀ k,P k*((av n A x k - L k)*(av n A x k - L k))=av n A (fun c=>x c - x' c) k*(P k*(av n A x k - L k))+(av n A (fun c=>x c - x' c) k*(P k*(av n A x' k - if k=i then av n A x' i else L k))+(P k*((av n A x' k - if k=i then av n A x' i else L k)*(av n A x' k - if k=i then av n A x' i else L k))+dlt i k*((av n A x' i - L i)*(P k*(av n A x k - L k))))):=by
  intro k;rw [av_sub]
  by_cases hk:k=i
  ·subst hk; rw [if_pos rfl,dlt_same]; grind
  ·rw [if_neg hk,dlt_ne (fun e=>hk e.symm)]; grind
 rw [sum_congr (fun k _=>e1 k),sum_add,sum_add,sum_add,o1,o2,sum_dlt hi (fun k=>(av n A x' i - L i)*(P k*(av n A x k - L k)))]
 grind
theorem reg_solve {n:Nat} {K:Nat→Nat→Rat} (hK:Reg n K) (b:Nat→Rat):(rref n (aug n K b) (n+1)).2.contains n=false∧∀ i,i < n→sum n (fun c=>K i c*sol n (rref n (aug n K b) (n+1)).1 (rref n (aug n K b) (n+1)).2 c)=b i:=by
 have hR:=rref_ok n (aug n K b) (n+1)
 have hno:∀ s,s < (rref n (aug n K b) (n+1)).2.length→(rref n (aug n K b) (n+1)).2[s]?.getD 0≠n:=by
  intro s hs he;obtain⟨y,h1,h2⟩:=solve_no hR hs he;obtain⟨h3,-⟩:=inv_ok (rref_ok n (besideI n K) n) ((inv_iff n K).2 hK)
  have hy:∀ c,c < n→y c=0:=by
   intro c hc
   have e:sum n (fun d=>sum n (fun i=>y i*K i d)*(rref n (besideI n K) n).1 d (n+c))=y c:=by
    have e1:sum n (fun d=>sum n (fun i=>y i*K i d)*(rref n (besideI n K) n).1 d (n+c))=sum n (fun i=>y i*mm n K (fun a b=>(rref n (besideI n K) n).1 a (n+b)) i c):=by
     rw [show sum n (fun d=>sum n (fun i=>y i*K i d)*(rref n (besideI n K) n).1 d (n+c))=sum n (fun d=>sum n (fun i=>y i*(K i d*(rref n (besideI n K) n).1 d (n+c)))) from sum_congr fun d _=>by rw [←sum_mul_right]; exact sum_congr fun i _=>by grind,sum_comm];exact sum_congr fun i _=>by unfold mm; rw [sum_mul]
    rw [e1,show sum n (fun i=>y i*mm n K (fun a b=>(rref n (besideI n K) n).1 a (n+b)) i c)=sum n (fun i=>y i*dlt i c) from sum_congr fun i hi=>by rw [h3 i hi c hc]];exact sum_dlt' hc y
   rw [←e];exact sum_eq_zero fun d hd=>by rw [h1 d hd]; grind
  rw [sum_eq_zero (fun i hi=>by rw [hy i hi]; grind)] at h2;exact absurd h2 (by decide)
 refine⟨?_,solve_ok hR hno⟩;cases hc:(rref n (aug n K b) (n+1)).2.contains n with
 | false=>rfl
 | true =>
  rw [List.contains_iff_mem] at hc;obtain⟨s,hs,he⟩:=List.getElem_of_mem hc;exact absurd (by rw [List.getElem?_eq_getElem hs]; simpa using he) (hno s hs)
theorem Inv2.alone {m n:Nat} {A Q:Nat→Nat→Rat} {P L x x':Nat→Rat} (h:Inv2 (m+1) n A Q P) {i:Nat} (hi:i < m+1) (hx:Nsol (m+1) n A P L x) (hx':Nsol m n (fun j c=>A (skip i j) c) (fun j=>P (skip i j)) (fun j=>L (skip i j)) x') :
  rdn n A Q P i*(av n A x' i - L i)=av n A x i - L i:=by
 obtain⟨hM,hl,hg⟩:=full_model h.pos h.kq h.qk;have h1:=Go.Proofs.YthkkknjcoidioaaGreat.alone hM hi hx';have h2:=fits_fit hM.rr h.pos hM.kx hx i hi;rw [rdn_hd (m:=m) hg];rw [h1];unfold gf;rw [h2]
theorem Inv2.drops {m n:Nat} {A Q:Nat→Nat→Rat} {P L x x':Nat→Rat} (h:Inv2 (m+1) n A Q P) {i:Nat} (hi:i < m+1) (hx:Nsol (m+1) n A P L x) (hx':Nsol m n (fun j c=>A (skip i j) c) (fun j=>P (skip i j)) (fun j=>L (skip i j)) x') (hr:rdn n A Q P i≠0) :
  P i*((av n A x i - L i)*(av n A x i - L i)) / rdn n A Q P i=obj (m+1) P (fun k=>av n A x k - L k) - obj m (fun j=>P (skip i j)) (fun j=>av n (fun j c=>A (skip i j) c) x' j - L (skip i j)):=by
 have h1:=h.alone hi hx hx';rw [obj_fall hi hx hx'];have h3:av n A x' i - L i=(av n A x i - L i) / rdn n A Q P i:=by grind
 rw [h3]
 grind
def plus1 (n:Nat) (A:Nat→Nat→Rat) (i k c:Nat):Rat:=if c < n then A k c else if k=i then 1 else 0
theorem plus_av {n:Nat} {A:Nat→Nat→Rat} {i:Nat} (z:Nat→Rat) (k:Nat):av (n+1) (plus1 n A i) z k=av n A z k+(if k=i then z n else 0):=by
 unfold av;rw [sum_succ]
 congr 1
 ·exact sum_congr fun c hc=>by unfold plus1; rw [if_pos hc]
 ·unfold plus1;rw [if_neg (Nat.lt_irrefl n)]
  split <;> grind
theorem shift_nsol {m n:Nat} {A:Nat→Nat→Rat} {P L x':Nat→Rat} {i:Nat} (hi:i < m+1) (hx':Nsol m n (fun j c=>A (skip i j) c) (fun j=>P (skip i j)) (fun j=>L (skip i j)) x') :
  Nsol (m+1) (n+1) (plus1 n A i) P L (fun c=>if c < n then x' c else L i - av n A x' i) ∧
  obj (m+1) P (fun k=>av (n+1) (plus1 n A i) (fun c=>if c < n then x' c else L i - av n A x' i) k - L k)=obj m (fun j=>P (skip i j)) (fun j=>av n (fun j c=>A (skip i j) c) x' j - L (skip i j)):=by
 have hav:∀ k,av (n+1) (plus1 n A i) (fun c=>if c < n then x' c else L i - av n A x' i) k - L k=if k=i then 0 else av n A x' k - L k:=by
  intro k;rw [plus_av];have e1:av n A (fun c=>if c < n then x' c else L i - av n A x' i) k=av n A x' k:=av_congr fun c hc=>by rw [if_pos hc]
  rw [e1,if_neg (Nat.lt_irrefl n)]
  split
  ·rename_i e; rw [e]; grind
  ·grind
 have ho:=(nsol_orth).1 hx'
 constructor
 ·rw [nsol_orth];intro a ha;rw [show sum (m+1) (fun k=>plus1 n A i k a*(P k*(av (n+1) (plus1 n A i) (fun c=>if c < n then x' c else L i - av n A x' i) k - L k)))=sum (m+1) (fun k=>plus1 n A i k a*(P k*if k=i then 0 else av n A x' k - L k)) from sum_congr fun k _=>by rw [hav k]];rw [←sum_skip hi,if_pos rfl];rw [show sum m (fun j=>plus1 n A i (skip i j) a*(P (skip i j)*if skip i j=i then 0 else av n A x' (skip i j) - L (skip i j)))=sum m (fun j=>plus1 n A i (skip i j) a*(P (skip i j)*(av n A x' (skip i j) - L (skip i j)))) from sum_congr fun j _=>by rw [if_neg (skip_ne i j)]]
  by_cases e:a < n
  ·have h1:=ho a e
   rw [show sum m (fun j=>plus1 n A i (skip i j) a*(P (skip i j)*(av n A x' (skip i j) - L (skip i j))))=0 from by
    rw [←h1]
    exact sum_congr fun j _=>by unfold plus1; rw [if_pos e]; rfl]
   grind
  ·rw [sum_eq_zero (fun j _=>by unfold plus1; rw [if_neg e,if_neg (skip_ne i j)]; grind)]
   grind
 ·unfold obj;rw [←sum_skip hi]
  dsimp only
  rw [hav i,if_pos rfl];rw [show sum m (fun j=>P (skip i j)*((av (n+1) (plus1 n A i) (fun c=>if c < n then x' c else L i - av n A x' i) (skip i j) - L (skip i j))*(av (n+1) (plus1 n A i) (fun c=>if c < n then x' c else L i - av n A x' i) (skip i j) - L (skip i j))))=sum m (fun j=>P (skip i j)*((av n (fun j c=>A (skip i j) c) x' j - L (skip i j))*(av n (fun j c=>A (skip i j) c) x' j - L (skip i j)))) from sum_congr fun j _=>by rw [hav (skip i j),if_neg (skip_ne i j)]; rfl]
  grind
theorem shift_reg {m n:Nat} {A:Nat→Nat→Rat} {P:Nat→Rat} {i:Nat} (hi:i < m+1) (hP:∀ k,k < m+1→0 < P k) (hR:Reg n (nm m (fun j=>A (skip i j)) (fun j=>P (skip i j)))):Reg (n+1) (nm (m+1) (plus1 n A i) P):=by
 intro y hy;have h1:=normal_zero hP hy
 have h2:∀ j,j < m→av n (fun j=>A (skip i j)) y j=0:=fun j hj=>by
  have h3:=h1 (skip i j) (skip_lt hj);rw [plus_av,if_neg (skip_ne i j)] at h3
  show av n A y (skip i j)=0
  grind
 have h3:∀ c,c < n→y c=0:=fun c hc=>hR y (fun a ha=>by
  rw [nm_av]
  exact sum_eq_zero fun k hk=>by rw [h2 k hk]; grind) c hc
 intro c hc
 rcases Nat.lt_or_ge c n with h4 | h4
 ·exact h3 c h4
 ·obtain rfl:c=n:=by omega
  have h5:=h1 i hi;rw [plus_av,if_pos rfl] at h5;have h6:av c A y i=0:=sum_eq_zero fun d hd=>by rw [h3 d hd]; grind
  rw [h6] at h5
  grind
end Go.Proofs.YthkkknjcoidioaaGreat
namespace Go.Proofs.YthkkknjcoidioaaGreat
open Go.RowKit
theorem r2_zero {w:World}:Calls Tryz.prog 48 #[.agg #[.bool false,.slice none 0 0,.bool false,.slice none 0 0]] w (RetV w (.bool true)):=by
 go_enter Tryz.func48,Tryz.ntmps48;go_wp2;go_ret;exact⟨rfl,(Ext.refl w).alloc _⟩
def Mn.lin (N m n:Nat) (X:Nat→Nat→Rat) (y p:Nat→Rat):Mn:=⟨fun v w=>∃ v1 v2 v3,v=.agg #[v1,v2,v3]∧MtV N 0 w.heap.size w v1 m n X∧LsV N 0 w.heap.size w v2 m y∧LsV N 0 w.heap.size w v3 m p,
 fun e h=>by
  obtain⟨v1,v2,v3,h0,h1,h2,h3⟩:=h
  exact⟨v1,v2,v3,h0,MtR.wide (h1.ext e) (Nat.le_refl _) e.size (Nat.le_refl _),LsR.wide (h2.ext e) (Nat.le_refl _) e.size (Nat.le_refl _),LsR.wide (h3.ext e) (Nat.le_refl _) e.size (Nat.le_refl _)⟩⟩
def nsv (n:Nat) (K:Nat→Nat→Rat) (b:Nat→Rat):Nat→Rat:=sol n (rref n (aug n K b) (n+1)).1 (rref n (aug n K b) (n+1)).2
end Go.Proofs.YthkkknjcoidioaaGreat
namespace Go.Proofs.YthkkknjcoidioaaGreat
theorem nsv_sum {n:Nat} {K:Nat→Nat→Rat} {b:Nat→Rat} (h:Reg n K):∀ i,i < n→sum n (fun c=>K i c*nsv n K b c)=b i:=(reg_solve h b).2
theorem nsv_nsol {m n:Nat} {X:Nat→Nat→Rat} {y p:Nat→Rat} (h:Reg n (nmat X p m)):Nsol m n X p y (nsv n (nmat X p m) (nrhs X y p m)):=by
 intro a ha;rw [sum_congr (fun b _=>by rw [←nmat_nm5]),nsv_sum h a ha];exact sum_congr fun t _=>by grind
theorem inv_apply {n:Nat} {K:Nat→Nat→Rat} (h:Reg n K) (b:Nat→Rat):∀ i,i < n→sum n (fun c=>invM n K i c*b c)=nsv n K b i:=by
 refine reg_unique h (b:=b) (fun i hi=>?_) (nsv_sum h)
 have e:sum n (fun c=>K i c*sum n (fun d=>invM n K c d*b d))=sum n (fun d=>mm n K (invM n K) i d*b d):=by
  unfold mm;rw [sum_congr (g:=fun c=>sum n (fun d=>K i c*invM n K c d*b d)) (fun c _=>by rw [←sum_mul]; exact sum_congr fun d _=>by grind),sum_comm];exact sum_congr fun d _=>by rw [sum_mul_right]
 rw [e,sum_congr (fun d hd=>by rw [(regInv h).2 i hi d hd])];exact sum_dlt hi b
theorem xS_nsv {m n:Nat} {X:Nat→Nat→Rat} {y p:Nat→Rat} (h:Reg n (nmat X p m)):∀ i,i < n→xS m n X y p i=nsv n (nmat X p m) (nrhs X y p m) i:=inv_apply h _
theorem xS_nsol {m n:Nat} {X:Nat→Nat→Rat} {y p:Nat→Rat} (h:Reg n (nmat X p m)):Nsol m n X p y (xS m n X y p):=by
 intro a ha;rw [←nsv_nsol h a ha];exact sum_congr fun b hb=>by rw [xS_nsv h b hb]
theorem mul_le7 {m a b:Nat} (hm:m≤7) (ha:a≤b):m*a≤7*b:=Nat.mul_le_mul hm ha
section
variable {m n:Nat} {X:Nat→Nat→Rat} {y p:Nat→Rat}
end
end Go.Proofs.YthkkknjcoidioaaGreat
namespace Go.Proofs.YthkkknjcoidioaaGreat
open Go.RowKit
theorem drop_eq {m n:Nat} {X:Nat→Nat→Rat} {y p:Nat→Rat} (d:Md (m+1) n X y p) (hr:Reg n (nmat X p (m+1))) {i:Nat} (hi:i < m+1) (hr':Reg n (nmat (fun j=>X (skip i j)) (fun j=>p (skip i j)) m)) (h0:rS (m+1) n X p i≠0) :
  tS (m+1) n X y p i=obj (m+1) p (vS (m+1) n X y p) - obj m (fun j=>p (skip i j)) (vS m n (fun j=>X (skip i j)) (fun j=>y (skip i j)) (fun j=>p (skip i j))) :=
 (d.inv2 hr).drops hi (xS_nsol hr) (xS_nsol hr') h0
theorem obj_ht {m n:Nat} {X:Nat→Nat→Rat} {y p:Nat→Rat} (d:Md m n X y p):Ht 1300000000 (obj m p (vS m n X y p)) :=
 sum_ht (n:=m) (k:=400+(90000000+90000000)) (fun i hi=>(d.hp i hi).mul ((d.v_ht i hi).mul (d.v_ht i hi))) (Nat.le_refl _) (by have:=d.m7; omega)
theorem fin_nil2T {fn:Func} {k k2 t:Tmp} (hres:fn.results=#[.cell k 36,.cell k2 36,.tmp t]) {a:Act} {g g2:Nat} (hp:a.tmps.getD k undef=.pointer (some ⟨g,0,none⟩)) (hp2:a.tmps.getD k2 undef=.pointer (some ⟨g2,0,none⟩)) {x:Value} (hq:a.tmps.getD t undef=x) (hd:a.defers=[])
  {w W:World} {o1 o2 o3 o4 r1 r2 r3 r4:Value} (hE:Ext w W) (hb:W.heap[g]?=some (.cells #[o1,o2,o3,o4] 36 (0,0))) (hb2:W.heap[g2]?=some (.cells #[r1,r2,r3,r4] 36 (0,0))) (hg:w.heap.size≤g) (hg2:g < g2) :
  bodyPost Tryz.prog fn (RetV w (.tuple #[nilRat,nilRat,x])) .ret a ((((((((W.setCell ⟨g,0,none⟩ (.bool false)).setCell ⟨g,1,none⟩ (.slice none 0 0)).setCell ⟨g,2,none⟩ (.bool false)).setCell ⟨g,3,none⟩ (.slice none 0 0)).setCell ⟨g2,0,none⟩ (.bool false)).setCell ⟨g2,1,none⟩ (.slice none 0 0)).setCell ⟨g2,2,none⟩ (.bool false)).setCell ⟨g2,3,none⟩ (.slice none 0 0)):=by
 obtain⟨w1,E1,B1,U1⟩:=ex4 hb (.bool false) (.slice none 0 0) (.bool false) (.slice none 0 0);rw [E1];have C1:=U1.chg (NoU.mk hb (by decide));have hb3:=C1.blk hb2 (by omega);obtain⟨w2,E2,B2,U2⟩:=ex4 hb3 (.bool false) (.slice none 0 0) (.bool false) (.slice none 0 0);rw [E2];have C2:=U2.chg (NoU.mk hb3 (by decide));have B12:=C2.blk B1 (by omega);obtain⟨c0,c1,c2,c3,-⟩:=cells4 B12;obtain⟨d0,d1,d2,d3,-⟩:=cells4 B2;refine bodyPost_ret (v:=.tuple #[nilRat,nilRat,x]) ?_ hd ⟨rfl,C2.ext (U1.ext hE hg) (by omega)⟩;have hp':a.tmps[k]?.getD undef=.pointer (some ⟨g,0,none⟩):=by simpa using hp
 have hp2':a.tmps[k2]?.getD undef=.pointer (some ⟨g2,0,none⟩):=by simpa using hp2
 have hq':a.tmps[t]?.getD undef=x:=by simpa using hq
 simp [results,hres,hp',hp2',hq',c0,c1,c2,c3,d0,d1,d2,d3,go_sem,nilRat]
theorem sn_Shift_bad {N lo hi:Nat} {w:World} {v:Value} {Z:Lin} (h:LinV N lo hi w v Z) (hf:few34 7 4 Z=true) (hc:code38 Z 0 (fun _=>raw 0)≠0) (z:Int) :
  Calls Tryz.prog 53 #[v,.int .i64 z] w (RetV w (.tuple #[nilRat,nilRat,.int .i64 (code38 Z 0 (fun _=>raw 0))])):=by
 have hI:=h;have HC:=Lib.hid hc;have HF:=Lib.hid hf
 have hN:N≤w.heap.size:=by
  obtain⟨s1,s2,s3,-,g1,-⟩:=h;exact g1.le
 obtain⟨r,hr⟩:=hid_eq (code38 Z 0 (fun _=>raw 0));have hr0:(r == 0)=false:=by rw [hr.out]; simpa using hc
 have hr1:(r != 0)=true:=by simpa using hr0
 rw [←hr.out];obtain⟨A1,c1,A2,c2,A3,c3,rfl,-⟩:=h.parts;clear h hc hf;go_enter Tryz.func53,Tryz.ntmps53;go_upto_region 1 with (fail);refine boxes3 ?_;intro W hE hsz B0 B4 B5;obtain⟨a0,a1,a2,-⟩:=cells3 B0;go_wp2_with (go_at_call 60; refine Hid.out ?_);refine (sn_solve_bad (R:=fun _=>raw 0) (hI.ext hE) (lsr_nil (N:=N) (by have:=hE.size; omega) _) HF.out (fun i hi=>absurd hi (by omega)) HC.out).mono ?_;rintro e w1 ⟨rfl,e1⟩;unfold nilSlv;rw [←hr.out];replace hE:=hE.trans e1;replace B4:=e1.block B4;replace B5:=e1.block B5;clear a0 a1 a2;go_upto_region 2 with (fail);refine boxes1 ?_;intro w2 e2 hsz2 B6;replace B4:=e2.block B4;replace B5:=e2.block B5;replace hE:=hE.trans e2;obtain⟨y0,y1,y2,y3,y4,y5,y6,y7⟩:=cells4 B4;obtain⟨u0,u1,u2,u3,u4,u5,u6,u7⟩:=cells4 B5;go_wp2;refine fin_nil2T (x:=.int .i64 r) (by rfl) (by rfl) (by rfl) (by rfl) (by rfl) hE B4 B5 (by omega) (by omega)
theorem sn_Shift_no {N lo hi lo2 hi2:Nat} {w:World} {v1 v2 v3:Value} {m n:Nat} {X:Nat→Nat→Rat} {y p:Nat→Rat} (h1:MtV N lo hi w v1 m n X) (h2:LsV N lo2 hi2 w v2 m y) (h3:LsV N lo2 hi2 w v3 m p) (d:Md m n X y p) (hr:Reg n (nmat X p m)) {z r:Int} {bz:Bool} (hbz:Hid (bz=inB m z)) (hb:(r=2∧bz=false)∨(r=13∧bz=true∧rS m n X p z.toNat=0)) :
  Calls Tryz.prog 53 #[.agg #[v1,v2,v3],.int .i64 z] w (RetV w (.tuple #[nilRat,nilRat,.int .i64 r])):=by
 have HBB:=Lib.hid hb;clear hb;have HD:=Lib.hid d;have HG:=Lib.hid hr;have hN:=h1.le;have hm0:=d.m0;have hm7:=d.m7;have hn0:=d.n0;have hn4:=d.n4;have hI1:=h1;have hI2:=h2;have hI3:=h3;obtain⟨A1,c1,rfl,hmc,hcm⟩:=h1.form;obtain⟨A2,c2,rfl,hmc2,hcm2⟩:=h2.form;obtain⟨A3,c3,rfl,hmc3,hcm3⟩:=h3.form;unfold maxLen at hcm hcm2 hcm3;clear h1 h2 h3 d hr;go_enter Tryz.func53,Tryz.ntmps53;go_upto_region 1 with (fail);refine boxes3 ?_;intro W hE hsz B0 B4 B5;obtain⟨a0,a1,a2,-⟩:=cells3 B0;go_wp2_with (go_at_call 60; refine Hid.out ?_);refine (sn_solve (hI1.ext hE) (hI2.ext hE) (hI3.ext hE) (lsr_nil (N:=N) (by have:=hE.size; omega) (fun _=>raw 0)) HD.out (fun i hi=>absurd hi (by omega)) rfl HG.out).mono ?_;rintro e w1 ⟨v,rfl,hS,e1⟩;replace hE:=hE.trans e1;replace B0:=e1.block B0;replace B4:=e1.block B4;replace B5:=e1.block B5;have hl4:=blk_lt B5;clear a0 a1 a2 e1;obtain⟨A5,c5,A6,c6,A7,c7,AQ,cq,AV,cv,gq,gl,hv6,-⟩:=id hS;subst hv6;go_upto_region 2 with (fail);refine boxes1 ?_;intro w2 e2 hsz2 B6;replace hS:=hS.ext e2;obtain⟨g6,hg6⟩:∃ g6,g6=w1.heap.size:=⟨_,rfl⟩
 rw [←hg6] at B6 ⊢;have hw1:w1.heap.size≤g6:=by omega
 replace hE:=hE.trans e2;replace B0:=e2.block B0;replace B4:=e2.block B4;replace B5:=e2.block B5;clear e2 hsz2 hg6;obtain⟨o0,o1,o2,o3,o4,o5,-⟩:=cells6 B6;go_wp2_with (go_at_call 61; refine Hid.out ?_);refine (sn_has hS hm7 _).mono ?_
 rcases HBB.out with ⟨rfl,rfl⟩ | ⟨rfl,rfl,h0⟩
 ·rw [←hbz.out];rintro e w3 ⟨rfl,e3⟩;replace B4:=e3.block B4;replace B5:=e3.block B5;replace hE:=hE.trans e3;clear o0 o1 o2 o3 o4 o5;obtain⟨y0,y1,y2,y3,y4,y5,y6,y7⟩:=cells4 B4;obtain⟨u0,u1,u2,u3,u4,u5,u6,u7⟩:=cells4 B5;go_wp2;refine fin_nil2T (x:=.int .i64 2) (by rfl) (by rfl) (by rfl) (by rfl) (by rfl) hE B4 B5 (by omega) (by omega)
 ·have HB:=Lib.hid hbz.out.symm;have H0:=Lib.hid h0;clear h0;rw [HB.out];rintro e w3 ⟨rfl,e3⟩;replace B0:=e3.block B0;replace B4:=e3.block B4;replace B5:=e3.block B5;replace B6:=e3.block B6;replace hS:=hS.ext e3;replace hE:=hE.trans e3;clear o0 o1 o2 o3 o4 o5 e3;obtain⟨a0,a1,a2,-⟩:=cells3 B0;obtain⟨o0,o1,o2,o3,o4,o5,-⟩:=cells6 B6;obtain⟨b9,off9,rfl,-,-,hx9⟩:=(hI1.ext hE).addr hm0;obtain⟨A9,c9,p0,hc9,hm9,-⟩:=hx9 0 hm0;rw [Nat.add_zero] at p0;unfold maxLen at hm9;have t24:((n:Int) == 24)=false:=by rw [beq_eq_false_iff_ne]; omega
  clear hx9;go_wp2_with (go_at_call 62; refine Hid.out ?_);clear p0 t24 hc9 hm9;refine (sn_statistic0 hS HD.out (inB_true HB.out).1 (inB_true HB.out).2 H0.out).mono ?_;rintro e w4 ⟨rfl,e4⟩;unfold nilRat;replace B4:=e4.block B4;replace B5:=e4.block B5;replace hE:=hE.trans e4;clear o0 o1 o2 o3 o4 o5 a0 a1 a2 e4;go_upto_region 9 with (fail);refine boxes1 ?_;intro w5 e5 hsz5 B8;replace B4:=e5.block B4;replace B5:=e5.block B5;replace hE:=hE.trans e5;obtain⟨y0,y1,y2,y3,y4,y5,y6,y7⟩:=cells4 B4;obtain⟨u0,u1,u2,u3,u4,u5,u6,u7⟩:=cells4 B5;go_wp2;refine fin_nil2T (x:=.int .i64 13) (by rfl) (by rfl) (by rfl) (by rfl) (by rfl) hE B4 B5 (by omega) (by omega)
def oS (m n:Nat) (X:Nat→Nat→Rat) (y p:Nat→Rat) (a:Nat):Rat:=sum a (fun k=>p k*(vS m n X y p k*vS m n X y p k))
theorem oS_ht {m n:Nat} {X:Nat→Nat→Rat} {y p:Nat→Rat} (d:Md m n X y p) {a:Nat} (ha:a≤m):Ht 1300000000 (oS m n X y p a) :=
 sum_ht (n:=a) (k:=400+(90000000+90000000)) (fun c hc=>(d.hp c (by omega)).mul ((d.v_ht c (by omega)).mul (d.v_ht c (by omega)))) (Nat.le_refl _) (by have:=d.m7; omega)
def RetSh (N:Nat) (w:World) (q1 q2:Rat) (e:Ending) (w':World):Prop:=∃ v u,e=.returned (.tuple #[v,u,.int .i64 0])∧RatV N w' v q1∧RatV N w' u q2∧Ext w w'
theorem sn_Shift {N lo hi lo2 hi2:Nat} {w:World} {v1 v2 v3:Value} {m n:Nat} {X:Nat→Nat→Rat} {y p:Nat→Rat} (h1:MtV N lo hi w v1 m n X) (h2:LsV N lo2 hi2 w v2 m y) (h3:LsV N lo2 hi2 w v3 m p) (d:Md m n X y p) (hr:Reg n (nmat X p m)) {i:Nat} (him:i < m) (hz:inB m (i:Int)=true) (h0:rS m n X p i≠0) :
  Calls Tryz.prog 53 #[.agg #[v1,v2,v3],.int .i64 (i:Int)] w (RetSh N w (-vS m n X y p i / rS m n X p i) (oS m n X y p m - tS m n X y p i)):=by
 have HB:=Lib.hid hz;have H0:=Lib.hid h0;obtain⟨Rf,hRf⟩:=hid_eq (RetSh N w (-vS m n X y p i / rS m n X p i) (oS m n X y p m - tS m n X y p i));rw [←hRf.out];have HO:Hid (∀ a,a≤m→Ht 1300000000 (oS m n X y p a)):=fun a ha=>oS_ht d ha
 have HV:Hid (∀ a,a < m→Ht 90000000 (vS m n X y p a)):=fun a ha=>d.v_ht a ha
 have HP:Hid (∀ a,a < m→Ht 400 (p a)):=fun a ha=>d.hp a ha
 have HR:=Lib.hid ((d.r_ht i him).sz (by omega));have HT:=Lib.hid (d.t_ht i him);clear hz h0;have HD:=Lib.hid d;have HG:=Lib.hid hr;have hN:=h1.le;have hm0:=d.m0;have hm7:=d.m7;have hn0:=d.n0;have hn4:=d.n4;have hI1:=h1;have hI2:=h2;have hI3:=h3;obtain⟨A1,c1,rfl,hmc,hcm⟩:=h1.form;obtain⟨A2,c2,rfl,hmc2,hcm2⟩:=h2.form;obtain⟨A3,c3,rfl,hmc3,hcm3⟩:=h3.form;unfold maxLen at hcm hcm2 hcm3;clear h1 h2 h3 d hr;go_enter Tryz.func53,Tryz.ntmps53;go_upto_region 1 with (fail);refine boxes3 ?_;intro W hE hsz B0 B4 B5;obtain⟨a0,a1,a2,-⟩:=cells3 B0;go_wp2_with (go_at_call 60; refine Hid.out ?_);refine (sn_solve (hI1.ext hE) (hI2.ext hE) (hI3.ext hE) (lsr_nil (N:=N) (by have:=hE.size; omega) (fun _=>raw 0)) HD.out (fun i hi=>absurd hi (by omega)) rfl HG.out).mono ?_;rintro e w1 ⟨v,rfl,hS,e1⟩;replace hE:=hE.trans e1;replace B0:=e1.block B0;replace B4:=e1.block B4;replace B5:=e1.block B5;have hl4:=blk_lt B5;clear a0 a1 a2 e1;obtain⟨A5,c5,A6,c6,A7,c7,AQ,cq,AV,cv,gq,gl,hv6,-⟩:=id hS;subst hv6;go_upto_region 2 with (fail);refine boxes1 ?_;intro w2 e2 hsz2 B6;replace hS:=hS.ext e2;obtain⟨g6,hg6⟩:∃ g6,g6=w1.heap.size:=⟨_,rfl⟩
 rw [←hg6] at B6 ⊢;have hw1:w1.heap.size≤g6:=by omega
 replace hE:=hE.trans e2;replace B0:=e2.block B0;replace B4:=e2.block B4;replace B5:=e2.block B5;clear e2 hsz2 hg6;obtain⟨o0,o1,o2,o3,o4,o5,-⟩:=cells6 B6;go_wp2_with (go_at_call 61; refine Hid.out ?_);refine (sn_has hS hm7 _).mono ?_;rw [HB.out];rintro e w3 ⟨rfl,e3⟩;replace B0:=e3.block B0;replace B4:=e3.block B4;replace B5:=e3.block B5;replace B6:=e3.block B6;replace hS:=hS.ext e3;replace hE:=hE.trans e3;clear o0 o1 o2 o3 o4 o5 e3;obtain⟨a0,a1,a2,-⟩:=cells3 B0;obtain⟨o0,o1,o2,o3,o4,o5,-⟩:=cells6 B6;obtain⟨b9,off9,rfl,-,-,hx9⟩:=(hI1.ext hE).addr hm0;obtain⟨A9,c9,p0,hc9,hm9,-⟩:=hx9 0 hm0;rw [Nat.add_zero] at p0;unfold maxLen at hm9;have t24:((n:Int) == 24)=false:=by rw [beq_eq_false_iff_ne]; omega
 clear hx9;go_wp2_with (go_at_call 62; refine Hid.out ?_);clear p0 t24 hc9 hm9;refine (sn_statistic hS HD.out rfl him H0.out).mono ?_;rintro e w4 ⟨v8,rfl,h8,e4⟩;obtain⟨bz,Az,kz,cz,Az',kz',cz',rfl,hbz,gz1,gz2⟩:=RatV.parts h8;replace B0:=e4.block B0;replace B4:=e4.block B4;replace B5:=e4.block B5;replace B6:=e4.block B6;replace hS:=hS.ext e4;replace hE:=hE.trans e4;have hl6:=blk_lt B6;clear o0 o1 o2 o3 o4 o5 a0 a1 a2 e4 h8;go_upto_region 9 with (fail);refine boxes1 ?_;intro w5 e5 hsz5 B8;replace B0:=e5.block B0;replace B4:=e5.block B4;replace B5:=e5.block B5;replace B6:=e5.block B6;replace hS:=hS.ext e5;replace gz1:=gz1.ext e5;replace gz2:=gz2.ext e5;replace hE:=hE.trans e5;obtain⟨g8,hg8⟩:∃ g8,g8=w4.heap.size:=⟨_,rfl⟩
 have hg68:g6 < g8:=by rw [hg8]; exact hl6
 rw [←hg8] at B8 ⊢;clear e5 hsz5 hg8 hl6;have hN5:N≤w5.heap.size:=by have:=hE.size; omega
 go_wp2_with (go_at_call 80; refine Hid.out ?_);refine (f_whole hN5 0 (by omega) (by omega)).mono ?_;rintro e w6 ⟨v10,rfl,h10,e6⟩;obtain⟨by_,Ay,ky,cy,Ay',ky',cy',rfl,hby,gy1,gy2⟩:=RatV.parts h10;replace B0:=e6.block B0;replace B4:=e6.block B4;replace B5:=e6.block B5;replace B6:=e6.block B6;replace B8:=e6.block B8;replace hS:=hS.ext e6;replace gz1:=gz1.ext e6;replace gz2:=gz2.ext e6;replace hE:=hE.trans e6;clear e6 h10;go_upto_region 12 with (fail);refine boxes1 ?_;intro w7 e7 hsz7 B10;obtain⟨g10,hg10⟩:∃ g10,g10=w6.heap.size:=⟨_,rfl⟩
 have hlt8:=blk_lt B8;have hg80:g8 < g10:=by omega
 have hEw6:=hE;have hw60:w.heap.size≤g10:=by have:=hE.size; omega
 have hR10:RatV N w7 (.agg #[.bool by_,.slice Ay ky cy,.bool false,.slice Ay' ky' cy']) (oS m n X y p 0):=by
  have h9:=RatV.mk hby (gy1.ext e7) (gy2.ext e7);simpa [oS,sum] using h9
 have hw66:w6.heap.size≤g10:=by omega
 rw [←hg10] at B10 ⊢;clear hg10 hsz7;obtain⟨A1',c1',A2',c2',A3',c3',AQ',cq',AV',cv',gq',gl',hv,b1,b2,k1,k2,k3,k4,k5⟩:=hS;simp only [Value.agg.injEq,Array.mk.injEq,List.cons.injEq,Value.slice.injEq,Value.func.injEq,Value.pointer.injEq,Option.some.injEq,Addr.mk.injEq,and_true,true_and] at hv;obtain⟨⟨rfl,rfl⟩,⟨rfl,rfl⟩,⟨rfl,rfl⟩,⟨rfl,rfl⟩,⟨rfl,rfl⟩,rfl,rfl⟩:=hv;obtain⟨ev,offv,rfl,-,-,hxv⟩:=LsV.addr k5 hm0;obtain⟨e3,off3,hA3,-,-,hxp⟩:=LsV.addr (LsV.all (hI3.ext hE)) hm0;subst hA3;have HXV:=Lib.hid hxv;have HXP:=Lib.hid hxp
 have hcv:m≤cv∧cv≤maxLen:=by
  obtain⟨_,_,q9,q1,q2⟩:=k5.form;injection q9 with q3 q4 q5
  subst q5;exact⟨q1,q2⟩
 obtain⟨hcv1,hcv2⟩:=hcv;unfold maxLen at hcv2;clear hxv hxp hby gy1 gy2;have B06:=e7.block B0;have B66:=e7.block B6;obtain⟨o0,o1,o2,o3,o4,o5,-⟩:=cells6 B66;go_wp2;clear o0 o1 o2 o3 o4 o5
 go_loopw [53] (fun j wr=>∃ a:Nat,a≤m∧j=.int .i64 a∧Ext w6 wr∧∃ nb A k c A' k' c',wr.heap[g10]?=some (.cells #[.bool nb,.slice A k c,.bool false,.slice A' k' c'] 36 (0,0))∧RatV N wr (.agg #[.bool nb,.slice A k c,.bool false,.slice A' k' c']) (oS m n X y p a)) (fun j _=>m - (intOf j).toNat)
 case atStart=>exact⟨0,Nat.zero_le _,rfl,e7,_,_,_,_,_,_,_,B10,hR10⟩
 case round =>
  obtain⟨a,ha,rfl,eR,nb,AS,kS',cS,AT,kT,cT,B10r,hRS⟩:=hrel;have hEr:=hE.trans eR;have hNr:N≤wr.heap.size:=by have:=hEr.size; omega
  by_cases hlt:a < m
  ·obtain⟨n7,A7,k7,c7',A6,k6,c6',s0,s1,s2,s3,hb7,g7,g6'⟩:=((HXV.out a hlt).ext eR).open;have B0r:=eR.block B0;go_upto_region 15 with (fail);refine boxes1 ?_;intro w8 e8 hsz8 B12;obtain⟨g12,hg12⟩:∃ g12,g12=wr.heap.size:=⟨_,rfl⟩
   have hlr:=blk_lt B10r;have hg1012:g10 < g12:=by omega
   rw [←hg12] at B12 ⊢;clear hg12 hlr;replace B0r:=e8.block B0r;replace B10r:=e8.block B10r;replace hRS:=hRS.ext e8;have hRv:RatV N w8 (.agg #[.bool n7,.slice A7 k7 c7',.bool false,.slice A6 k6 c6']) (vS m n X y p a):=RatV.mk hb7 (g7.ext e8) (g6'.ext e8);clear hb7 g7 g6' s0 s1 s2 s3;obtain⟨nP,AP,kP,cP,AP',kP',cP',s0,s1,s2,s3,hb7,g7,g6'⟩:=((HXP.out a hlt).ext (eR.trans e8)).open;have hRp:RatV N w8 (.agg #[.bool nP,.slice AP kP cP,.bool false,.slice AP' kP' cP']) (p a):=RatV.mk hb7 g7 g6';replace eR:=eR.trans e8;clear hb7 g7 g6' e8 hsz8;have HZ1:=Lib.hid ((HV.out a hlt).sz (by omega));have HZ2:=Lib.hid (((HV.out a hlt).mul (HV.out a hlt)).sz (by omega));have HZ3:=Lib.hid ((HP.out a hlt).sz (by omega));have HZ4:=Lib.hid (((HP.out a hlt).mul ((HV.out a hlt).mul (HV.out a hlt))).sz (by omega));have HZ5:=Lib.hid ((HO.out a ha).sz (by omega));obtain⟨a0,a1,a2,-⟩:=cells3 B0r;obtain⟨r0,r1,r2,r3,-⟩:=cells4 B10r;obtain⟨t0,t1,t2,t3,-⟩:=cells4 B12;refine regI [Mn.rat N (oS m n X y p a),Mn.eq (.pointer (some ⟨w.heap.size,2,none⟩)),Mn.eq (.slice (some ⟨e3,off3,none⟩) m c3),Mn.eq (.int .i64 (a:Int)),Mn.eq (.pointer (some ⟨e3,off3+a*4,none⟩)),Mn.rat N (p a),Mn.rat N (vS m n X y p a),Mn.rat N (vS m n X y p a),Mn.rat N (vS m n X y p a*vS m n X y p a),Mn.rat N (p a*(vS m n X y p a*vS m n X y p a)),Mn.rat N (oS m n X y p a+p a*(vS m n X y p a*vS m n X y p a)),Mn.any] [some 58,some 59,some 60,some 61,some 62,some 63,some 64,some 65,some 66,some 67,some 68,none] [11] [true,true,true,true,true,true,true,true,true,true,true,false] 1 (by kernel_rfl) ?_ ?_
   ·show ∀ i,i < 12→_
    iterate 12 refine fs ?_ ?_
    ·exact fz
    all_goals intro hl
    all_goals first | exact absurd hl (by decide) | skip
    all_goals clear hl
    all_goals refine stp rfl ?_
    all_goals intro ac wi eI hB hA K hK
    have o10:=oOf (hB 10 (by kernel_rfl)) rfl;clear hB hA;have cc0:=eI.cell r0;have cc1:=eI.cell r1;have cc2:=eI.cell r2;have cc3:=eI.cell r3
    ·go_simp;exact hK.out _ _ (Ext.refl _) (hRS.ext eI)
    have o2:=oOf (hB 2 (by kernel_rfl)) rfl
    rotate_left
    obtain⟨_,s59,rfl⟩:=hA 1 (by kernel_rfl) 59 rfl;have cc0:=eI.cell a2
    rotate_left
    have o11:=oOf (hB 11 (by kernel_rfl)) rfl
    rotate_left
    obtain⟨_,s60,rfl⟩:=hA 2 (by kernel_rfl) 60 rfl;obtain⟨_,s61,rfl⟩:=hA 3 (by kernel_rfl) 61 rfl
    rotate_left
    obtain⟨_,s62,rfl⟩:=hA 4 (by kernel_rfl) 62 rfl;clear hB hA;have cc0:=eI.cell s0;have cc1:=eI.cell s1;have cc2:=eI.cell s2;have cc3:=eI.cell s3
    ·go_simp;exact hK.out _ _ (Ext.refl _) (hRp.ext eI)
    have o12:=oOf (hB 12 (by kernel_rfl)) rfl;clear hB hA;have cc0:=eI.cell t0;have cc1:=eI.cell t1;have cc2:=eI.cell t2;have cc3:=eI.cell t3
    ·go_simp;exact hK.out _ _ (Ext.refl _) (hRv.ext eI)
    have o12:=oOf (hB 12 (by kernel_rfl)) rfl;clear hB hA;have cc0:=eI.cell t0;have cc1:=eI.cell t1;have cc2:=eI.cell t2;have cc3:=eI.cell t3
    ·go_simp;exact hK.out _ _ (Ext.refl _) (hRv.ext eI)
    obtain⟨x64,s64,j64⟩:=hA 6 (by kernel_rfl) 64 rfl;replace j64:Mn.p (Mn.rat N (vS m n X y p a)) x64 wi:=j64;obtain⟨x65,s65,j65⟩:=hA 7 (by kernel_rfl) 65 rfl;replace j65:Mn.p (Mn.rat N (vS m n X y p a)) x65 wi:=j65;clear hB hA
    ·go_simp;refine (f_mul j64 j65 HZ1.out HZ1.out).mono ?_;rintro e wj ⟨vj,rfl,hj,ej⟩;go_wp2_with fail;exact hK.out _ _ ej hj
    obtain⟨x63,s63,j63⟩:=hA 5 (by kernel_rfl) 63 rfl;replace j63:Mn.p (Mn.rat N (p a)) x63 wi:=j63;obtain⟨x66,s66,j66⟩:=hA 8 (by kernel_rfl) 66 rfl;replace j66:Mn.p (Mn.rat N (vS m n X y p a*vS m n X y p a)) x66 wi:=j66;clear hB hA
    ·go_simp;refine (f_mul j63 j66 HZ3.out HZ2.out).mono ?_;rintro e wj ⟨vj,rfl,hj,ej⟩;go_wp2_with fail;exact hK.out _ _ ej hj
    obtain⟨x58,s58,j58⟩:=hA 0 (by kernel_rfl) 58 rfl;replace j58:Mn.p (Mn.rat N (oS m n X y p a)) x58 wi:=j58;obtain⟨x67,s67,j67⟩:=hA 9 (by kernel_rfl) 67 rfl;replace j67:Mn.p (Mn.rat N (p a*(vS m n X y p a*vS m n X y p a))) x67 wi:=j67;clear hB hA
    ·go_simp;refine (f_add j58 j67 HZ5.out HZ4.out).mono ?_;rintro e wj ⟨vj,rfl,hj,ej⟩;go_wp2_with fail;exact hK.out _ _ ej hj
    all_goals clear hB hA
    all_goals go_simp
    all_goals exact hK.out _ _ (Ext.refl _) rfl
   intro vals wz eZ hJ;have J68:Mn.p (Mn.rat N (oS m n X y p a+p a*(vS m n X y p a*vS m n X y p a))) (vals 10) wz:=hJ 10 (by decide) (by decide);clear hJ;simp only [pr,Nat.reduceAdd]
   generalize vals 10=z68 at J68 ⊢
   obtain⟨n4,A4,k4',c4',A4',k4'',c4'',rfl,hb4,g41,g42⟩:=RatV.parts J68;replace B10r:=eZ.block B10r;obtain⟨u0,u1,u2,u3,u4,u5,u6,u7⟩:=cells4 B10r;refine stepL_late (i:=11) rfl (by kernel_rfl) (by kernel_rfl) (fun K hK=>?_);go_simp;refine hK.out _ _ ?_;clear hK K;try simp only [nr]
   refine stepL_done (by kernel_rfl) ?_ _;obtain⟨w9,E9,D9,U9⟩:=ex4 B10r (.bool n4) (.slice A4 k4' c4') (.bool false) (.slice A4' k4'' c4'');rw [E9];have C9:=U9.chg (NoU.mk B10r (by decide));have hR9:RatV N w9 (.agg #[.bool n4,.slice A4 k4' c4',.bool false,.slice A4' k4'' c4'']) (oS m n X y p (a+1)):=RatV.chg (RatV.mk hb4 g41 g42) C9 (by omega);have eR9:=C9.ext (eR.trans eZ) (by omega);clear E9 U9 C9 B10r B0r hRS hRv hRp hb4 g41 g42 a0 a1 a2 r0 r1 r2 r3 s0 s1 s2 s3 t0 t1 t2 t3 u0 u1 u2 u3 u4 u5 u6 u7 J68;go_wp2;go_roundw
   case rel=>exact⟨a+1,by omega,by go_num,eR9,_,_,_,_,_,_,_,D9,hR9⟩
   case measure=>simp [intOf]; omega
  ·obtain rfl:m=a:=by omega
   clear hEw6;have B4r:=eR.block B4;have B5r:=eR.block B5;have B8r:=eR.block B8;have b1r:=eR.block b1;have b2r:=eR.block b2;have k1r:=k1.ext eR;have k3r:=k3.ext eR;have k4r:=k4.ext eR;obtain⟨n7,A7,k7,c7',A6,k6,c6',s0,s1,s2,s3,hb7,g7,g6'⟩:=((HXV.out i him).ext eR).open;have hRv:RatV N wr (.agg #[.bool n7,.slice A7 k7 c7',.bool false,.slice A6 k6 c6']) (vS m n X y p i):=RatV.mk hb7 g7 g6';have HZ1:=Lib.hid ((HV.out i him).sz (by omega));have HZ2:=Lib.hid ((HV.out i him).neg.sz (by omega));obtain⟨o0,o1,o2,o3,o4,o5,-⟩:=cells6 (eR.block B6);clear hb7 g7 g6' B0 B4 B5 B8 b1 b2 k1 k2 k3 k4 k5;go_upto_region 17 with (fail);refine regS [Mn.eq (.pointer (some ⟨g6,4,none⟩)),Mn.eq (.slice (some ⟨ev,offv,none⟩) m cv),Mn.eq (.int .i64 (i:Int)),Mn.eq (.pointer (some ⟨ev,offv+i*4,none⟩)),Mn.rat N (vS m n X y p i),Mn.rat N (-vS m n X y p i),Mn.eq (.pointer (some ⟨g6,5,none⟩)),Mn.eq (.func (.func 104) #[] #[.pointer (some ⟨gq,0,none⟩),.pointer (some ⟨gl,0,none⟩)]),Mn.eq (.int .i64 (i:Int)),Mn.rat N (rS m n X p i),Mn.rc N (-vS m n X y p i / rS m n X p i),Mn.rc N (-vS m n X y p i / rS m n X p i),Mn.rat N (-vS m n X y p i / rS m n X p i),Mn.eq (.int .i64 0),Mn.any] [some 71,some 72,some 73,some 74,some 75,some 76,some 77,some 78,some 79,some 80,some 81,some 70,some 82,some 83,none] [14] [13] [true,true,true,true,true,true,true,true,true,true,true,true,true,true,false] 1 (by kernel_rfl) ?_ ?_ ?_
   ·show ∀ i,i < 15→_
    iterate 15 refine fs ?_ ?_
    ·exact fz
    all_goals intro hl hs
    all_goals first | exact absurd hl (by decide) | exact absurd hs (by decide) | skip
    all_goals clear hl hs
    all_goals refine stp rfl ?_
    all_goals intro ac wi eI hB hA K hK
    have o7:=oOf (hB 7 (by kernel_rfl)) rfl
    rotate_left
    obtain⟨_,s71,rfl⟩:=hA 0 (by kernel_rfl) 71 rfl;have cc0:=eI.cell o4
    rotate_left
    have o1:=oOf (hB 1 (by kernel_rfl)) rfl
    rotate_left
    obtain⟨_,s72,rfl⟩:=hA 1 (by kernel_rfl) 72 rfl;obtain⟨_,s73,rfl⟩:=hA 2 (by kernel_rfl) 73 rfl
    rotate_left
    obtain⟨_,s74,rfl⟩:=hA 3 (by kernel_rfl) 74 rfl;clear hB hA;have cc0:=eI.cell s0;have cc1:=eI.cell s1;have cc2:=eI.cell s2;have cc3:=eI.cell s3
    ·go_simp;exact hK.out _ _ (Ext.refl _) (hRv.ext eI)
    obtain⟨x75,s75,j75⟩:=hA 4 (by kernel_rfl) 75 rfl;replace j75:Mn.p (Mn.rat N (vS m n X y p i)) x75 wi:=j75;clear hB hA
    ·go_simp;refine (f_neg j75 HZ1.out).mono ?_;rintro e wj ⟨vj,rfl,hj,ej⟩;go_wp2_with fail;exact hK.out _ _ ej hj
    have o7:=oOf (hB 7 (by kernel_rfl)) rfl
    rotate_left
    obtain⟨_,s77,rfl⟩:=hA 6 (by kernel_rfl) 77 rfl;have cc0:=eI.cell o5
    rotate_left
    have o1:=oOf (hB 1 (by kernel_rfl)) rfl
    rotate_left
    obtain⟨_,s78,rfl⟩:=hA 7 (by kernel_rfl) 78 rfl;obtain⟨_,s79,rfl⟩:=hA 8 (by kernel_rfl) 79 rfl;clear hB hA
    ·go_simp;refine (sn_redund (eI.block b1r) (eI.block b2r) (k1r.ext eI) (k3r.ext eI) (k4r.ext eI) HD.out rfl him).mono ?_;rintro e wj ⟨vj,rfl,hj,ej⟩;go_wp2_with fail;exact hK.out _ _ ej hj
    obtain⟨x76,s76,j76⟩:=hA 5 (by kernel_rfl) 76 rfl;replace j76:Mn.p (Mn.rat N (-vS m n X y p i)) x76 wi:=j76;obtain⟨x80,s80,j80⟩:=hA 9 (by kernel_rfl) 80 rfl;replace j80:Mn.p (Mn.rat N (rS m n X p i)) x80 wi:=j80;clear hB hA
    ·go_simp;refine (f_divide j76 j80 HZ2.out HR.out H0.out).mono ?_;rintro e wj ⟨vj,rfl,hj,ej⟩;go_wp2_with fail;exact hK.out _ _ ej ⟨vj,rfl,hj⟩
    obtain⟨x81,s81,j81⟩:=hA 10 (by kernel_rfl) 81 rfl;replace j81:Mn.p (Mn.rc N (-vS m n X y p i / rS m n X p i)) x81 wi:=j81;clear hB hA
    ·go_simp;exact hK.out _ _ (Ext.refl _) j81
    obtain⟨x70,s70,j70⟩:=hA 11 (by kernel_rfl) 70 rfl;replace j70:Mn.p (Mn.rc N (-vS m n X y p i / rS m n X p i)) x70 wi:=j70;clear hB hA
    ·obtain⟨vj,rfl,hj⟩:=j70;go_simp;exact hK.out _ _ (Ext.refl _) hj
    all_goals clear hB hA
    all_goals go_simp
    all_goals exact hK.out _ _ (Ext.refl _) rfl
   ·intro i hs;have hi':i=13:=by simpa using hs
    clear hs
    rcases hi' with rfl
    ·refine sft rfl (fun _ _ _ _ h=>h) ?_;intro ac wi eI hB hA;obtain⟨x70,s70,j70⟩:=hA 11 (by kernel_rfl) 70 rfl;replace j70:Mn.p (Mn.rc N (-vS m n X y p i / rS m n X p i)) x70 wi:=j70;clear hB hA;obtain⟨vj,rfl,hj⟩:=j70;refine⟨(.int .i64 0),.inl ⟨rfl,fun w9 _=>?_⟩,rfl⟩;go_simp
   intro vals wz eZ hJ;have J82:Mn.p (Mn.rat N (-vS m n X y p i / rS m n X p i)) (vals 12) wz:=hJ 12 (by decide) (by decide);clear hJ;simp only [pr,Nat.reduceAdd]
   generalize vals 12=z82 at J82 ⊢
   obtain⟨n4,A4,k4',c4',A4',k4'',c4'',rfl,hb4,g41,g42⟩:=RatV.parts J82;replace B4r:=eZ.block B4r;obtain⟨u0,u1,u2,u3,u4,u5,u6,u7⟩:=cells4 B4r;refine stepL_late (i:=14) rfl (by kernel_rfl) (by kernel_rfl) (fun K hK=>?_);go_simp;refine hK.out _ _ ?_;clear hK K;try simp only [nr]
   refine stepL_done (by kernel_rfl) ?_ _;obtain⟨w9,E9,D9,U9⟩:=ex4 B4r (.bool n4) (.slice A4 k4' c4') (.bool false) (.slice A4' k4'' c4'');rw [E9];have C9:=U9.chg (NoU.mk B4r (by decide));have hR9:RatV N w9 (.agg #[.bool n4,.slice A4 k4' c4',.bool false,.slice A4' k4'' c4'']) (-vS m n X y p i / rS m n X p i):=RatV.chg (RatV.mk hb4 g41 g42) C9 (by omega);have B59:=C9.blk (eZ.block B5r) (by omega);have B89:=C9.blk (eZ.block B8r) (by omega);have B109:=C9.blk (eZ.block B10r) (by omega);have hRS9:=RatV.chg (hRS.ext eZ) C9 (by omega);have g819:=(gz1.ext (eR.trans eZ)).chg C9 (by omega);have g829:=(gz2.ext (eR.trans eZ)).chg C9 (by omega);have hE9:=C9.ext (hEr.trans eZ) (by omega);clear E9 U9 C9 B4r B5r B8r B10r hRS hRv hb4 g41 g42 o0 o1 o2 o3 o4 o5 s0 s1 s2 s3 u0 u1 u2 u3 u4 u5 u6 u7 J82 b1r b2r k1r k3r k4r B6 hEr eZ;have hR8:RatV N w9 (.agg #[.bool bz,.slice Az kz cz,.bool false,.slice Az' kz' cz']) (tS m n X y p i):=RatV.mk hbz g819 g829;have HZ3:=Lib.hid ((HO.out m (Nat.le_refl _)).sz (by omega));have HZ4:=Lib.hid (HT.out.sz (by omega));obtain⟨x0,x1,x2,x3,-⟩:=cells4 D9;obtain⟨r0,r1,r2,r3,-⟩:=cells4 B109;obtain⟨t0,t1,t2,t3,-⟩:=cells4 B89;clear hbz g819 g829;go_upto_region 18 with (fail);refine regI [Mn.rat N (-vS m n X y p i / rS m n X p i),Mn.rat N (oS m n X y p m),Mn.rat N (tS m n X y p i),Mn.rat N (oS m n X y p m - tS m n X y p i),Mn.any,Mn.any,Mn.any] [some 84,some 85,some 86,some 87,none,none,some 6] [4,5,6] [true,true,true,true,false,false,false] 3 (by kernel_rfl) ?_ ?_
   ·show ∀ i,i < 7→_
    iterate 7 refine fs ?_ ?_
    ·exact fz
    all_goals intro hl
    all_goals first | exact absurd hl (by decide) | skip
    all_goals clear hl
    all_goals refine stp rfl ?_
    all_goals intro ac wi eI hB hA K hK
    have o4:=oOf (hB 4 (by kernel_rfl)) rfl;clear hB hA;have cc0:=eI.cell x0;have cc1:=eI.cell x1;have cc2:=eI.cell x2;have cc3:=eI.cell x3
    ·go_simp;exact hK.out _ _ (Ext.refl _) (hR9.ext eI)
    have o10:=oOf (hB 10 (by kernel_rfl)) rfl;clear hB hA;have cc0:=eI.cell r0;have cc1:=eI.cell r1;have cc2:=eI.cell r2;have cc3:=eI.cell r3
    ·go_simp;exact hK.out _ _ (Ext.refl _) (hRS9.ext eI)
    have o8:=oOf (hB 8 (by kernel_rfl)) rfl;clear hB hA;have cc0:=eI.cell t0;have cc1:=eI.cell t1;have cc2:=eI.cell t2;have cc3:=eI.cell t3
    ·go_simp;exact hK.out _ _ (Ext.refl _) (hR8.ext eI)
    obtain⟨x85,s85,j85⟩:=hA 1 (by kernel_rfl) 85 rfl;replace j85:Mn.p (Mn.rat N (oS m n X y p m)) x85 wi:=j85;obtain⟨x86,s86,j86⟩:=hA 2 (by kernel_rfl) 86 rfl;replace j86:Mn.p (Mn.rat N (tS m n X y p i)) x86 wi:=j86;clear hB hA
    ·go_simp;refine (f_sub j85 j86 HZ3.out HZ4.out).mono ?_;rintro e wj ⟨vj,rfl,hj,ej⟩;go_wp2_with fail;exact hK.out _ _ ej hj
   intro vals wz eZ hJ;have J84:Mn.p (Mn.rat N (-vS m n X y p i / rS m n X p i)) (vals 0) wz:=hJ 0 (by decide) (by decide);have J87:Mn.p (Mn.rat N (oS m n X y p m - tS m n X y p i)) (vals 3) wz:=hJ 3 (by decide) (by decide);clear hJ;simp only [pr,Nat.reduceAdd]
   generalize vals 0=z84 at J84 ⊢
   generalize vals 3=z87 at J87 ⊢
   obtain⟨n5,A5',k5',c5',A5'',k5'',c5'',rfl,hb5,g51,g52⟩:=RatV.parts J84;obtain⟨n9,A9',k9',c9',A9'',k9'',c9'',rfl,hb9,g91,g92⟩:=RatV.parts J87;replace D9:=eZ.block D9;replace B59:=eZ.block B59;replace hE9:=hE9.trans eZ;obtain⟨u0,u1,u2,u3,u4,u5,u6,u7⟩:=cells4 D9;obtain⟨q0,q1,q2,q3,q4,q5,q6,q7⟩:=cells4 B59;refine stepL_late (i:=4) rfl (by kernel_rfl) (by kernel_rfl) (fun K hK=>?_);go_simp;refine hK.out _ _ ?_;clear hK K;try simp only [nr]
   refine stepL_late (i:=5) rfl (by kernel_rfl) (by kernel_rfl) (fun K hK=>?_);go_simp;refine hK.out _ _ ?_;clear hK K;try simp only [nr]
   refine stepL_late (i:=6) rfl (by kernel_rfl) (by kernel_rfl) (fun K hK=>?_);go_simp;refine hK.out _ _ ?_;clear hK K;try simp only [nr]
   refine stepL_done (by kernel_rfl) ?_ _;obtain⟨w10,E10,D10,U10⟩:=ex4 D9 (.bool n5) (.slice A5' k5' c5') (.bool false) (.slice A5'' k5'' c5'');rw [E10];have C10:=U10.chg (NoU.mk D9 (by decide));have B510:=C10.blk B59 (by omega);obtain⟨w11,E11,D11,U11⟩:=ex4 B510 (.bool n9) (.slice A9' k9' c9') (.bool false) (.slice A9'' k9'' c9'');rw [E11];have C11:=U11.chg (NoU.mk B510 (by decide));have D101:=C11.blk D10 (by omega);have hV1:=((RatV.mk hb5 g51 g52).chg C10 (by omega)).chg C11 (by omega);have hV2:=((RatV.mk hb9 g91 g92).chg C10 (by omega)).chg C11 (by omega);have hE11:=C11.ext (C10.ext hE9 (by omega)) (by omega);clear E10 E11 u0 u1 u2 u3 u4 u5 u6 u7 q0 q1 q2 q3 q4 q5 q6 q7 x0 x1 x2 x3 r0 r1 r2 r3 t0 t1 t2 t3 J84 J87 g51 g52 g91 g92 hb5 hb9 eZ;obtain⟨x0,x1,x2,x3,-⟩:=cells4 D101;obtain⟨y0,y1,y2,y3,-⟩:=cells4 D11;go_wp2;refine bodyPost_ret (v:=.tuple #[.agg #[.bool n5,.slice A5' k5' c5',.bool false,.slice A5'' k5'' c5''],.agg #[.bool n9,.slice A9' k9' c9',.bool false,.slice A9'' k9'' c9''],.int .i64 0]) ?_ rfl ?_
   ·simp [results,x0,x1,x2,x3,y0,y1,y2,y3,go_sem]
   ·rw [hRf.out];exact⟨_,_,rfl,hV1,hV2,hE11⟩
structure Ms (m n:Nat) (X:Nat→Nat→Rat) (y p:Nat→Rat):Prop where
 m0:0 < m
 m7:m≤7
 n0:0 < n
 n4:n≤5
 hX:HtM m n 17 X
 hy:HtL m 17 y
 hp:HtL m 17 p
theorem pow5_5 {n:Nat} (h:n≤5) (k:Nat):5 ^ n*k≤3125*k:=Nat.mul_le_mul_right _ (Nat.le_trans (Nat.pow_le_pow_right (by omega) h) (by decide))
section
variable {m n:Nat} {X:Nat→Nat→Rat} {y p:Nat→Rat}
theorem Ms.K_ht (d:Ms m n X y p):HtM n n 365 (nmat X p m):=nmat_ht d.hX d.hp (Nat.le_refl _) (by have:=d.m7; omega)
theorem Ms.b_ht (d:Ms m n X y p):HtL n 365 (nrhs X y p m):=nrhs_ht d.hX d.hy d.hp (Nat.le_refl _) (by have:=d.m7; omega)
theorem Ms.hK1 (d:Ms m n X y p):m*(3*17+1)+3*17+2≤29000000000:=by have:=d.m7; omega
theorem Ms.hK2 (d:Ms m n X y p):5*(5 ^ n*(365+1))≤29000000000:=by have:=pow5_5 d.n4 (365+1); omega
theorem Ms.q_ht (d:Ms m n X y p):HtM n n 5800000 (qS m n X p):=(invM_ht d.K_ht).mono (by have:=pow5_5 d.n4 (365+1); omega)
theorem Ms.hK3 (d:Ms m n X y p):n*(5800000+365+1)+1≤29000000000:=by have:=d.n4; omega
theorem Ms.x_ht (d:Ms m n X y p):HtL n 30000000 (xS m n X y p):=fun i hi =>
 sum_ht (n:=n) (k:=5800000+365) (fun c hc=>(d.q_ht i hi c hc).mul (d.b_ht c hc)) (Nat.le_refl _) (by have:=d.n4; omega)
end
theorem l34_solve5 {N lo hi:Nat} {w:World} {v1 v2 v3:Value} {m n:Nat} {X:Nat→Nat→Rat} {y p:Nat→Rat} (h1:MtV N lo hi w v1 m n X) (h2:LsV N lo hi w v2 m y) (h3:LsV N lo hi w v3 m p) (d:Ms m n X y p) (hr:Reg n (nmat X p m)) :
  Calls Tryz.prog 15 #[.agg #[v1,v2,v3]] w (RetXs N w n (xS m n X y p)):=by
 have HI:Hid (ivB n (nmat X p m)=true):=ivB_reg.2 hr;obtain⟨Rf,hRf⟩:=hid_eq (RetXs N w n (xS m n X y p));rw [←hRf.out];have HD:=Lib.hid d;have HG:=Lib.hid hr;have hN:=h1.le;have hm0:=d.m0;have hm7:=d.m7;have hn0:=d.n0;have hn4:=d.n4;have hI1:=h1;have hI2:=h2;have hI3:=h3;obtain⟨A1,c1,rfl,hmc,hcm⟩:=h1.form;obtain⟨A2,c2,rfl,hmc2,hcm2⟩:=h2.form;obtain⟨A3,c3,rfl,hmc3,hcm3⟩:=h3.form;unfold maxLen at hcm hcm2 hcm3;clear h1 h2 h3 d hr;go_enter Tryz.func15,Tryz.ntmps15;go_wp2_with (go_at_call 51; refine Hid.out ?_);refine boxesC1 ?_;intro W hE hsz B0;refine (l34_normal (hI1.ext hE) (hI2.ext hE) (hI3.ext hE) hm0 (by omega) hn0 (by omega) HD.out.hX HD.out.hy HD.out.hp HD.out.hK1).mono ?_;rintro e w1 ⟨AN,cN,AR,cR,rfl,hNM,hNR,e1⟩;replace hNM:=MtV.all hNM;replace hNR:=LsV.all hNR;replace hE:=hE.trans e1;clear e1 hsz B0;go_wp2_with (go_at_call 63; refine Hid.out ?_);refine (r5_inverse hNM hn0 (by omega) HD.out.K_ht HD.out.hK2).mono ?_;rw [HI.out];rintro e w2 ⟨e2,hh⟩
 rcases hh with ⟨h9,-⟩ | ⟨-,AQ,cQ,rfl,hQ⟩
 case inl=>cases h9
 replace hE:=hE.trans e2;replace hNR:=hNR.ext e2;go_wp2_with (go_at_call 31; refine Hid.out ?_);refine (r5_apply hQ hNR (by omega) hn0 (by omega) HD.out.q_ht HD.out.b_ht HD.out.hK3).mono ?_;rintro e w3 ⟨AX,cX,rfl,hX,e3⟩;go_wp2
 first | go_ret2 | skip
 rw [hRf.out];exact⟨_,_,rfl,LsV.all hX,hE.trans e3⟩
theorem shift_eq {m n:Nat} {X:Nat→Nat→Rat} {y p:Nat→Rat} (d:Md (m+1) n X y p) (hr:Reg n (nmat X p (m+1))) {i:Nat} (hi:i < m+1) (h0:rS (m+1) n X p i≠0) :
  Reg n (nmat (fun j=>X (skip i j)) (fun j=>p (skip i j)) m)∧Reg (n+1) (nmat (plus1 n X i) p (m+1))∧-vS (m+1) n X y p i / rS (m+1) n X p i=xS (m+1) (n+1) (plus1 n X i) y p n ∧
  oS (m+1) n X y p (m+1) - tS (m+1) n X y p i=obj (m+1) p (fun k=>av (n+1) (plus1 n X i) (xS (m+1) (n+1) (plus1 n X i) y p) k - y k) ∧
  oS (m+1) n X y p (m+1) - tS (m+1) n X y p i=obj m (fun j=>p (skip i j)) (vS m n (fun j=>X (skip i j)) (fun j=>y (skip i j)) (fun j=>p (skip i j))):=by
 have hr':Reg n (nmat (fun j=>X (skip i j)) (fun j=>p (skip i j)) m):=Classical.byContradiction fun h=>h0 ((d.zero hr hi).2 h)
 have hR2:=shift_reg (n:=n) (A:=X) (P:=p) hi d.pos (reg_nm.1 hr');have hR3:=reg_nm.2 hR2;obtain⟨s1,s2⟩:=shift_nsol (n:=n) (A:=X) (P:=p) (L:=y) hi (xS_nsol hr');have hu:=reg_unique hR2 (xS_nsol (y:=y) hR3) s1;have hal:=(d.inv2 hr).alone (L:=y) hi (xS_nsol hr) (xS_nsol hr');have hdr:=drop_eq d hr hi hr' h0;have ho:oS (m+1) n X y p (m+1)=obj (m+1) p (vS (m+1) n X y p):=rfl
 have hav:∀ k,av (n+1) (plus1 n X i) (xS (m+1) (n+1) (plus1 n X i) y p) k=av (n+1) (plus1 n X i) (fun c=>if c < n then xS m n (fun j=>X (skip i j)) (fun j=>y (skip i j)) (fun j=>p (skip i j)) c else y i - av n X (xS m n (fun j=>X (skip i j)) (fun j=>y (skip i j)) (fun j=>p (skip i j))) i) k :=
  fun k=>sum_congr fun c hc=>by rw [hu c hc]
 refine⟨hr',hR3,?_,?_,?_⟩
 ·rw [hu n (by omega),if_neg (by omega)];have hv:rS (m+1) n X p i*(av n X (xS m n (fun j=>X (skip i j)) (fun j=>y (skip i j)) (fun j=>p (skip i j))) i - y i)=vS (m+1) n X y p i:=hal;rw [←hv];clear hal hdr hu s1 s2 hav hv
  grind
 ·have h9:obj (m+1) p (fun k=>av (n+1) (plus1 n X i) (xS (m+1) (n+1) (plus1 n X i) y p) k - y k)=obj m (fun j=>p (skip i j)) (vS m n (fun j=>X (skip i j)) (fun j=>y (skip i j)) (fun j=>p (skip i j))) :=
   Eq.trans (sum_congr fun k _=>by dsimp only; rw [hav k]) s2
  rw [ho,hdr,h9];clear hal hdr hu s1 s2 hav h9
  grind
 ·rw [ho,hdr]
  grind
theorem shifts_out {N lo hi:Nat} {w:World} {v:Value} {Z:Lin} (h:LinV N lo hi w v Z) (z:Int) (hs:few34 7 4 Z=false∨(few34 7 4 Z=true∧code38 Z 0 (fun _=>raw 0)≠0)) :
  Calls Tryz.prog 9 #[v,.int .i64 z] w (RetV w (.bool true)):=by
 have hI:=h
 have hN:N≤w.heap.size:=by
  obtain⟨s1,s2,s3,-,g1,-⟩:=h;exact g1.le
 obtain⟨A1,c1,A2,c2,A3,c3,rfl,-⟩:=h.parts
 rcases hs with hs | ⟨hf,hc⟩
 ·have HS:=Lib.hid hs;clear h hs;go_enter Tryz.func9,Tryz.ntmps9;go_wp2_with (go_at_call 10; refine Hid.out ?_);refine boxesC1 ?_;intro W hE hsz B0;refine (l38_known W).mono ?_;rintro e w1 ⟨rfl,e1⟩;replace hE:=hE.trans e1;replace B0:=e1.block B0;have hs1:=e1.size;replace hsz:w.heap.size < w1.heap.size:=by omega
  clear e1 hs1;obtain⟨a0,a1,a2,-⟩:=cells3 B0;go_wp2_with (go_at_call 11; refine Hid.out ?_);refine (l38_few (hI.ext hE)).mono ?_;rintro e w2 ⟨rfl,e2⟩;rw [HS.out];replace hE:=hE.trans e2;replace B0:=e2.block B0;replace hsz:=blk_lt B0;clear a0 a1 a2;obtain⟨a0,a1,a2,-⟩:=cells3 B0;clear e2;go_wp2;go_ret;exact⟨rfl,hE⟩
 ·have HF:=Lib.hid hf;have HC:=Lib.hid hc;obtain⟨r,hr⟩:=hid_eq (code38 Z 0 (fun _=>raw 0));have hr0:(r == 0)=false:=by rw [hr.out]; simpa using hc
  have hr1:(r != 0)=true:=by simpa using hr0
  clear h hf hc;go_enter Tryz.func9,Tryz.ntmps9;go_wp2_with (go_at_call 10; refine Hid.out ?_);refine boxesC1 ?_;intro W hE hsz B0;refine (l38_known W).mono ?_;rintro e w1 ⟨rfl,e1⟩;replace hE:=hE.trans e1;replace B0:=e1.block B0;have hs1:=e1.size;replace hsz:w.heap.size < w1.heap.size:=by omega
  clear e1 hs1;obtain⟨a0,a1,a2,-⟩:=cells3 B0;go_wp2_with (go_at_call 11; refine Hid.out ?_);refine (l38_few (hI.ext hE)).mono ?_;rintro e w2 ⟨rfl,e2⟩;rw [HF.out];replace hE:=hE.trans e2;replace B0:=e2.block B0;replace hsz:=blk_lt B0;clear a0 a1 a2;obtain⟨a0,a1,a2,-⟩:=cells3 B0;clear e2;go_wp2_with (go_at_call 53; refine Hid.out ?_);refine (sn_Shift_bad (hI.ext hE) HF.out HC.out z).mono ?_;rintro e w4 ⟨rfl,e4⟩;unfold nilRat;replace hE:=hE.trans e4;replace B0:=e4.block B0;replace hsz:=blk_lt B0;clear a0 a1 a2;obtain⟨a0,a1,a2,-⟩:=cells3 B0;clear e4;go_upto_region 6 with (fail);refine boxes2 ?_;intro w5 e5 hsz5 B5 B6;replace hE:=hE.trans e5;replace B0:=e5.block B0;replace hsz:=blk_lt B0;clear a0 a1 a2;obtain⟨a0,a1,a2,-⟩:=cells3 B0;clear e5 hsz5;obtain⟨g5,hg5⟩:∃ g5,g5=w4.heap.size:=⟨_,rfl⟩
  rw [←hg5] at B5 B6 ⊢;clear hg5;go_wp2_with (go_at_call 12; refine Hid.out ?_);refine (l38_checked (R:=fun _=>raw 0) (hI.ext hE) (lsr_nil (N:=N) (by have:=hE.size; omega) _) HF.out (fun i hi=>absurd hi (by omega))).mono ?_;rintro e w3 ⟨rfl,e3⟩;rw [←hr.out];replace hE:=hE.trans e3;replace B0:=e3.block B0;replace hsz:=blk_lt B0;clear a0 a1 a2;obtain⟨a0,a1,a2,-⟩:=cells3 B0;replace B5:=e3.block B5;replace B6:=e3.block B6;clear e3;obtain⟨x0,x1,x2,x3,-⟩:=cells4 B5;obtain⟨y0,y1,y2,y3,-⟩:=cells4 B6;go_wp2_with (go_at_call 48; refine Hid.out ?_);refine r2_zero.mono ?_;rintro e w8 ⟨rfl,e8⟩;replace hE:=hE.trans e8;replace B0:=e8.block B0;replace hsz:=blk_lt B0;clear a0 a1 a2;obtain⟨a0,a1,a2,-⟩:=cells3 B0;replace B5:=e8.block B5;replace B6:=e8.block B6;clear e8;clear x0 x1 x2 x3 y0 y1 y2 y3;obtain⟨y0,y1,y2,y3,-⟩:=cells4 B6;go_wp2_with (go_at_call 48; refine Hid.out ?_);refine r2_zero.mono ?_;rintro e w9 ⟨rfl,e9⟩;replace hE:=hE.trans e9;go_wp2;go_ret;exact⟨rfl,hE⟩
theorem shifts_bad {N lo hi:Nat} {w:World} {A1 A2 A3:Option Addr} {c1 c2 c3 m n:Nat} {X:Nat→Nat→Rat} {y p:Nat→Rat} {Z:Lin} (hI:LinV N lo hi w (.agg #[.slice A1 m c1,.slice A2 m c2,.slice A3 m c3]) Z) (hm:Z.m=m) (hf:few34 7 4 Z=true) (hc:code38 Z 0 (fun _=>raw 0)=0)
  (h1:MtV N lo hi w (.slice A1 m c1) m n X) (h2:LsV N lo hi w (.slice A2 m c2) m y) (h3:LsV N lo hi w (.slice A3 m c3) m p) (d:Md m n X y p) (hr:Reg n (nmat X p m)) (z:Int) (hb:inB m z=false∨(inB m z=true∧rS m n X p z.toNat=0)) :
  Calls Tryz.prog 9 #[.agg #[.slice A1 m c1,.slice A2 m c2,.slice A3 m c3],.int .i64 z] w (RetV w (.bool true)):=by
 have hN:=h1.le;have HF:=Lib.hid hf;have HC:=Lib.hid hc;have HD:=Lib.hid d;have HG:=Lib.hid hr;have hI1:=h1;have hI2:=h2;have hI3:=h3;obtain⟨bz,hbz⟩:=hid_eq (inB m z)
 obtain⟨r,hb2⟩:∃ r:Int,(r=2∧bz=false)∨(r=13∧bz=true∧rS m n X p z.toNat=0):=by
  rw [hbz.out]
  rcases hb with hb | hb
  ·exact⟨2,.inl ⟨rfl,hb⟩⟩
  ·exact⟨13,.inr ⟨rfl,hb⟩⟩
 have HB2:=Lib.hid hb2;have HBZ:Hid (bz=inB Z.m z):=by rw [Hid,hm]; exact hbz.out
 clear hf hc h1 h2 h3 d hr hb hb2;go_enter Tryz.func9,Tryz.ntmps9;go_wp2_with (go_at_call 10; refine Hid.out ?_);refine boxesC1 ?_;intro W hE hsz B0;refine (l38_known W).mono ?_;rintro e w1 ⟨rfl,e1⟩;replace hE:=hE.trans e1;replace B0:=e1.block B0;have hs1:=e1.size;replace hsz:w.heap.size < w1.heap.size:=by omega
 clear e1 hs1;obtain⟨a0,a1,a2,-⟩:=cells3 B0;go_wp2_with (go_at_call 11; refine Hid.out ?_);refine (l38_few (hI.ext hE)).mono ?_;rintro e w2 ⟨rfl,e2⟩;rw [HF.out];replace hE:=hE.trans e2;replace B0:=e2.block B0;replace hsz:=blk_lt B0;clear a0 a1 a2;obtain⟨a0,a1,a2,-⟩:=cells3 B0;clear e2;go_wp2_with (go_at_call 53; refine Hid.out ?_);refine (sn_Shift_no (hI1.ext hE) (hI2.ext hE) (hI3.ext hE) HD.out HG.out hbz HB2.out).mono ?_;rintro e w4 ⟨rfl,e4⟩;unfold nilRat;replace hE:=hE.trans e4;replace B0:=e4.block B0;replace hsz:=blk_lt B0;clear a0 a1 a2;obtain⟨a0,a1,a2,-⟩:=cells3 B0;clear e4;go_upto_region 6 with (fail);refine boxes2 ?_;intro w5 e5 hsz5 B5 B6;replace hE:=hE.trans e5;replace B0:=e5.block B0;replace hsz:=blk_lt B0;clear a0 a1 a2;obtain⟨a0,a1,a2,-⟩:=cells3 B0;clear e5 hsz5;obtain⟨g5,hg5⟩:∃ g5,g5=w4.heap.size:=⟨_,rfl⟩
 rw [←hg5] at B5 B6 ⊢;clear hg5;go_wp2_with (go_at_call 12; refine Hid.out ?_);refine (l38_checked (R:=fun _=>raw 0) (hI.ext hE) (lsr_nil (N:=N) (by have:=hE.size; omega) _) HF.out (fun i hi=>absurd hi (by omega))).mono ?_;rintro e w3 ⟨rfl,e3⟩;rw [HC.out];replace hE:=hE.trans e3;replace B0:=e3.block B0;replace hsz:=blk_lt B0;clear a0 a1 a2;obtain⟨a0,a1,a2,-⟩:=cells3 B0;replace B5:=e3.block B5;replace B6:=e3.block B6;clear e3;go_wp2_with (go_at_call 13; refine Hid.out ?_);refine (l38_inside (hI.ext hE) _).mono ?_;rintro e w6 ⟨rfl,e6⟩;rw [←HBZ.out];replace hE:=hE.trans e6;replace B0:=e6.block B0;replace hsz:=blk_lt B0;clear a0 a1 a2;obtain⟨a0,a1,a2,-⟩:=cells3 B0;replace B5:=e6.block B5;replace B6:=e6.block B6;clear e6
 rcases HB2.out with ⟨rfl,rfl⟩ | ⟨rfl,rfl,h0⟩
 ·obtain⟨x0,x1,x2,x3,-⟩:=cells4 B5;obtain⟨y0,y1,y2,y3,-⟩:=cells4 B6;go_wp2_with (go_at_call 48; refine Hid.out ?_);refine r2_zero.mono ?_;rintro e w8 ⟨rfl,e8⟩;replace hE:=hE.trans e8;replace B0:=e8.block B0;replace hsz:=blk_lt B0;clear a0 a1 a2;obtain⟨a0,a1,a2,-⟩:=cells3 B0;replace B5:=e8.block B5;replace B6:=e8.block B6;clear e8;clear x0 x1 x2 x3 y0 y1 y2 y3;obtain⟨y0,y1,y2,y3,-⟩:=cells4 B6;go_wp2_with (go_at_call 48; refine Hid.out ?_);refine r2_zero.mono ?_;rintro e w9 ⟨rfl,e9⟩;replace hE:=hE.trans e9;go_wp2;go_ret;exact⟨rfl,hE⟩
 ·obtain⟨i,hiz⟩:∃ i,i=z.toNat:=⟨_,rfl⟩
  have hb:=hbz.out.symm;have him:i < m:=by rw [hiz]; exact (inB_true hb).2
  have hzi:z=(i:Int):=by rw [hiz]; exact (inB_true hb).1
  rw [←hiz] at h0;have H00:=Lib.hid h0;clear hiz h0 hb;subst hzi;go_wp2_with (go_at_call 45; refine Hid.out ?_);refine (l38_redundancy (hI1.ext hE) (hI2.ext hE) (hI3.ext hE) HD.out HG.out him).mono ?_;rw [H00.out];rintro e w7 ⟨vr,rfl,hvr,e7⟩;replace hE:=hE.trans e7;replace B0:=e7.block B0;replace hsz:=blk_lt B0;clear a0 a1 a2;obtain⟨a0,a1,a2,-⟩:=cells3 B0;replace B5:=e7.block B5;replace B6:=e7.block B6;clear e7;go_wp2_with (go_at_call 35; refine Hid.out ?_);refine (r2_sign hvr (Ht.zero.sz (by omega))).mono ?_;rintro e w8 ⟨rfl,e8⟩;replace hE:=hE.trans e8;replace B0:=e8.block B0;replace hsz:=blk_lt B0;clear a0 a1 a2;obtain⟨a0,a1,a2,-⟩:=cells3 B0;replace B5:=e8.block B5;replace B6:=e8.block B6;clear e8;have hsg:(0:Rat).num.sign=0:=by decide +kernel
  rw [hsg];clear hvr hsg;obtain⟨x0,x1,x2,x3,-⟩:=cells4 B5;obtain⟨y0,y1,y2,y3,-⟩:=cells4 B6;go_wp2_with (go_at_call 48; refine Hid.out ?_);refine r2_zero.mono ?_;rintro e w8 ⟨rfl,e8⟩;replace hE:=hE.trans e8;replace B0:=e8.block B0;replace hsz:=blk_lt B0;clear a0 a1 a2;obtain⟨a0,a1,a2,-⟩:=cells3 B0;replace B5:=e8.block B5;replace B6:=e8.block B6;clear e8;clear x0 x1 x2 x3 y0 y1 y2 y3;obtain⟨y0,y1,y2,y3,-⟩:=cells4 B6;go_wp2_with (go_at_call 48; refine Hid.out ?_);refine r2_zero.mono ?_;rintro e w9 ⟨rfl,e9⟩;replace hE:=hE.trans e9;go_wp2;go_ret;exact⟨rfl,hE⟩
structure ShF (m n:Nat) (X:Nat→Nat→Rat) (y p xl:Nat→Rat) (T1 T2:Rat) (i:Nat):Prop where
 m1:1 < m
 cut:Md (m - 1) n (fun j=>X (skip i j)) (fun j=>y (skip i j)) (fun j=>p (skip i j))
 rg:Reg n (nmat (fun j=>X (skip i j)) (fun j=>p (skip i j)) (m - 1))
 md:Ms m (n+1) (plus1 n X i) y p
 r5:Reg (n+1) (nmat (plus1 n X i) p m)
 hx:xl=xS m (n+1) (plus1 n X i) y p
 e1:T1=xl n
 e2:T2=obj m p (fun k=>av (n+1) (plus1 n X i) xl k - y k)
 e3:T2=obj (m - 1) (fun j=>p (skip i j)) (vS (m - 1) n (fun j=>X (skip i j)) (fun j=>y (skip i j)) (fun j=>p (skip i j)))
 e4:T1 = -(vS m n X y p i / rS m n X p i)
 z1:Sz T1
 z2:Sz T2
theorem Ms.hK5 {m n:Nat} {X:Nat→Nat→Rat} {y p:Nat→Rat} (d:Ms m n X y p):m*(17+((n*(17+30000000+1)+1+17+1)+(n*(17+30000000+1)+1+17+1))+1)+1≤29000000000 :=
 Nat.le_trans (Nat.succ_le_succ (mul_le7 (b:=301000000) d.m7 (by have:=d.n4; omega))) (by omega)
theorem shF_mk {m n:Nat} {X:Nat→Nat→Rat} {y p:Nat→Rat} (d:Md m n X y p) (hX:HtM m n 17 X) (hy:HtL m 17 y) (hp:HtL m 17 p) (hr:Reg n (nmat X p m)) {i:Nat} (hi:i < m) (h0:rS m n X p i≠0) :
  ShF m n X y p (xS m (n+1) (plus1 n X i) y p) (-vS m n X y p i / rS m n X p i) (oS m n X y p m - tS m n X y p i) i:=by
 have hm1:1 < m:=by
  have:=d.m0
  rcases Nat.lt_or_ge 1 m with h9 | h9
  ·exact h9
  ·exfalso
   obtain rfl:m=1:=by omega
   obtain rfl:i=0:=by omega
   exact h0 (d.zero1 hr)
 obtain⟨k,rfl⟩:∃ k,m=k+1:=⟨m - 1,by omega⟩
 obtain⟨s1,s2,s3,s4,s5⟩:=shift_eq d hr hi h0
 have hms:Ms (k+1) (n+1) (plus1 n X i) y p:=⟨d.m0,d.m7,by omega,by have:=d.n4; omega,fun a ha c hc=>by
  unfold plus1
  split
  ·exact hX a ha c (by assumption)
  ·split
   ·exact Ht.one.mono (by omega)
   ·exact Ht.zero.mono (by omega),hy,hp⟩
 have hcut:Md k n (fun j=>X (skip i j)) (fun j=>y (skip i j)) (fun j=>p (skip i j)):=d.cut (by omega);refine⟨hm1,?_,?_,hms,s2,rfl,s3,s4,?_,?_,?_,?_⟩
 ·exact hcut
 ·exact s1
 ·exact s5
 ·generalize vS (k+1) n X y p i=a,rS (k+1) n X p i=b
  grind
 ·rw [s3]; exact (hms.x_ht n (by omega)).sz (by omega)
 ·rw [s5]; exact (obj_ht hcut).sz (by omega)
theorem grow_row {N base:Nat} {w:World} {g n cap:Nat} {x:Nat→Rat} (h:Grow N base w (.slice (some ⟨g,0,none⟩) n cap) n x):base≤g∧cap≤maxLen∧RowB N w g cap n x:=by
 rcases h.2.2 with ⟨h9,-⟩ | ⟨g',cap',h9,h1,h2,h3⟩
 ·cases h9
 ·injection h9 with e1 e2 e3
  injection e1 with e1
  injection e1 with e1
  subst e1 e3;exact⟨h1,h2,h3⟩
theorem shifts_good {N lo hi:Nat} {w:World} {A1 A2 A3:Option Addr} {c1 c2 c3 m n:Nat} {X:Nat→Nat→Rat} {y p:Nat→Rat} {Z:Lin} (hI:LinV N lo hi w (.agg #[.slice A1 m c1,.slice A2 m c2,.slice A3 m c3]) Z) (hm:Z.m=m) (hf:few34 7 4 Z=true) (hc:code38 Z 0 (fun _=>raw 0)=0)
  (h1:MtV N lo hi w (.slice A1 m c1) m n X) (h2:LsV N lo hi w (.slice A2 m c2) m y) (h3:LsV N lo hi w (.slice A3 m c3) m p) (d:Md m n X y p) (hX:HtM m n 17 X) (hy:HtL m 17 y) (hp:HtL m 17 p) (hr:Reg n (nmat X p m)) {i:Nat} (him:i < m) (hz:inB m (i:Int)=true) (h0:rS m n X p i≠0) :
  Calls Tryz.prog 9 #[.agg #[.slice A1 m c1,.slice A2 m c2,.slice A3 m c3],.int .i64 (i:Int)] w (RetV w (.bool true)):=by
 have HB:Hid (inB Z.m (i:Int)=true):=by rw [Hid,hm]; exact hz
 have HBm:Hid (inB m (i:Int)=true):=hz;have HF:=Lib.hid hf;have HC:=Lib.hid hc;have HD:=Lib.hid d;have HG:=Lib.hid hr;have H0:=Lib.hid h0;have hI1:=h1;have hI2:=h2;have hI3:=h3;have hN:=h1.le;have hm0:=d.m0;have hm7:=d.m7;have hn0:=d.n0;have hn4:=d.n4;have HS0:=Lib.hid (shF_mk d hX hy hp hr him h0);obtain⟨xl,hxl⟩:=hid_eq (xS m (n+1) (plus1 n X i) y p);obtain⟨T1,hT1⟩:=hid_eq (-vS m n X y p i / rS m n X p i);obtain⟨T2,hT2⟩:=hid_eq (oS m n X y p m - tS m n X y p i);have HS:Hid (ShF m n X y p xl T1 T2 i):=by rw [Hid,hxl.out,hT1.out,hT2.out]; exact HS0.out
 have HRZ:=Lib.hid ((d.r_ht i him).sz (by omega));have HK4:=Lib.hid d.hK4;have HXH:Hid (HtL (n+1) 30000000 xl):=by rw [Hid,hxl.out]; exact HS0.out.md.x_ht
 obtain⟨sg,hsg⟩:=hid_eq (rS m n X p i).num.sign
 have tg:(sg == 0)=false:=by
  rw [hsg.out,beq_eq_false_iff_ne];intro h9;exact h0 (Rat.num_eq_zero.1 (Int.sign_eq_zero_iff_zero.1 h9))
 clear hz hf hc h1 h2 h3 d hr hm hX hy hp h0 HS0;go_enter Tryz.func9,Tryz.ntmps9;go_wp2_with (go_at_call 10; refine Hid.out ?_);refine boxesC1 ?_;intro W hE hsz B0;refine (l38_known W).mono ?_;rintro e w1 ⟨rfl,e1⟩;replace hE:=hE.trans e1;replace B0:=e1.block B0;have hs1:=e1.size;replace hsz:w.heap.size < w1.heap.size:=by omega
 clear e1 hs1;obtain⟨a0,a1,a2,-⟩:=cells3 B0;go_wp2_with (go_at_call 11; refine Hid.out ?_);refine (l38_few (hI.ext hE)).mono ?_;rintro e w2 ⟨rfl,e2⟩;rw [HF.out];replace hE:=hE.trans e2;replace B0:=e2.block B0;replace hsz:=blk_lt B0;clear a0 a1 a2;obtain⟨a0,a1,a2,-⟩:=cells3 B0;clear e2;go_wp2_with (go_at_call 53; refine Hid.out ?_);refine (sn_Shift (hI1.ext hE) (hI2.ext hE) (hI3.ext hE) HD.out HG.out him HBm.out H0.out).mono ?_;rw [←hT1.out,←hT2.out];rintro e w4 ⟨v5,v6,rfl,hV5,hV6,e4⟩;replace hE:=hE.trans e4;replace B0:=e4.block B0;replace hsz:=blk_lt B0;clear a0 a1 a2;obtain⟨a0,a1,a2,-⟩:=cells3 B0;obtain⟨b5,A5,k5,c5,A5',k5',c5',rfl,-,-,-⟩:=RatV.parts hV5;obtain⟨b6,A6,k6,c6,A6',k6',c6',rfl,-,-,-⟩:=RatV.parts hV6;clear e4;have hs4:=hsz;go_upto_region 6 with (fail);refine boxes2 ?_;intro w5 e5 hsz5 B5 B6;replace hE:=hE.trans e5;replace B0:=e5.block B0;replace hsz:=blk_lt B0;clear a0 a1 a2;obtain⟨a0,a1,a2,-⟩:=cells3 B0;replace hV5:=hV5.ext e5;replace hV6:=hV6.ext e5;obtain⟨g5,hg5⟩:∃ g5,g5=w4.heap.size:=⟨_,rfl⟩
 rw [←hg5] at B5 B6 hs4 ⊢;clear e5 hsz5 hg5;go_wp2_with (go_at_call 12; refine Hid.out ?_);refine (l38_checked (R:=fun _=>raw 0) (hI.ext hE) (lsr_nil (N:=N) (by have:=hE.size; omega) _) HF.out (fun i hi=>absurd hi (by omega))).mono ?_;rintro e w3 ⟨rfl,e3⟩;rw [HC.out];replace hE:=hE.trans e3;replace B0:=e3.block B0;replace hsz:=blk_lt B0;clear a0 a1 a2;obtain⟨a0,a1,a2,-⟩:=cells3 B0;replace B5:=e3.block B5;replace B6:=e3.block B6;replace hV5:=hV5.ext e3;replace hV6:=hV6.ext e3;clear e3;go_wp2_with (go_at_call 13; refine Hid.out ?_);refine (l38_inside (hI.ext hE) _).mono ?_;rintro e w6 ⟨rfl,e6⟩;rw [HB.out];replace hE:=hE.trans e6;replace B0:=e6.block B0;replace hsz:=blk_lt B0;clear a0 a1 a2;obtain⟨a0,a1,a2,-⟩:=cells3 B0;replace B5:=e6.block B5;replace B6:=e6.block B6;replace hV5:=hV5.ext e6;replace hV6:=hV6.ext e6;clear e6;go_wp2_with (go_at_call 45; refine Hid.out ?_);refine (l38_redundancy (hI1.ext hE) (hI2.ext hE) (hI3.ext hE) HD.out HG.out him).mono ?_;rintro e w7 ⟨vr,rfl,hvr,e7⟩;replace hE:=hE.trans e7;replace B0:=e7.block B0;replace hsz:=blk_lt B0;clear a0 a1 a2;obtain⟨a0,a1,a2,-⟩:=cells3 B0;replace B5:=e7.block B5;replace B6:=e7.block B6;replace hV5:=hV5.ext e7;replace hV6:=hV6.ext e7;clear e7;go_wp2_with (go_at_call 35; refine Hid.out ?_);refine (r2_sign hvr HRZ.out).mono ?_;rw [←hsg.out];rintro e w8 ⟨rfl,e8⟩;replace hE:=hE.trans e8;replace B0:=e8.block B0;replace hsz:=blk_lt B0;clear a0 a1 a2
 obtain⟨a0,a1,a2,-⟩:=cells3 B0;replace B5:=e8.block B5;replace B6:=e8.block B6;replace hV5:=hV5.ext e8;replace hV6:=hV6.ext e8;clear e8 hvr;go_upto_region 14 with (fail);refine boxes1 ?_;intro w9 e9 hsz9 B9;have hl6:=blk_lt B6;have hEb:=hE;have hB0b:=B0;have hB5b:=B5;have hB6b:=B6;have hV5b:=hV5;have hV6b:=hV6;replace hE:=hE.trans e9;replace B0:=e9.block B0;replace hsz:=blk_lt B0;clear a0 a1 a2;obtain⟨a0,a1,a2,-⟩:=cells3 B0;replace B5:=e9.block B5;replace B6:=e9.block B6;replace hV5:=hV5.ext e9;replace hV6:=hV6.ext e9;obtain⟨g9,hg9⟩:∃ g9,g9=w8.heap.size:=⟨_,rfl⟩
 have hg89:w8.heap.size≤g9:=by omega
 rw [←hg9] at B9 hl6 ⊢;clear hg9 tg;obtain⟨lo9,hlo9⟩:∃ lo9,lo9=w9.heap.size:=⟨_,rfl⟩
 have hlo9':lo9≤w9.heap.size:=by omega
 have hg9l:g9 < lo9:=by rw [hlo9]; exact blk_lt B9
 have hN9:N≤lo9:=by have:=hE.size; omega
 clear hlo9;have hIA:=hI1;obtain⟨bA,oA,rfl,-,-,hxA⟩:=hIA.addr hm0;have HXA:=Lib.hid hxA;clear hxA hsz9;go_wp2;clear a0 a1 a2
 go_loopw [70] (fun j wr=>∃ a:Nat,a≤m∧j=.int .i64 a∧Ext w8 wr∧lo9≤wr.heap.size∧∃ v,wr.heap[g9]?=some (.cells #[v,.slice A2 m c2,.slice A3 m c3] 26 (0,0))∧GrowM N lo9 wr.heap.size wr v a (n+1) (plus1 n X i)) (fun j _=>m - (intOf j).toNat)
 case atStart=>exact⟨0,Nat.zero_le _,rfl,e9,hlo9',_,B9,GrowM.nil hN9 hlo9' (Nat.le_refl _) _⟩
 case round =>
  clear B9 hlo9' B0 B5 B6 hE e9 hV5 hV6;obtain⟨a,ha,rfl,eR,hlr,v,B9,hG⟩:=hrel;have hEr:=hEb.trans eR
  by_cases hlt:a < m
  ·obtain⟨Ar,cr9,o0,hcr1,hcr,hrow⟩:=HXA.out a hlt;replace o0:=hEr.cell o0;replace hrow:=hrow.ext hEr
   obtain⟨Av,cv,rfl⟩:∃ Av cv,v=.slice Av a cv:=by
    rcases hG.2.2.2 with ⟨rfl,h0⟩ | ⟨h9,cap9,β9,κ9,rfl,-⟩
    ·exact⟨none,0,by rw [h0]⟩
    ·exact⟨_,_,rfl⟩
   obtain⟨tb,htb⟩:∃ tb,((a:Int) == (i:Int))=tb:=⟨_,rfl⟩
   obtain⟨xi,hxi⟩:=hid_eq (if tb then (1:Int) else 0)
   go_upto_if 77 with (fail)
   go_cut [12] (fun v wc=>v=.int .i64 xi∧wc=wr)
   case first =>
    cases tb
    ·go_wp2_with fail
     go_meet
     exact⟨by rw [hxi.out]; rfl,rfl⟩
    ·go_wp2_with fail
     go_meet
     exact⟨by rw [hxi.out]; rfl,rfl⟩
   case rest =>
    obtain⟨rfl,hwc⟩:=hcut;obtain rfl:wr=wc:=hwc.symm;have HXI:Hid (-9223372036854775808≤xi∧xi≤9223372036854775807):=by rw [Hid,hxi.out]; split <;> omega
    have HXP:Hid ((xi:Rat)=if a=i then 1 else 0):=by
     rw [Hid,hxi.out,←htb]
     by_cases h9:a=i
     ·subst h9; simp
     ·have h8:((a:Int) == (i:Int))=false:=by rw [beq_eq_false_iff_ne]; omega
      rw [h8,if_neg h9]; simp
    clear htb;obtain⟨q0,q1,q2,q3,q4,q5⟩:=cells3 B9;go_upto_region 20 with (fail);clear o0;have eC:=(Ext.refl wr).drew;refine region_late (fun w'=>w'.cell? ⟨g9,0,none⟩=some (.slice Av a cv)) [9,10,11] (by kernel_rfl) (by exact eC.cell q0) (fun hHeld=>?_);refine sP 0 (h:=?_);try simp only [nr]
    refine sT 1 (h:=?_);try simp only [nr]
    refine sP 2 (h:=?_);try simp only [nr]
    refine sP 4 (h:=?_);try simp only [nr]
    refine stepL_only (i:=3) rfl (by kernel_rfl) (fun K hK=>?_);go_simp;refine (sl_clone (hrow.ext eC) hn0 (by omega)).mono ?_;rintro e wx ⟨gc,cc,rfl,hgc0,hcmc,hncc,hrc,ex⟩;have hgc:=Nat.le_trans eC.size hgc0;replace eC:=eC.trans ex
    (try replace gj1:=gj1.ext ex)
    (try replace gj2:=gj2.ext ex)
    (try replace BJ:=ex.block BJ)
    clear ex hgc0;go_wp2_with fail;clear hHeld;refine hK.out _ _ (by exact eC.cell q0) fun hHeld=>?_
    clear hK K;try simp only [nr]
    refine stepL_only (i:=5) rfl (by kernel_rfl) (fun K hK=>?_);go_simp;refine (r2_Whole (N:=N) (by have:=eC.size; omega) xi HXI.out.1 HXI.out.2).mono ?_;rintro e wx ⟨vj,rfl,hj,ex⟩;obtain⟨bj,Aj,kj,cj,Aj',kj',cj',rfl,hbj,gj1,gj2⟩:=RatV.parts hj;replace eC:=eC.trans ex
    (try replace hrc:=hrc.ext ex)
    clear hj ex;go_wp2_with fail;clear hHeld;refine hK.out _ _ (by exact eC.cell q0) fun hHeld=>?_
    clear hK K;try simp only [nr]
    refine stepL_only (i:=6) rfl (by kernel_rfl) (fun K hK=>?_);go_simp
    first | refine boxes1 ?_ | refine boxesD1 ?_
    intro wx ex hszx BJ;replace gj1:=gj1.ext ex;replace gj2:=gj2.ext ex;replace eC:Ext wr wx:=by first | exact eC.trans ex | exact ex
    (try replace hrc:=hrc.ext ex)
    clear ex hszx;clear hHeld;refine hK.out _ _ (by exact eC.cell q0) fun hHeld=>?_
    clear hK K;try simp only [nr]
    refine stepL_only (i:=7) rfl (by kernel_rfl) (fun K hK=>?_);have hGr:Grow N wr.heap.size _ (.slice (some ⟨gc,0,none⟩) n cc) n (X a):=⟨by omega,eC.size,.inr ⟨gc,cc,rfl,hgc,hcmc,hrc⟩⟩
    refine step_append_rat rfl _ _ 24 Tryz.underlying24 rfl (by rfl) hGr (by rfl) BJ hbj gj1 gj2 (by omega) ?_;rintro g7 cap7 w10 hG10 ⟨g',hg',c10,-⟩ hlt10;replace eC:=c10.ext eC hg';obtain⟨hg7,hcm7,hr7⟩:=grow_row hG10;clear hGr hrc BJ gj1 gj2 hG10 c10;clear hHeld;refine hK.out _ _ (by exact eC.cell q0) fun hHeld=>?_
    clear hK K;try simp only [nr]
    refine stepL_only (i:=8) rfl (by kernel_rfl) (fun K hK=>?_);go_simp
    first | refine boxes1 ?_ | refine boxesD1 ?_
    intro w11 e11 hsz11 BX;replace eC:Ext wr w11:=by first | exact eC.trans e11 | exact e11
    replace hr7:=hr7.ext e11;clear e11 hsz11;clear hHeld;refine hK.out _ _ (by exact eC.cell q0) fun hHeld=>?_
    clear hK K;try simp only [nr]
    all_goals
     refine stepL_late (i:=9) rfl (by kernel_rfl) (by kernel_rfl) (fun K hK=>?_);refine step_append_row rfl _ _ 23 Tryz.underlying23 rfl (by rfl) (hG.ext eC) (by rfl) hr7 hg7 hcm7 BX (by omega) ?_;rintro h12 cap12 w12 hG12 ⟨g'',hg'',c12,-⟩;have hE12:=c12.ext (eR.trans eC) (by have:=eR.size; omega);have BT12:=c12.blk (eC.block B9) (by omega);refine hK.out _ _ ?_;clear hK K;try simp only [nr]
     refine stepL_late (i:=10) rfl (by kernel_rfl) (by kernel_rfl) (fun K hK=>?_);go_simp;refine hK.out _ _ ?_;clear hK K;try simp only [nr]
     refine stepL_late (i:=11) rfl (by kernel_rfl) (by kernel_rfl) (fun K hK=>?_);obtain⟨u0,u1,u2,u3,u4,u5⟩:=cells3 BT12;go_simp;obtain⟨w13,E13,B13,U13⟩:=set3 BT12 (.slice (some ⟨h12,0,none⟩) (a+1) cap12);rw [E13];have C13:=U13.chg (NoU.mk BT12 (by decide));have hG13:=hG12.chg C13 (by omega) (.inr (by omega));have hE13:=C13.ext hE12 (by omega);have hs13:w12.heap.size≤w13.heap.size:=by have:=U13.size; omega
     refine hK.out _ _ ?_;clear hK K;try simp only [nr]
     refine stepL_done (by kernel_rfl) ?_ _;clear hHeld
    have hG14:=(hG13.wide (hi':=w13.heap.size) hs13 (Nat.le_refl _)).congr (B:=plus1 n X i) (fun k _ j hj=>by
     unfold updM
     split
     ·rename_i e
      subst e;unfold upd plus1
      by_cases h9:j=n
      ·rw [if_pos h9,if_neg (by omega),HXP.out]
      ·rw [if_neg h9,if_pos (by omega)]
     ·rfl)
    have hl13:lo9≤w13.heap.size:=by have:=eC.size; have:=c12.size; omega
    clear hG hG12 hG13 eC c12 BT12 hE12 B9 BX hr7 E13 U13 C13 u0 u1 u2 u3 u4 u5 q0 q1 q2 q3 q4 q5 hrow;go_wp2;go_roundw
    case rel=>exact⟨a+1,by omega,by go_num,hE13,hl13,_,B13,hG14⟩
    case measure=>simp [intOf]; omega
  ·obtain rfl:m=a:=by omega
   obtain⟨h9,cap9,β9,κ9,rfl,hc9,ho9⟩:=hG.own hm0;have hM5:MtV N 0 wr.heap.size wr (.slice (some ⟨h9,0,none⟩) m cap9) m (n+1) (plus1 n X i):=MtV.all (ho9.mtv ho9.mle hc9);have B0:=eR.block hB0b;have B5:=eR.block hB5b;have B6:=eR.block hB6b;have hV5:=hV5b.ext eR;have hV6:=hV6b.ext eR;have hE:=hEr;have hmx:=ho9.mle;clear hB0b hB5b hB6b hV5b hV6b hG ho9 eR hEr hEb;obtain⟨u0,u1,u2,-⟩:=cells3 B9;go_wp2_with (go_at_call 15; refine Hid.out ?_);refine (l34_solve5 hM5 (LsV.all (hI2.ext hE)) (LsV.all (hI3.ext hE)) HS.out.md HS.out.r5).mono ?_;rw [←HS.out.hx];rintro e w14 ⟨AX,cX,rfl,hX,e14⟩;replace hE:=hE.trans e14;replace B0:=e14.block B0;replace B5:=e14.block B5;replace B6:=e14.block B6;replace B9:=e14.block B9;replace hV5:=hV5.ext e14;replace hV6:=hV6.ext e14;have hM5':=MtV.all (hM5.ext e14);clear u0 u1 u2 hM5 e14;obtain⟨u0,u1,u2,-⟩:=cells3 B9;obtain⟨p0,p1,p2,p3,-⟩:=cells4 B5;obtain⟨r0,r1,r2,r3,-⟩:=cells4 B6;obtain⟨bX,oX,rfl,-,-,hxX⟩:=LsV.addr hX (by omega);obtain⟨nx,Ax,kx,cx,Ax',kx',cx',q0,q1,q2,q3,hbx,gx1,gx2⟩:=(hxX n (by omega)).open;have hRx:RatV N w14 (.agg #[.bool nx,.slice Ax kx cx,.bool false,.slice Ax' kx' cx']) (xl n):=RatV.mk hbx gx1 gx2
   have hcX:n+1≤cX∧cX≤2 ^ 63 - 1:=by
    obtain⟨_,_,q9,q1,q2⟩:=hX.form;injection q9 with q3 q4 q5
    subst q5;exact⟨q1,by unfold maxLen at q2; omega⟩
   obtain⟨hcX1,hcX2⟩:=hcX;have hw9:IntKind.i64.wrap (n:Int)=(n:Int):=IntWalk.i64_in _ (by omega);have hn9:(n:Int) < (n:Int)+1:=by omega
   clear hbx gx1 gx2 hxX;go_upto_region 23 with (fail);refine regI [Mn.eq (.bool true),Mn.eq (.bool false),Mn.eq (.bool false),Mn.eq (.int .i64 0),Mn.eq (.bool false),Mn.eq (.bool false),Mn.eq (.bool false),Mn.rat N (T1),Mn.eq (.slice (some ⟨bX,oX,none⟩) (n+1) cX),Mn.eq (.slice (some ⟨bX,oX,none⟩) (n+1) cX),Mn.eq (.int .i64 (n+1:Int)),Mn.eq (.int .i64 (n:Int)),Mn.eq (.pointer (some ⟨bX,oX+n*4,none⟩)),Mn.rat N (xl n),Mn.eq (.bool true),Mn.eq (.bool false),Mn.eq (.bool false),Mn.eq (.bool false),Mn.rat N (T2),Mn.eq (.agg #[.slice (some ⟨h9,0,none⟩) m cap9,.slice A2 m c2,.slice A3 m c3]),Mn.eq (.slice (some ⟨bX,oX,none⟩) (n+1) cX),Mn.rat N (obj m p (fun k=>av (n+1) (plus1 n X i) xl k - y k)),Mn.eq (.bool true),Mn.eq (.bool false),Mn.eq (.bool false)] [some 95,some 96,some 97,some 98,some 99,some 100,some 101,some 102,some 103,some 104,some 105,some 106,some 107,some 108,some 109,some 110,some 111,some 112,some 113,some 114,some 115,some 116,some 117,some 118,some 119] [] [true,true,true,true,true,true,true,true,true,true,true,true,true,true,true,true,true,true,true,true,true,true,true,true,true] 0 (by kernel_rfl) ?_ ?_
   ·show ∀ i,i < 25→_
    iterate 25 refine fs ?_ ?_
    ·exact fz
    all_goals intro hl
    all_goals clear hl
    all_goals refine stp rfl ?_
    all_goals intro ac wi eI hB hA K hK
    have o14:=oOf (hB 14 (by kernel_rfl)) rfl
    rotate_left
    obtain⟨_,s95,rfl⟩:=hA 0 (by kernel_rfl) 95 rfl
    rotate_left
    obtain⟨_,s96,rfl⟩:=hA 1 (by kernel_rfl) 96 rfl
    rotate_left
    obtain⟨_,s97,rfl⟩:=hA 2 (by kernel_rfl) 97 rfl;have o7:=oOf (hB 7 (by kernel_rfl)) rfl;rw [if_pos (by simp [Region.wanted,yielded,s97])]
    rotate_left
    obtain⟨_,s97,rfl⟩:=hA 2 (by kernel_rfl) 97 rfl;obtain⟨_,s98,rfl⟩:=hA 3 (by kernel_rfl) 98 rfl;rw [if_pos (by simp [Region.wanted,yielded,s97])]
    rotate_left
    obtain⟨_,s97,rfl⟩:=hA 2 (by kernel_rfl) 97 rfl;obtain⟨_,s99,rfl⟩:=hA 4 (by kernel_rfl) 99 rfl
    rotate_left
    obtain⟨_,s100,rfl⟩:=hA 5 (by kernel_rfl) 100 rfl
    rotate_left
    obtain⟨_,s101,rfl⟩:=hA 6 (by kernel_rfl) 101 rfl;have o5:=oOf (hB 5 (by kernel_rfl)) rfl;clear hB hA;rw [if_pos (by simp [Region.wanted,yielded,s101])];have cc0:=eI.cell p0;have cc1:=eI.cell p1;have cc2:=eI.cell p2;have cc3:=eI.cell p3
    ·go_simp;exact hK.out _ _ (Ext.refl _) (hV5.ext eI)
    obtain⟨_,s101,rfl⟩:=hA 6 (by kernel_rfl) 101 rfl;have o13:=oOf (hB 13 (by kernel_rfl)) rfl;rw [if_pos (by simp [Region.wanted,yielded,s101])]
    rotate_left
    obtain⟨_,s101,rfl⟩:=hA 6 (by kernel_rfl) 101 rfl;have o13:=oOf (hB 13 (by kernel_rfl)) rfl;rw [if_pos (by simp [Region.wanted,yielded,s101])]
    rotate_left
    obtain⟨_,s101,rfl⟩:=hA 6 (by kernel_rfl) 101 rfl;obtain⟨_,s104,rfl⟩:=hA 9 (by kernel_rfl) 104 rfl;rw [if_pos (by simp [Region.wanted,yielded,s101])]
    rotate_left
    obtain⟨_,s101,rfl⟩:=hA 6 (by kernel_rfl) 101 rfl;obtain⟨_,s105,rfl⟩:=hA 10 (by kernel_rfl) 105 rfl;rw [if_pos (by simp [Region.wanted,yielded,s101])]
    rotate_left
    obtain⟨_,s101,rfl⟩:=hA 6 (by kernel_rfl) 101 rfl;obtain⟨_,s103,rfl⟩:=hA 8 (by kernel_rfl) 103 rfl;obtain⟨_,s106,rfl⟩:=hA 11 (by kernel_rfl) 106 rfl;rw [if_pos (by simp [Region.wanted,yielded,s101])]
    rotate_left
    obtain⟨_,s101,rfl⟩:=hA 6 (by kernel_rfl) 101 rfl;obtain⟨_,s107,rfl⟩:=hA 12 (by kernel_rfl) 107 rfl;clear hB hA;rw [if_pos (by simp [Region.wanted,yielded,s101])];have cc0:=eI.cell q0;have cc1:=eI.cell q1;have cc2:=eI.cell q2;have cc3:=eI.cell q3
    ·go_simp;exact hK.out _ _ (Ext.refl _) (hRx.ext eI)
    obtain⟨_,s101,rfl⟩:=hA 6 (by kernel_rfl) 101 rfl;obtain⟨x102,s102,j102⟩:=hA 7 (by kernel_rfl) 102 rfl;replace j102:Mn.p (Mn.rat N (T1)) x102 wi:=j102;obtain⟨x108,s108,j108⟩:=hA 13 (by kernel_rfl) 108 rfl;replace j108:Mn.p (Mn.rat N (xl n)) x108 wi:=j108;clear hB hA;rw [if_pos (by simp [Region.wanted,yielded,s101])]
    ·go_simp;refine (r2_same j102 j108 HS.out.z1 HS.out.e1).mono ?_;rintro e wj ⟨rfl,ej⟩;go_wp2_with fail;exact hK.out _ _ ej rfl
    obtain⟨_,s101,rfl⟩:=hA 6 (by kernel_rfl) 101 rfl;obtain⟨_,s109,rfl⟩:=hA 14 (by kernel_rfl) 109 rfl;rw [if_pos (by simp [Region.wanted,yielded,s101])]
    rotate_left
    obtain⟨_,s101,rfl⟩:=hA 6 (by kernel_rfl) 101 rfl;obtain⟨_,s110,rfl⟩:=hA 15 (by kernel_rfl) 110 rfl
    rotate_left
    obtain⟨_,s111,rfl⟩:=hA 16 (by kernel_rfl) 111 rfl
    rotate_left
    obtain⟨_,s112,rfl⟩:=hA 17 (by kernel_rfl) 112 rfl;have o6:=oOf (hB 6 (by kernel_rfl)) rfl;clear hB hA;rw [if_pos (by simp [Region.wanted,yielded,s112])];have cc0:=eI.cell r0;have cc1:=eI.cell r1;have cc2:=eI.cell r2;have cc3:=eI.cell r3
    ·go_simp;exact hK.out _ _ (Ext.refl _) (hV6.ext eI)
    obtain⟨_,s112,rfl⟩:=hA 17 (by kernel_rfl) 112 rfl;have o9:=oOf (hB 9 (by kernel_rfl)) rfl;rw [if_pos (by simp [Region.wanted,yielded,s112])];have cc0:=eI.cell u0;have cc1:=eI.cell u1;have cc2:=eI.cell u2
    rotate_left
    obtain⟨_,s112,rfl⟩:=hA 17 (by kernel_rfl) 112 rfl;have o13:=oOf (hB 13 (by kernel_rfl)) rfl;rw [if_pos (by simp [Region.wanted,yielded,s112])]
    rotate_left
    obtain⟨_,s112,rfl⟩:=hA 17 (by kernel_rfl) 112 rfl;obtain⟨_,s114,rfl⟩:=hA 19 (by kernel_rfl) 114 rfl;obtain⟨_,s115,rfl⟩:=hA 20 (by kernel_rfl) 115 rfl;clear hB hA;rw [if_pos (by simp [Region.wanted,yielded,s112])]
    ·go_simp;refine (l34_objective (MtV.all (hM5'.ext eI)) (LsV.all (hI2.ext (hE.trans eI))) (LsV.all (hI3.ext (hE.trans eI))) (hX.ext eI) hm0 (by omega) (by omega) (by omega) HS.out.md.hX HS.out.md.hy HS.out.md.hp HXH.out rfl HS.out.md.hK5).mono ?_;rintro e wj ⟨vj,rfl,hj,ej⟩;go_wp2_with fail;exact hK.out _ _ ej hj
    obtain⟨_,s112,rfl⟩:=hA 17 (by kernel_rfl) 112 rfl;obtain⟨x113,s113,j113⟩:=hA 18 (by kernel_rfl) 113 rfl;replace j113:Mn.p (Mn.rat N (T2)) x113 wi:=j113;obtain⟨x116,s116,j116⟩:=hA 21 (by kernel_rfl) 116 rfl;replace j116:Mn.p (Mn.rat N (obj m p (fun k=>av (n+1) (plus1 n X i) xl k - y k))) x116 wi:=j116;clear hB hA;rw [if_pos (by simp [Region.wanted,yielded,s112])]
    ·go_simp;refine (r2_same j113 j116 HS.out.z2 HS.out.e2).mono ?_;rintro e wj ⟨rfl,ej⟩;go_wp2_with fail;exact hK.out _ _ ej rfl
    obtain⟨_,s112,rfl⟩:=hA 17 (by kernel_rfl) 112 rfl;obtain⟨_,s117,rfl⟩:=hA 22 (by kernel_rfl) 117 rfl;rw [if_pos (by simp [Region.wanted,yielded,s112])]
    rotate_left
    obtain⟨_,s112,rfl⟩:=hA 17 (by kernel_rfl) 112 rfl;obtain⟨_,s118,rfl⟩:=hA 23 (by kernel_rfl) 118 rfl
    rotate_left
    all_goals clear hB hA
    all_goals go_simp
    all_goals exact hK.out _ _ (Ext.refl _) rfl
   intro vals wz eZ hJ;have J119:vals 24=_:=hJ 24 (by decide) (by decide);clear hJ;simp only [pr,Nat.reduceAdd,J119];clear J119;refine stepL_done (by kernel_rfl) ?_ _;replace hE:=hE.trans eZ;replace B0:=eZ.block B0;replace B5:=eZ.block B5;replace B6:=eZ.block B6;replace hV5:=hV5.ext eZ;replace hV6:=hV6.ext eZ;clear u0 u1 u2 p0 p1 p2 p3 r0 r1 r2 r3 q0 q1 q2 q3 hw9 hn9 B9 hX hM5' hRx eZ;obtain⟨a0,a1,a2,-⟩:=cells3 B0;go_wp2_with (go_at_call 15; refine Hid.out ?_);refine (l34_solve (hI1.ext hE) (hI2.ext hE) (hI3.ext hE) HD.out HG.out).mono ?_;rintro e w15 ⟨AY,cY,rfl,hY,e15⟩;replace hE:=hE.trans e15;replace B0:=e15.block B0;replace hsz:=blk_lt B0;clear a0 a1 a2;obtain⟨a0,a1,a2,-⟩:=cells3 B0;replace B5:=e15.block B5;replace B6:=e15.block B6;replace hV5:=hV5.ext e15;replace hV6:=hV6.ext e15;clear e15;go_wp2_with (go_at_call 55; refine Hid.out ?_);refine (l34_residuals (hI1.ext hE) (hI2.ext hE) (hI3.ext hE) hY (by omega) hn0 (by omega) HD.out.hX HD.out.hy HD.out.x_ht HK4.out).mono ?_;rintro e w16 ⟨AE,cE,rfl,hEx,e16⟩;replace hEx:LsV N 0 w16.heap.size w16 (.slice AE m cE) m (vS m n X y p):=LsV.all hEx;replace hE:=hE.trans e16;replace B0:=e16.block B0;replace hsz:=blk_lt B0;clear a0 a1 a2;obtain⟨a0,a1,a2,-⟩:=cells3 B0;replace B5:=e16.block B5;replace B6:=e16.block B6;replace hV5:=hV5.ext e16;replace hV6:=hV6.ext e16;clear e16 hY;obtain⟨bE,oE,rfl,-,-,hxE⟩:=LsV.addr hEx hm0;obtain⟨nx,Ax,kx,cx,Ax',kx',cx',q0,q1,q2,q3,hbx,gx1,gx2⟩:=(hxE i him).open
   clear hxE;go_upto_region 27 with (fail);refine boxes1 ?_;intro w17 e17 hsz17 B17;replace hE:=hE.trans e17;replace B0:=e17.block B0;replace hsz:=blk_lt B0;clear a0 a1 a2;obtain⟨a0,a1,a2,-⟩:=cells3 B0;replace B5:=e17.block B5;replace B6:=e17.block B6;replace hV5:=hV5.ext e17;replace hV6:=hV6.ext e17;have hRx:RatV N w17 (.agg #[.bool nx,.slice Ax kx cx,.bool false,.slice Ax' kx' cx']) (vS m n X y p i):=RatV.mk hbx (gx1.ext e17) (gx2.ext e17);obtain⟨g17,hg17⟩:∃ g17,g17=w16.heap.size:=⟨_,rfl⟩
   rw [←hg17] at B17 ⊢;clear e17 hsz17 hg17 q0 q1 q2 q3 hbx gx1 gx2 hEx;obtain⟨p0,p1,p2,p3,-⟩:=cells4 B5;obtain⟨r0,r1,r2,r3,-⟩:=cells4 B6;obtain⟨q0,q1,q2,q3,-⟩:=cells4 B17;have HZV:=Lib.hid ((HD.out.v_ht i him).sz (by omega));have HZD:=Lib.hid (((HD.out.v_ht i him).div (HD.out.r_ht i him)).sz (by omega));refine regI [Mn.rat N (T1),Mn.rat N (vS m n X y p i),Mn.eq (.agg #[.slice (some ⟨bA,oA,none⟩) m c1,.slice A2 m c2,.slice A3 m c3]),Mn.eq (.int .i64 (i:Int)),Mn.rat N (rS m n X p i),Mn.rat N (vS m n X y p i / rS m n X p i),Mn.rat N (-(vS m n X y p i / rS m n X p i)),Mn.eq (.bool true),Mn.eq (.bool true),Mn.rat N (T2),Mn.eq (.agg #[.slice (some ⟨bA,oA,none⟩) m c1,.slice A2 m c2,.slice A3 m c3]),Mn.eq (.int .i64 (i:Int)),Mn.lin N (m - 1) n (fun j=>X (skip i j)) (fun j=>y (skip i j)) (fun j=>p (skip i j)),Mn.rat N (obj (m - 1) (fun j=>p (skip i j)) (vS (m - 1) n (fun j=>X (skip i j)) (fun j=>y (skip i j)) (fun j=>p (skip i j)))),Mn.eq (.bool true),Mn.eq (.bool true),Mn.eq (.bool true)] [some 131,some 132,some 133,some 134,some 135,some 136,some 137,some 138,some 139,some 140,some 141,some 142,some 143,some 144,some 145,some 146,some 4] [] [true,true,true,true,true,true,true,true,true,true,true,true,true,true,true,true,true] 0 (by kernel_rfl) ?_ ?_
   ·show ∀ i,i < 17→_
    iterate 17 refine fs ?_ ?_
    ·exact fz
    all_goals intro hl
    all_goals clear hl
    all_goals refine stp rfl ?_
    all_goals intro ac wi eI hB hA K hK
    have o5:=oOf (hB 5 (by kernel_rfl)) rfl;clear hB hA;have cc0:=eI.cell p0;have cc1:=eI.cell p1;have cc2:=eI.cell p2;have cc3:=eI.cell p3
    ·go_simp;exact hK.out _ _ (Ext.refl _) (hV5.ext eI)
    have o17:=oOf (hB 17 (by kernel_rfl)) rfl;clear hB hA;have cc0:=eI.cell q0;have cc1:=eI.cell q1;have cc2:=eI.cell q2;have cc3:=eI.cell q3
    ·go_simp;exact hK.out _ _ (Ext.refl _) (hRx.ext eI)
    have o2:=oOf (hB 2 (by kernel_rfl)) rfl;have cc0:=eI.cell a0;have cc1:=eI.cell a1;have cc2:=eI.cell a2
    rotate_left
    have o1:=oOf (hB 1 (by kernel_rfl)) rfl
    rotate_left
    obtain⟨_,s133,rfl⟩:=hA 2 (by kernel_rfl) 133 rfl;obtain⟨_,s134,rfl⟩:=hA 3 (by kernel_rfl) 134 rfl;clear hB hA
    ·go_simp;refine (l38_redundancy (hI1.ext (hE.trans eI)) (hI2.ext (hE.trans eI)) (hI3.ext (hE.trans eI)) HD.out HG.out him).mono ?_;rintro e wj ⟨vj,rfl,hj,ej⟩;go_wp2_with fail;exact hK.out _ _ ej hj
    obtain⟨x132,s132,j132⟩:=hA 1 (by kernel_rfl) 132 rfl;replace j132:Mn.p (Mn.rat N (vS m n X y p i)) x132 wi:=j132;obtain⟨x135,s135,j135⟩:=hA 4 (by kernel_rfl) 135 rfl;replace j135:Mn.p (Mn.rat N (rS m n X p i)) x135 wi:=j135;clear hB hA
    ·go_simp;refine (l38_div j132 j135 HZV.out HRZ.out H0.out).mono ?_;rintro e wj ⟨vj,rfl,hj,ej⟩;go_wp2_with fail;exact hK.out _ _ ej hj
    obtain⟨x136,s136,j136⟩:=hA 5 (by kernel_rfl) 136 rfl;replace j136:Mn.p (Mn.rat N (vS m n X y p i / rS m n X p i)) x136 wi:=j136;clear hB hA
    ·go_simp;refine (r2_neg j136 HZD.out).mono ?_;rintro e wj ⟨vj,rfl,hj,ej⟩;go_wp2_with fail;exact hK.out _ _ ej hj
    obtain⟨x131,s131,j131⟩:=hA 0 (by kernel_rfl) 131 rfl;replace j131:Mn.p (Mn.rat N (T1)) x131 wi:=j131;obtain⟨x137,s137,j137⟩:=hA 6 (by kernel_rfl) 137 rfl;replace j137:Mn.p (Mn.rat N (-(vS m n X y p i / rS m n X p i))) x137 wi:=j137;clear hB hA
    ·go_simp;refine (r2_same j131 j137 HS.out.z1 HS.out.e4).mono ?_;rintro e wj ⟨rfl,ej⟩;go_wp2_with fail;exact hK.out _ _ ej rfl
    obtain⟨_,s138,rfl⟩:=hA 7 (by kernel_rfl) 138 rfl
    rotate_left
    obtain⟨_,s139,rfl⟩:=hA 8 (by kernel_rfl) 139 rfl;have o6:=oOf (hB 6 (by kernel_rfl)) rfl;clear hB hA;rw [if_pos (by simp [Region.wanted,yielded,s139])];have cc0:=eI.cell r0;have cc1:=eI.cell r1;have cc2:=eI.cell r2;have cc3:=eI.cell r3
    ·go_simp;exact hK.out _ _ (Ext.refl _) (hV6.ext eI)
    obtain⟨_,s139,rfl⟩:=hA 8 (by kernel_rfl) 139 rfl;have o2:=oOf (hB 2 (by kernel_rfl)) rfl;rw [if_pos (by simp [Region.wanted,yielded,s139])];have cc0:=eI.cell a0;have cc1:=eI.cell a1;have cc2:=eI.cell a2
    rotate_left
    obtain⟨_,s139,rfl⟩:=hA 8 (by kernel_rfl) 139 rfl;have o1:=oOf (hB 1 (by kernel_rfl)) rfl;rw [if_pos (by simp [Region.wanted,yielded,s139])]
    rotate_left
    obtain⟨_,s139,rfl⟩:=hA 8 (by kernel_rfl) 139 rfl;obtain⟨_,s141,rfl⟩:=hA 10 (by kernel_rfl) 141 rfl;obtain⟨_,s142,rfl⟩:=hA 11 (by kernel_rfl) 142 rfl;clear hB hA;rw [if_pos (by simp [Region.wanted,yielded,s139])]
    ·go_simp;refine (l34_without (hI1.ext (hE.trans eI)) (hI2.ext (hE.trans eI)) (hI3.ext (hE.trans eI)) HS.out.m1 (by omega) hn0 (by omega) rfl him).mono ?_;rintro e wj ⟨E1,k1,E2,k2,E3,k3,rfl,g1,g2,g3,ej⟩;go_wp2_with fail;exact hK.out _ _ ej ⟨_,_,_,rfl,g1,g2,g3⟩
    obtain⟨_,s139,rfl⟩:=hA 8 (by kernel_rfl) 139 rfl;obtain⟨x143,s143,j143⟩:=hA 12 (by kernel_rfl) 143 rfl;replace j143:Mn.p (Mn.lin N (m - 1) n (fun j=>X (skip i j)) (fun j=>y (skip i j)) (fun j=>p (skip i j))) x143 wi:=j143;clear hB hA;rw [if_pos (by simp [Region.wanted,yielded,s139])]
    ·obtain⟨v1',v2',v3',rfl,k1',k2',k3'⟩:=j143;go_simp;refine (l38_least k1' k2' k3' HS.out.cut HS.out.rg).mono ?_;rintro e wj ⟨vj,rfl,hj,ej⟩;go_wp2_with fail;exact hK.out _ _ ej hj
    obtain⟨_,s139,rfl⟩:=hA 8 (by kernel_rfl) 139 rfl;obtain⟨x140,s140,j140⟩:=hA 9 (by kernel_rfl) 140 rfl;replace j140:Mn.p (Mn.rat N (T2)) x140 wi:=j140;obtain⟨x144,s144,j144⟩:=hA 13 (by kernel_rfl) 144 rfl;replace j144:Mn.p (Mn.rat N (obj (m - 1) (fun j=>p (skip i j)) (vS (m - 1) n (fun j=>X (skip i j)) (fun j=>y (skip i j)) (fun j=>p (skip i j))))) x144 wi:=j144;clear hB hA;rw [if_pos (by simp [Region.wanted,yielded,s139])]
    ·go_simp;refine (r2_same j140 j144 HS.out.z2 HS.out.e3).mono ?_;rintro e wj ⟨rfl,ej⟩;go_wp2_with fail;exact hK.out _ _ ej rfl
    obtain⟨_,s139,rfl⟩:=hA 8 (by kernel_rfl) 139 rfl;obtain⟨_,s145,rfl⟩:=hA 14 (by kernel_rfl) 145 rfl
    rotate_left
    obtain⟨_,s146,rfl⟩:=hA 15 (by kernel_rfl) 146 rfl
    rotate_left
    all_goals clear hB hA
    all_goals go_simp
    all_goals exact hK.out _ _ (Ext.refl _) rfl
   intro vals wz eZ hJ;have J4:vals 16=_:=hJ 16 (by decide) (by decide);clear hJ;simp only [pr,Nat.reduceAdd,J4];clear J4;refine stepL_done (by kernel_rfl) ?_ _;go_wp2;go_ret;exact⟨rfl,hE.trans eZ⟩
end Go.Proofs.YthkkknjcoidioaaGreat
namespace Go.Proofs.YthkkknjcoidioaaGreat
open Go.RowKit Go.ChangeShapes Go.ChangeAt
theorem cells_lin:Tryz.prog.cellsOf 26=3:=by kernel_rfl
section
variable {H:Type} {enc:TypeId×Value→H} {w:World} {spare:Nat→Bool} {held:Bool}
instance:Inhabited Raw:=⟨⟨false,[],false,[]⟩⟩
end
end Go.Proofs.YthkkknjcoidioaaGreat
