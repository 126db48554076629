import Derived.Deep.CutBlock
import Derived.Test.YtphpkhoeplcedaaGreatWb24
import Derived.Test.YtphpkhoeplcedaaGreatWb25
import Derived.Shelf.Bits.Mul64
import Derived.Test.YtphpkhoeplcedaaGreatWb23
import Derived.Laws.IdiomCopy
set_option linter.all false
set_option maxHeartbeats 8000000
namespace Go.Proofs.YtphpkhoeplcedaaGreat
open Go.RowKit
theorem Sz.raw {q:Rat} (h:Sz q):RawSz (raw q):=by
 exact⟨Nat.le_trans h.1 (by omega),Nat.le_trans h.2 (by omega)⟩
theorem upd_cells (g:Nat):∀ (vs:List Value) (o:Nat) (w w':World),Upd g w w'→Upd g w (w'.setCells g o vs)
 | [],_,_,_,h=>h
 | v :: r,o,w,w',h=>upd_cells g r (o+1) w _ (h.set o v)
theorem blk_cells (g:Nat) (t:TypeId) (fr:Nat×Nat):∀ (vs:List Value) (o:Nat) (cs:Array Value) (w:World),w.heap[g]?=some (.cells cs t fr)→∃ cs',(w.setCells g o vs).heap[g]?=some (.cells cs' t fr)∧cs'.size=cs.size
 | [],_,cs,_,h=>⟨cs,h,rfl⟩
 | v :: r,o,cs,w,h=>by
  obtain⟨cs',h1,h2⟩:=blk_cells g t fr r (o+1) _ (w.setCell ⟨g,o,none⟩ v) (heap_set h o v);exact⟨cs',h1,by rw [h2]; simp⟩
theorem add_none (b o j:Nat):(⟨b,o,none⟩:Addr).add j=⟨b,o+j,none⟩:=by unfold Addr.add; split <;> simp_all
theorem At4.one {N:Nat} {w:World} {b o:Nat} {R:Raw} (h:At4 N w b o R) {r:Nat} (hr:r < 4):∃ v,w.cell? ⟨b,o+r,none⟩=some v∧v.oneCell'=true:=by
 obtain⟨A,n,c,A',n',c',h0,h1,h2,h3,-⟩:=h.val;have hr':r=0∨r=1∨r=2∨r=3:=by omega
 rcases hr' with rfl | rfl | rfl | rfl
 ·exact⟨_,h0,rfl⟩
 ·exact⟨_,h1,rfl⟩
 ·exact⟨_,h2,rfl⟩
 ·exact⟨_,h3,rfl⟩
end Go.Proofs.YtphpkhoeplcedaaGreat
namespace Go.Proofs.YtphpkhoeplcedaaGreat
def av (n:Nat) (A:Nat→Nat→Rat) (x:Nat→Rat) (i:Nat):Rat:=sum n (fun c=>A i c*x c)
def obj (m:Nat) (P v:Nat→Rat):Rat:=sum m (fun i=>P i*(v i*v i))
def nm (m:Nat) (A:Nat→Nat→Rat) (P:Nat→Rat) (a b:Nat):Rat:=sum m (fun k=>A k a*(P k*A k b))
def nb (m:Nat) (A:Nat→Nat→Rat) (P L:Nat→Rat) (a:Nat):Rat:=sum m (fun k=>A k a*(P k*L k))
theorem nm_symm (m:Nat) (A:Nat→Nat→Rat) (P:Nat→Rat) (a b:Nat):nm m A P a b=nm m A P b a:=sum_congr fun k _=>by grind
theorem nm_av (m n:Nat) (A:Nat→Nat→Rat) (P y:Nat→Rat) (a:Nat):sum n (fun b=>nm m A P a b*y b)=sum m (fun k=>A k a*(P k*av n A y k)):=by
 unfold nm av
 have e:∀ b,sum m (fun k=>A k a*(P k*A k b))*y b=sum m (fun k=>A k a*(P k*(A k b*y b))):=by
  intro b; rw [←sum_mul_right]; exact sum_congr fun k _=>by grind
 rw [sum_congr (fun b _=>e b),sum_comm];refine sum_congr fun k _=>?_
 rw [sum_mul n (A k a),sum_mul n (P k)]
theorem dual_av (m n:Nat) (A:Nat→Nat→Rat) (y g:Nat→Rat):sum n (fun a=>y a*sum m (fun k=>A k a*g k))=sum m (fun k=>av n A y k*g k):=by
 unfold av
 have e:∀ a,y a*sum m (fun k=>A k a*g k)=sum m (fun k=>(A k a*y a)*g k):=by
  intro a; rw [←sum_mul]; exact sum_congr fun k _=>by grind
 rw [sum_congr (fun a _=>e a),sum_comm];exact sum_congr fun k _=>sum_mul_right _ _ _
theorem sq_nonneg (a:Rat):0≤a*a:=by
 rcases Rat.le_total (a:=0) (b:=a) with h | h
 ·exact Rat.mul_nonneg h h
 ·have h1:0≤-a:=by grind
  have h2:=Rat.mul_nonneg h1 h1;have e : -a * -a=a*a:=by grind
  rwa [e] at h2
theorem sq_zero {a:Rat} (h:a*a=0):a=0:=by grind
theorem obj_zero {m:Nat} {P v:Nat→Rat} (hP:∀ i,i < m→0 < P i) (h:obj m P v=0):∀ i,i < m→v i=0:=by
 intro i hi;have h1:=sum_pos_zero (fun k hk=>Rat.mul_nonneg (by have:=hP k hk; grind) (sq_nonneg (v k))) h i hi;have h2:=hP i hi;refine sq_zero ?_
 grind
theorem normal_zero {m n:Nat} {A:Nat→Nat→Rat} {P y:Nat→Rat} (hP:∀ i,i < m→0 < P i) (h:∀ a,a < n→sum n (fun b=>nm m A P a b*y b)=0):∀ i,i < m→av n A y i=0:=by
 refine obj_zero hP ?_;have h1:=dual_av m n A y (fun k=>P k*av n A y k);rw [sum_eq_zero (fun a ha=>by rw [←nm_av,h a ha]; grind)] at h1;unfold obj;rw [h1];exact sum_congr fun k _=>by grind
def Nsol (m n:Nat) (A:Nat→Nat→Rat) (P L x:Nat→Rat):Prop:=∀ a,a < n→sum n (fun b=>nm m A P a b*x b)=nb m A P L a
def Orth (m n:Nat) (A:Nat→Nat→Rat) (P v:Nat→Rat):Prop:=∀ a,a < n→sum m (fun k=>A k a*(P k*v k))=0
theorem nsol_orth {m n:Nat} {A:Nat→Nat→Rat} {P L x:Nat→Rat}:Nsol m n A P L x↔Orth m n A P (fun k=>av n A x k - L k):=by
 have e:∀ a,sum m (fun k=>A k a*(P k*(av n A x k - L k)))=sum n (fun b=>nm m A P a b*x b) - nb m A P L a:=by
  intro a;rw [nm_av]; unfold nb; rw [←sum_sub];exact sum_congr fun k _=>by grind
 constructor
 ·intro h a ha; rw [e,h a ha]; grind
 ·intro h a ha; have:=h a ha; rw [e] at this; grind
theorem av_sub (n:Nat) (A:Nat→Nat→Rat) (x y:Nat→Rat) (i:Nat):av n A (fun c=>x c - y c) i=av n A x i - av n A y i:=by
 unfold av; rw [←sum_sub]; exact sum_congr fun c _=>by grind
theorem fit_unique {m n:Nat} {A:Nat→Nat→Rat} {P L x y:Nat→Rat} (hP:∀ i,i < m→0 < P i) (h:Nsol m n A P L x) (h':Nsol m n A P L y):∀ i,i < m→av n A x i=av n A y i:=by
 intro i hi
 have h1:=normal_zero (A:=A) (y:=fun c=>x c - y c) hP (fun a ha=>by
  have e:∀ b,nm m A P a b*(x b - y b)=nm m A P a b*x b - nm m A P a b*y b:=fun b=>by grind
  rw [sum_congr (fun b _=>e b),sum_sub,h a ha,h' a ha]; grind) i hi
 rw [av_sub] at h1
 grind
def bas (A:Nat→Nat→Rat) (p:List Nat) (i s:Nat):Rat:=A i (p[s]?.getD 0)
theorem bas_reg {m n:Nat} {A M:Nat→Nat→Rat} {P:Nat→Rat} {p:List Nat} (h:Rref m n A M p) (hP:∀ i,i < m→0 < P i):Reg p.length (nm m (bas A p) P):=by
 intro x hx;exact cols_free h (normal_zero (A:=bas A p) hP hx)
def fits (r:Nat) (B X:Nat→Nat→Rat) (i j:Nat):Rat:=sum r (fun s=>B i s*sum r (fun t=>X s t*B j t))
def coef (m r:Nat) (B X:Nat→Nat→Rat) (P L:Nat→Rat) (s:Nat):Rat:=sum r (fun t=>X s t*nb m B P L t)
theorem fits_av (m r:Nat) (B X:Nat→Nat→Rat) (P L:Nat→Rat) (i:Nat):sum m (fun j=>fits r B X i j*P j*L j)=av r B (coef m r B X P L) i:=by
 unfold fits av coef nb
 have e:∀ j,sum r (fun s=>B i s*sum r (fun t=>X s t*B j t))*P j*L j=sum r (fun s=>B i s*sum r (fun t=>X s t*(B j t*(P j*L j)))):=by
  intro j
  have e1:∀ s,B i s*sum r (fun t=>X s t*(B j t*(P j*L j)))=B i s*sum r (fun t=>X s t*B j t)*(P j*L j):=by
   intro s
   have:sum r (fun t=>X s t*(B j t*(P j*L j)))=sum r (fun t=>X s t*B j t)*(P j*L j):=by
    rw [←sum_mul_right]; exact sum_congr fun t _=>by grind
   rw [this]; grind
  rw [sum_congr (fun s _=>e1 s),sum_mul_right]; grind
 rw [sum_congr (fun j _=>e j),sum_comm];refine sum_congr fun s _=>?_
 rw [sum_mul,sum_comm]
 congr 1
 exact sum_congr fun t _=>sum_mul _ _ _
theorem coef_nsol {m r:Nat} {B X:Nat→Nat→Rat} {P L:Nat→Rat} (hX:∀ i,i < r→∀ c,c < r→mm r (nm m B P) X i c=dlt i c):Nsol m r B P L (coef m r B X P L):=by
 intro a ha;unfold coef
 have e:∀ b,nm m B P a b*sum r (fun t=>X b t*nb m B P L t)=sum r (fun t=>(nm m B P a b*X b t)*nb m B P L t):=by
  intro b; rw [←sum_mul]; exact sum_congr fun t _=>by grind
 rw [sum_congr (fun b _=>e b),sum_comm];rw [sum_congr (g:=fun t=>dlt a t*nb m B P L t) (fun t ht=>by rw [sum_mul_right,←hX a ha t ht]; rfl)];exact sum_dlt ha _
def spread (p:List Nat) (z:Nat→Rat) (c:Nat):Rat:=sum p.length (fun s=>dlt (p[s]?.getD 0) c*z s)
theorem av_spread {m n:Nat} {A M:Nat→Nat→Rat} {p:List Nat} (h:Rref m n A M p) (z:Nat→Rat) (i:Nat):av n A (spread p z) i=av p.length (bas A p) z i:=by
 unfold av spread
 have e:∀ c,A i c*sum p.length (fun s=>dlt (p[s]?.getD 0) c*z s)=sum p.length (fun s=>dlt (p[s]?.getD 0) c*(A i c*z s)):=by
  intro c; rw [←sum_mul]; exact sum_congr fun s _=>by grind
 rw [sum_congr (fun c _=>e c),sum_comm];exact sum_congr fun s hs=>sum_dlt (h.low s hs) (fun c=>A i c*z s)
theorem orth_bas {m n:Nat} {A M:Nat→Nat→Rat} {P v:Nat→Rat} {p:List Nat} (h:Rref m n A M p) (ho:Orth m p.length (bas A p) P v):Orth m n A P v:=by
 intro a ha
 have e:∀ k,k < m→A k a*(P k*v k)=sum p.length (fun s=>M s a*(bas A p k s*(P k*v k))):=by
  intro k hk;rw [cols_span h hk ha,←sum_mul_right];exact sum_congr fun s _=>by unfold bas; grind
 rw [sum_congr e,sum_comm];refine sum_eq_zero fun s hs=>?_
 rw [sum_mul,ho s hs]; grind
theorem fits_fit {m n:Nat} {A M X:Nat→Nat→Rat} {P L x:Nat→Rat} {p:List Nat} (h:Rref m n A M p) (hP:∀ i,i < m→0 < P i)
  (hX:∀ i,i < p.length→∀ c,c < p.length→mm p.length (nm m (bas A p) P) X i c=dlt i c) (hx:Nsol m n A P L x) :
  ∀ i,i < m→sum m (fun j=>fits p.length (bas A p) X i j*P j*L j)=av n A x i:=by
 intro i hi;rw [fits_av,←av_spread h];refine fit_unique hP ?_ hx i hi;rw [nsol_orth];refine orth_bas h ?_;have h1:=nsol_orth.1 (coef_nsol (L:=L) hX);intro a ha;rw [←h1 a ha];exact sum_congr fun k _=>by simp only [av_spread h]
theorem steinitz {m k r:Nat} {V U C:Nat→Nat→Rat} (h:∀ s,s < k→∀ i,i < m→V i s=sum r (fun t=>U i t*C t s)) (hk:r < k) :
  ∃ y:Nat→Rat,(∃ s,s < k∧y s≠0)∧∀ i,i < m→sum k (fun s=>V i s*y s)=0:=by
 have hR:=rref_ok r C k;have hl:=hR.len;obtain⟨c,hc,hg⟩:=inc_gap hR.inc (Nat.lt_of_le_of_lt hl hk);refine⟨nul (rref r C k).1 (rref r C k).2 c,⟨c,hc,by rw [nul_self hg]; decide⟩,fun i hi=>?_⟩;have h0:=nul_null hR hc
 generalize nul (rref r C k).1 (rref r C k).2 c=y at h0
 have e:∀ s,s < k→V i s*y s=sum r (fun t=>U i t*(C t s*y s)):=by
  intro s hs;rw [h s hs i hi,←sum_mul_right];exact sum_congr fun t _=>by grind
 rw [sum_congr e,sum_comm];exact sum_eq_zero fun t ht=>by rw [sum_mul,h0 t ht]; grind
theorem inv_symm {r:Nat} {K X:Nat→Nat→Rat} (hK:∀ i j,K i j=K j i) (h1:∀ i,i < r→∀ c,c < r→mm r K X i c=dlt i c) (h2:∀ i,i < r→∀ c,c < r→mm r X K i c=dlt i c):∀ i,i < r→∀ j,j < r→X i j=X j i:=by
 intro i hi j hj
 have a1:mm r (mm r X K) (fun a b=>X b a) i j=X j i:=by
  rw [mm_congr (a':=dlt) (b':=fun a b=>X b a) (fun k hk=>h2 i hi k hk) (fun _ _=>rfl),one_mm _ hi]
 have a2:mm r (mm r X K) (fun a b=>X b a) i j=X i j:=by
  rw [mm_assoc,mm_congr (a':=X) (b':=dlt) (fun _ _=>rfl) (fun k hk=>?_),mm_one _ hj];have:=h2 j hj k hk
  have hd:dlt k j=dlt j k:=by
   by_cases h:k=j
   ·rw [h]
   ·rw [dlt_ne h,dlt_ne (fun e=>h e.symm)]
  rw [hd,←this];exact sum_congr fun l _=>by rw [hK k l]; grind
 rw [←a1,a2]
theorem fits_symm {r:Nat} {B X:Nat→Nat→Rat} (hX:∀ i,i < r→∀ j,j < r→X i j=X j i) (i j:Nat):fits r B X i j=fits r B X j i:=by
 unfold fits;have e1:∀ s,B i s*sum r (fun t=>X s t*B j t)=sum r (fun t=>B i s*(X s t*B j t)):=fun s=>(sum_mul _ _ _).symm
 have e2:∀ s,B j s*sum r (fun t=>X s t*B i t)=sum r (fun t=>B j s*(X s t*B i t)):=fun s=>(sum_mul _ _ _).symm
 rw [sum_congr (fun s _=>e1 s),sum_congr (fun s _=>e2 s),sum_comm];exact sum_congr fun t ht=>sum_congr fun s hs=>by rw [hX s hs t ht]; grind
structure Model (m n:Nat) (A M X:Nat→Nat→Rat) (P:Nat→Rat) (p:List Nat):Prop where
 rr:Rref m n A M p
 pos:∀ i,i < m→0 < P i
 kx:∀ i,i < p.length→∀ c,c < p.length→mm p.length (nm m (bas A p) P) X i c=dlt i c
 xk:∀ i,i < p.length→∀ c,c < p.length→mm p.length X (nm m (bas A p) P) i c=dlt i c
variable {m n:Nat} {A M X:Nat→Nat→Rat} {P:Nat→Rat} {p:List Nat}
def gf (A X:Nat→Nat→Rat) (p:List Nat) (i j:Nat):Rat:=fits p.length (bas A p) X i j
theorem Model.symm (h:Model m n A M X P p) (i j:Nat):gf A X p i j=gf A X p j i :=
 fits_symm (inv_symm (nm_symm m (bas A p) P) h.kx h.xk) i j
theorem Model.fix (h:Model m n A M X P p) (x:Nat→Rat):∀ i,i < m→sum m (fun j=>gf A X p i j*P j*av n A x j)=av n A x i:=by
 refine fits_fit h.rr h.pos h.kx (x:=x) ?_;rw [nsol_orth];intro a _;exact sum_eq_zero fun k _=>by grind
theorem Model.col (h:Model m n A M X P p) (k:Nat):∃ x:Nat→Rat,∀ i,gf A X p i k=av n A x i:=by
 refine⟨spread p (fun s=>sum p.length (fun t=>X s t*bas A p k t)),fun i=>?_⟩;rw [av_spread h.rr]
 rfl
theorem Model.idem (h:Model m n A M X P p) (i k:Nat) (hi:i < m):sum m (fun j=>gf A X p i j*P j*gf A X p j k)=gf A X p i k:=by
 obtain⟨x,hx⟩:=h.col k;rw [hx i,←h.fix x i hi];exact sum_congr fun j _=>by rw [hx j]
theorem Model.sq (h:Model m n A M X P p) (i:Nat) (hi:i < m):gf A X p i i=sum m (fun j=>P j*(gf A X p i j*gf A X p i j)):=by
 rw [←h.idem i i hi];exact sum_congr fun j _=>by rw [h.symm j i]; grind
def hd (A X:Nat→Nat→Rat) (P:Nat→Rat) (p:List Nat) (i:Nat):Rat:=gf A X p i i*P i
theorem sum_ge_one {m i:Nat} {f:Nat→Rat} (hi:i < m) (h:∀ k,k < m→0≤f k):f i≤sum m f:=by
 have h1:sum m f=sum m (fun k=>if k=i then f i else 0)+sum m (fun k=>if k=i then 0 else f k):=by
  rw [←sum_add];refine sum_congr fun k _=>?_
  by_cases hk:k=i
  ·subst hk; simp <;> grind
  ·simp [hk] <;> grind
 have h2:sum m (fun k=>if k=i then f i else 0)=f i:=by
  rw [sum_single hi (fun k _ hk=>by simp [hk])]; simp
 have h3:0≤sum m (fun k=>if k=i then 0 else f k):=sum_nonneg fun k hk=>by
  by_cases hk':k=i
  ·simp [hk'] <;> grind
  ·simp [hk']; exact h k hk
 grind
theorem Model.diag (h:Model m n A M X P p) {i:Nat} (hi:i < m):0≤hd A X P p i∧hd A X P p i≤1:=by
 have h0:∀ k,k < m→0≤P k*(gf A X p i k*gf A X p i k):=fun k hk=>Rat.mul_nonneg (by have:=h.pos k hk; grind) (sq_nonneg _)
 have h1:=h.sq i hi;have h2:=sum_ge_one hi h0;rw [←h1] at h2;have h3:=sum_nonneg h0;rw [←h1] at h3;have hp:=h.pos i hi;unfold hd
 generalize gf A X p i i=g at *
 have h4:0≤g*P i:=Rat.mul_nonneg h3 (by grind);refine⟨h4,?_⟩
 have h5:(g*P i)*(g*P i)≤g*P i:=by
  have:=Rat.mul_le_mul_of_nonneg_right h2 (Rat.le_of_lt hp)
  grind
 rcases Rat.le_total (a:=g*P i) (b:=1) with h6 | h6
 ·exact h6
 ·have h7:=Rat.mul_le_mul_of_nonneg_right h6 h4;rw [Rat.one_mul] at h7;have h8:=Rat.le_antisymm h5 h7;have h9:(g*P i)*(g*P i - 1)=0:=by grind
  rcases Rat.mul_eq_zero.1 h9 with h10 | h10
  ·rw [h10] at h6; exact absurd h6 (by decide)
  ·grind
end Go.Proofs.YtphpkhoeplcedaaGreat
