import Derived.Test.YthkkknjcoidioaaGreatWb01
import Derived.Test.YthkkknjcoidioaaGreatWb02
import Derived.Test.YthkkknjcoidioaaGreatWb03
import Derived.Test.YthkkknjcoidioaaGreatWb04
import Derived.Test.YthkkknjcoidioaaGreatWb05
import Derived.Test.YthkkknjcoidioaaGreatWb06
import Derived.Test.YthkkknjcoidioaaGreatWb07
import Derived.Test.YthkkknjcoidioaaGreatWb08
import Derived.Test.YthkkknjcoidioaaGreatWb09
import Derived.Test.YthkkknjcoidioaaGreatWb10
import Derived.Test.YthkkknjcoidioaaGreatWb11
import Derived.Test.YthkkknjcoidioaaGreatWb12
import Derived.Test.YthkkknjcoidioaaGreatWb13
import Derived.Test.YthkkknjcoidioaaGreatWb14
import Derived.Test.YthkkknjcoidioaaGreatWb15
import Derived.Test.YthkkknjcoidioaaGreatWb16
import Derived.Test.YthkkknjcoidioaaGreatWb17
import Derived.Test.YthkkknjcoidioaaGreatWb18
import Derived.Test.YthkkknjcoidioaaGreatWb19
import Derived.Test.YthkkknjcoidioaaGreatWb20
import Derived.Test.YthkkknjcoidioaaGreatWb21
import Derived.Test.YthkkknjcoidioaaGreatWb22
import Derived.Test.YthkkknjcoidioaaGreatWb23
import Derived.Test.YthkkknjcoidioaaGreatWb24
import Derived.Test.YthkkknjcoidioaaGreatWb25
import Derived.Test.YthkkknjcoidioaaGreatWb26
import Derived.Test.YthkkknjcoidioaaGreatWb27
import Derived.Test.YthkkknjcoidioaaGreatWb28
import Derived.Test.YthkkknjcoidioaaGreatWb29
import Derived.Test.YthkkknjcoidioaaGreatWb30
import Derived.Test.YthkkknjcoidioaaGreatWb31
import Derived.Test.YthkkknjcoidioaaGreatWb32
import Derived.Test.YthkkknjcoidioaaGreatWb33
import Derived.Test.YthkkknjcoidioaaGreatWb34
import Derived.Test.YthkkknjcoidioaaGreatWb35
import Derived.Test.YthkkknjcoidioaaGreatWb36
import Derived.Test.YthkkknjcoidioaaGreatWb37
import Derived.Test.YthkkknjcoidioaaGreatWb38
import Derived.Test.YthkkknjcoidioaaGreatWb39
import Derived.Test.YthkkknjcoidioaaGreatWb40
import Derived.Test.YthkkknjcoidioaaGreatWb41
import Derived.Test.YthkkknjcoidioaaGreatWb42
import Derived.Test.YthkkknjcoidioaaGreatWb46
import Derived.Deep.CutBlock
import Derived.Deep.AppendLies
import Derived.WalkKit
import Derived.WalkSpells
import Derived.WalkLawsBesides
import Derived.Lib.Hide
import Derived.Deep.RegionHeld3
import Derived.Deep.QuietTactic
import Derived.BigQuiet
import Derived.Maps.AppendAt
import Derived.Deep.DeepCutAuto
import Derived.Deep.RegionWith
import Derived.Deep.DeepMust
import Derived.OrdersIn
import Derived.RegionTactic
import Derived.RangeFuncNested
import Derived.RangeFuncBound
import Derived.RangeFuncCalls
import Derived.RangeFuncLeaves
import Derived.RangeFuncBox
import Derived.Shelf.Abstract
import Derived.OwnWalkIn
import Derived.TacticsInMore
import Derived.LoopNIn
import Derived.LoopIn
import Derived.Deep.RegionLaw
import Derived.Lib.SliceRun
import Derived.Laws.IdiomCopy
import Derived.Shelf.Bits.Mul64
import Derived.Laws.EntriesVeiled
import Derived.Deep.Slices
import Derived.Deep.Strs
import Derived.Lib.SmallJoins
import Derived.ProofKit
import Derived.OpenShut
import Derived.Below
set_option linter.all false
set_option maxHeartbeats 8000000
namespace Go.Proofs.YthkkknjcoidioaaGreat
def aug (n:Nat) (N:Nat→Nat→Rat) (b:Nat→Rat) (i c:Nat):Rat:=if c < n then N i c else b i
theorem aug_null {n:Nat} {N:Nat→Nat→Rat} {b x:Nat→Rat} (i:Nat):sum (n+1) (fun c=>aug n N b i c*(if c < n then x c else -1))=sum n (fun c=>N i c*x c) - b i:=by
 rw [sum_succ,sum_congr (g:=fun c=>N i c*x c) (fun c hc=>by unfold aug; rw [if_pos hc,if_pos hc])];unfold aug;rw [if_neg (Nat.lt_irrefl n),if_neg (Nat.lt_irrefl n)]
 grind
def sol (n:Nat) (M:Nat→Nat→Rat) (p:List Nat) (c:Nat):Rat:=sum p.length (fun s=>dlt (p[s]?.getD 0) c*M s n)
theorem sum_sol {n:Nat} {M:Nat→Nat→Rat} {p:List Nat} (hp:∀ s,s < p.length→p[s]?.getD 0 < n) (f:Nat→Rat):sum n (fun c=>f c*sol n M p c)=sum p.length (fun s=>f (p[s]?.getD 0)*M s n):=by
 unfold sol;have e:∀ c,f c*sum p.length (fun s=>dlt (p[s]?.getD 0) c*M s n)=sum p.length (fun s=>f c*(dlt (p[s]?.getD 0) c*M s n)):=fun c=>(sum_mul _ _ _).symm
 rw [sum_congr (fun c _=>e c),sum_comm];refine sum_congr fun s hs=>?_
 have e2:∀ c,f c*(dlt (p[s]?.getD 0) c*M s n)=dlt (p[s]?.getD 0) c*(f c*M s n):=fun c=>by grind
 rw [sum_congr (fun c _=>e2 c),sum_dlt (hp s hs) (fun c=>f c*M s n)]
theorem solve_ok {m n:Nat} {N M:Nat→Nat→Rat} {b:Nat→Rat} {p:List Nat} (h:Rref m (n+1) (aug n N b) M p) (hn:∀ s,s < p.length→p[s]?.getD 0≠n) :
  ∀ i,i < m→sum n (fun c=>N i c*sol n M p c)=b i:=by
 have hp:∀ s,s < p.length→p[s]?.getD 0 < n:=fun s hs=>by have:=h.low s hs; have:=hn s hs; omega
 have hz:∀ i,i < m→sum (n+1) (fun c=>M i c*(if c < n then sol n M p c else -1))=0:=by
  intro i hi;rw [sum_succ,if_neg (Nat.lt_irrefl n),sum_congr (g:=fun c=>M i c*sol n M p c) (fun c hc=>by rw [if_pos hc]),sum_sol hp];rw [sum_congr (g:=fun s=>dlt i s*M s n) (fun s hs=>by rw [h.unit s hs i hi])]
  rcases Nat.lt_or_ge i p.length with h1 | h1
  ·rw [sum_dlt h1 (fun s=>M s n)]; grind
  ·rw [h.zero i h1 hi n (by omega),sum_eq_zero (fun s hs=>by rw [dlt_ne (by omega)]; grind)]; grind
 intro i hi;have:=h.back.null hz i hi;rw [aug_null] at this
 grind
theorem solve_no {m n:Nat} {N M:Nat→Nat→Rat} {b:Nat→Rat} {p:List Nat} (h:Rref m (n+1) (aug n N b) M p) {s:Nat} (hs:s < p.length) (hn:p[s]?.getD 0=n) :
  ∃ y:Nat→Rat,(∀ c,c < n→sum m (fun i=>y i*N i c)=0)∧sum m (fun i=>y i*b i)=1:=by
 obtain⟨T,hT⟩:=h.there;have hsm:s < m:=Nat.lt_of_lt_of_le hs h.len;refine⟨T s,fun c hc=>?_,?_⟩
 ·have h1:=hT s hsm c;rw [h.left s hs c (by omega),mm] at h1;rw [h1];exact sum_congr fun k _=>by unfold aug; rw [if_pos hc]
 ·have h1:=hT s hsm n;have h2:=h.unit s hs s hsm;rw [hn,dlt_same] at h2;rw [h2,mm] at h1;rw [h1];exact sum_congr fun k _=>by unfold aug; rw [if_neg (Nat.lt_irrefl n)]
theorem av_congr {n:Nat} {A:Nat→Nat→Rat} {x y:Nat→Rat} {i:Nat} (h:∀ c,c < n→x c=y c):av n A x i=av n A y i:=sum_congr fun c hc=>by rw [h c hc]
end Go.Proofs.YthkkknjcoidioaaGreat
namespace Go.Proofs.YthkkknjcoidioaaGreat
open Go.RowKit
theorem r5_rank {N lo hi:Nat} {w:World} {v:Value} {m n:Nat} {X:Nat→Nat→Rat} (h:MtV N lo hi w v m n X) (hm0:0 < m) (hm:m < 1000000) (hn0:0 < n) (hn:n < 1000000)
  {q P:Nat} (hq:HtM m n q X) (hP:m≤P∨n≤P) (hK:5*(5 ^ P*q)≤29000000000) :
  Calls Tryz.prog 38 #[v] w (RetV w (.int .i64 (((rref m X n).2.length:Nat):Int))):=by
 obtain⟨r,hr⟩:=hid_eq (rref m X n).2.length;rw [←hr.out];have HC:Hid (Calls Tryz.prog 82 #[v] w (RetEch N w m n (rref m X n).1 (rref m X n).2)):=r5_echelon h hm0 hm hn0 hn hq hP hK;obtain⟨A,c,rfl,hmc,hcm⟩:=h.form;clear h hq hP hK;go_enter Tryz.func38,Tryz.ntmps38;go_wp2_with (go_at_call 82; refine Hid.out ?_);refine HC.out.mono ?_;rintro e w1 ⟨h,cap,β,κ,A',c',rfl,hcap,ho,hi',hE⟩;rw [←hr.out];clear hi' ho;go_wp2;go_ret;exact⟨rfl,hE⟩
end Go.Proofs.YthkkknjcoidioaaGreat
namespace Go.Proofs.YthkkknjcoidioaaGreat
theorem rank_reg {n:Nat} {K M:Nat→Nat→Rat} {p:List Nat} (h:Rref n n K M p) (hl:p.length=n):Reg n K:=by
 intro x hx c hc;have h1:=Comb.null (n:=n) h.there hx c hc;have hp:=inc_all h.inc h.low hl
 have h2:sum n (fun d=>M c d*x d)=sum n (fun d=>dlt c d*x d):=sum_congr fun d hd=>by
  have h3:=h.unit d (by omega) c hc;rw [hp d hd] at h3;rw [h3]
 rw [h2,sum_dlt hc] at h1;exact h1
theorem reg_rank {n:Nat} {K M:Nat→Nat→Rat} {p:List Nat} (h:Rref n n K M p) (hK:Reg n K):p.length=n:=by
 have h1:=h.len
 rcases Nat.lt_or_ge p.length n with h2 | h2
 ·obtain⟨c,hc,hg⟩:=inc_gap h.inc h2;have h3:=hK _ (nul_null h hc) c hc;rw [nul_self hg] at h3;exact absurd h3 (by decide)
 ·omega
theorem rank_iff (n:Nat) (K:Nat→Nat→Rat):(rref n K n).2.length=n↔Reg n K:=⟨rank_reg (rref_ok n K n),reg_rank (rref_ok n K n)⟩
theorem reg_solve {n:Nat} {K:Nat→Nat→Rat} (hK:Reg n K) (b:Nat→Rat):(rref n (aug n K b) (n+1)).2.contains n=false∧∀ i,i < n→sum n (fun c=>K i c*sol n (rref n (aug n K b) (n+1)).1 (rref n (aug n K b) (n+1)).2 c)=b i:=by
 have hR:=rref_ok n (aug n K b) (n+1)
 have hno:∀ s,s < (rref n (aug n K b) (n+1)).2.length→(rref n (aug n K b) (n+1)).2[s]?.getD 0≠n:=by
  intro s hs he;obtain⟨y,h1,h2⟩:=solve_no hR hs he;obtain⟨h3,-⟩:=inv_ok (rref_ok n (besideI n K) n) ((inv_iff n K).2 hK)
  have hy:∀ c,c < n→y c=0:=by
   intro c hc
   have e:sum n (fun d=>sum n (fun i=>y i*K i d)*(rref n (besideI n K) n).1 d (n+c))=y c:=by
    have e1:sum n (fun d=>sum n (fun i=>y i*K i d)*(rref n (besideI n K) n).1 d (n+c))=sum n (fun i=>y i*mm n K (fun a b=>(rref n (besideI n K) n).1 a (n+b)) i c):=by
     rw [show sum n (fun d=>sum n (fun i=>y i*K i d)*(rref n (besideI n K) n).1 d (n+c))=sum n (fun d=>sum n (fun i=>y i*(K i d*(rref n (besideI n K) n).1 d (n+c)))) from sum_congr fun d _=>by rw [←sum_mul_right]; exact sum_congr fun i _=>by grind,sum_comm];exact sum_congr fun i _=>by unfold mm; rw [sum_mul]
    rw [e1,show sum n (fun i=>y i*mm n K (fun a b=>(rref n (besideI n K) n).1 a (n+b)) i c)=sum n (fun i=>y i*dlt i c) from sum_congr fun i hi=>by rw [h3 i hi c hc]];exact sum_dlt' hc y
   rw [←e];exact sum_eq_zero fun d hd=>by rw [h1 d hd]; grind
  rw [sum_eq_zero (fun i hi=>by rw [hy i hi]; grind)] at h2;exact absurd h2 (by decide)
 refine⟨?_,solve_ok hR hno⟩;cases hc:(rref n (aug n K b) (n+1)).2.contains n with
 | false=>rfl
 | true =>
  rw [List.contains_iff_mem] at hc;obtain⟨s,hs,he⟩:=List.getElem_of_mem hc;exact absurd (by rw [List.getElem?_eq_getElem hs]; simpa using he) (hno s hs)
theorem Inv2.fit {m n:Nat} {A Q:Nat→Nat→Rat} {P L x:Nat→Rat} (h:Inv2 m n A Q P) (hx:Nsol m n A P L x) {i:Nat} (hi:i < m):sum m (fun j=>gq n A Q i j*P j*L j)=av n A x i:=by
 obtain⟨hM,hl,hg⟩:=full_model h.pos h.kq h.qk;have h2:=fits_fit hM.rr h.pos hM.kx hx i hi;rw [←h2];exact sum_congr fun j _=>by rw [←hg]; rfl
def stt (n:Nat) (A Q:Nat→Nat→Rat) (P L x:Nat→Rat) (i:Nat):Rat:=P i*((av n A x i - L i)*(av n A x i - L i)) / rdn n A Q P i
theorem gf_both {m n n':Nat} {A A' M M' X X':Nat→Nat→Rat} {P P':Nat→Rat} {p p':List Nat} {k:Rat} (h:Model m n A M X P p) (h':Model m n' A' M' X' P' p') (hP:∀ i,i < m→P' i=k*P i)
  (hs:∀ x,∃ z,∀ i,i < m→av n' A' x i=av n A z i) (hs':∀ x,∃ z,∀ i,i < m→av n A x i=av n' A' z i) {i l:Nat} (hi:i < m) (hl:l < m):gf A X p i l*P l=gf A' X' p' i l*P' l:=by
 have one:∀ a b,a < m→b < m→sum m (fun j=>gf A' X' p' a j*P' j*gf A X p j b)=gf A X p a b:=by
  intro a b ha hb;obtain⟨x,hx⟩:=h.col b;obtain⟨z,hz⟩:=hs' x;rw [hx a,hz a ha,←h'.fix z a ha];exact sum_congr fun j hj=>by rw [hx j,hz j hj]
 have two:∀ a b,a < m→b < m→sum m (fun j=>gf A X p a j*P j*gf A' X' p' j b)=gf A' X' p' a b:=by
  intro a b ha hb;obtain⟨x,hx⟩:=h'.col b;obtain⟨z,hz⟩:=hs x;rw [hx a,hz a ha,←h.fix z a ha];exact sum_congr fun j hj=>by rw [hx j,hz j hj]
 have e1:gf A X p i l=k*gf A' X' p' i l:=by
  rw [h.symm i l,←one l i hl hi,←two i l hi hl,←sum_mul];exact sum_congr fun j hj=>by rw [hP j hj,h'.symm l j,h.symm j i]; grind
 rw [e1,hP l hl]
 grind
theorem av_mm2 {n m':Nat} (A T:Nat→Nat→Rat) (x:Nat→Rat) (i:Nat):av m' (mm n A T) x i=av n A (av m' T x) i:=by
 unfold av mm;rw [show sum m' (fun c=>sum n (fun k=>A i k*T k c)*x c)=sum m' (fun c=>sum n (fun k=>A i k*T k c*x c)) from sum_congr fun c _=>(sum_mul_right n (x c) _).symm,sum_comm];exact sum_congr fun k _=>by rw [←sum_mul]; exact sum_congr fun c _=>by grind
theorem Inv2.change {m n:Nat} {A A' Q Q' T S:Nat→Nat→Rat} {P P' L L' x x' s:Nat→Rat} {k:Rat} (h:Inv2 m n A Q P) (h':Inv2 m n A' Q' P') (hA:∀ i,i < m→∀ c,c < n→A' i c=mm n A T i c) (hTS:∀ i,i < n→∀ c,c < n→mm n T S i c=dlt i c)
  (hP:∀ i,i < m→P' i=k*P i) (hL:∀ i,i < m→L' i=L i+av n A s i) (hx:Nsol m n A P L x) (hx':Nsol m n A' P' L' x') {i:Nat} (hi:i < m) :
  rdn n A' Q' P' i=rdn n A Q P i∧stt n A' Q' P' L' x' i=k*stt n A Q P L x i:=by
 obtain⟨hM,-,hg⟩:=full_model h.pos h.kq h.qk;obtain⟨hM',-,hg'⟩:=full_model h'.pos h'.kq h'.qk
 have hs1:∀ x,∃ z,∀ i,i < m→av n A' x i=av n A z i:=fun x=>⟨av n T x,fun i hi=>by
  rw [←av_mm2]
  exact sum_congr fun c hc=>by rw [hA i hi c hc]⟩
 have hs2:∀ x,∃ z,∀ i,i < m→av n A x i=av n A' z i:=fun x=>⟨av n S x,fun i hi=>by
  have e1:av n A' (av n S x) i=av n (mm n A T) (av n S x) i:=sum_congr fun c hc=>by rw [hA i hi c hc]
  rw [e1,av_mm2];refine av_congr fun c hc=>?_
  rw [←av_mm2];unfold av;rw [show sum n (fun c_1=>mm n T S c c_1*x c_1)=sum n (fun c_1=>dlt c c_1*x c_1) from sum_congr fun d hd=>by rw [hTS c hc d hd]]
  exact (sum_dlt hc x).symm⟩
 have hH:∀ a b,a < m→b < m→gq n A Q a b*P b=gq n A' Q' a b*P' b:=fun a b ha hb=>by
  have:=gf_both hM hM' hP hs1 hs2 ha hb;rw [hg,hg'] at this;exact this
 have hr:rdn n A' Q' P' i=rdn n A Q P i:=by
  unfold rdn;have:=hH i i hi hi
  grind
 refine⟨hr,?_⟩
 have hv:av n A' x' i - L' i=av n A x i - L i:=by
  rw [←h'.fit hx' hi,←h.fit hx hi]
  have e1:sum m (fun j=>gq n A' Q' i j*P' j*L' j)=sum m (fun j=>gq n A Q i j*P j*L j)+sum m (fun j=>gq n A Q i j*P j*av n A s j):=by
   rw [←sum_add];exact sum_congr fun j hj=>by rw [←hH i j hi hj,hL j hj]; grind
  rw [e1,h.fix s hi,hL i hi]
  grind
 unfold stt;rw [hv,hr,hP i hi]
 grind
end Go.Proofs.YthkkknjcoidioaaGreat
namespace Go.Proofs.YthkkknjcoidioaaGreat
open Go.RowKit
def nsv (n:Nat) (K:Nat→Nat→Rat) (b:Nat→Rat):Nat→Rat:=sol n (rref n (aug n K b) (n+1)).1 (rref n (aug n K b) (n+1)).2
def shM (most m:Nat) (L:Nat→Nat) (R:Nat→Nat→Raw):Bool:=decide (m≤most) && allB m (fun i=>shB most (L i) (R i))
theorem r2_shortMatrix {N lo hi:Nat} {w:World} {v:Value} {m:Nat} {L:Nat→Nat} {R:Nat→Nat→Raw} (h:MtR N lo hi w v m L R) (most:Nat) {mz:Int} (hmz:mz=(most:Int)) (hmo:most < 1000) :
  Calls Tryz.prog 36 #[v,.int .i64 mz,.int .i64 6] w (RetV w (.bool (shM most m L R))):=by
 subst hmz;obtain⟨r,hr⟩:=hid_eq (shM most m L R);rw [←hr.out];obtain⟨A,c,rfl,hnc,hcm⟩:=h.form;unfold maxLen at hcm;have hI:=h;clear h;go_enter Tryz.func36,Tryz.ntmps36
 by_cases hn:m≤most
 ·have HR:Hid (r=allB m (fun i=>shB most (L i) (R i))):=by rw [Hid,hr.out]; unfold shM; rw [decide_eq_true hn,Bool.true_and]
  have hd1:decide (most < m)=false:=by simp; omega
  have hd2:¬ most < m:=by omega
  clear hr;go_wp2
  go_loopw [7] (fun i wr=>∃ k:Nat,k≤m∧i=.int .i64 k∧Hid (∀ j,j < k→shB most (L j) (R j)=true)∧Ext w wr) (fun i _=>m - (intOf i).toNat)
  case atStart=>exact⟨0,Nat.zero_le _,rfl,fun j hj=>absurd hj (by omega),Ext.refl w⟩
  case round =>
   obtain⟨k,hk,rfl,HA,hE⟩:=hrel
   by_cases hlt:k < m
   ·obtain⟨b,off,rfl,-,-,hx⟩:=(hI.ext hE).addr (by omega);obtain⟨Ak,ck,p0,-,-,hv⟩:=hx k hlt;obtain⟨Lk,hLk⟩:=hid_eq (L k);rw [←hLk.out] at p0 hv;clear hx;go_wp2_with (go_at_call 30; refine Hid.out ?_);refine (r2_short hv most rfl hmo).mono ?_;rintro e w3 ⟨rfl,e3⟩;replace hE:=hE.trans e3;obtain⟨o,ho⟩:=hid_eq (shB most Lk (R k));have HO:Hid (shB most (L k) (R k)=o):=by rw [Hid,ho.out,hLk.out]
    rw [←ho.out];clear p0 e3;cases ho':o with
    | true =>
     subst ho';go_wp2;go_roundw
     case rel=>exact⟨k+1,by omega,by go_num,all_succ (p:=fun j=>shB most (L j) (R j)=true) HA.out HO.out,hE⟩
     case measure=>simp [intOf]; omega
    | false =>
     subst ho';have HF:Hid (r=false):=by rw [Hid,HR.out]; exact allB_false hlt HO.out
     go_wp2;go_ret;exact⟨ret_bool HF.out.symm,hE⟩
   ·have HF:Hid (r=true):=by rw [Hid,HR.out]; exact allB_true.2 (fun j hj=>HA.out j (by omega))
    go_wp2;go_ret;exact⟨ret_bool HF.out.symm,hE⟩
 ·have HF:Hid (r=false):=by rw [Hid,hr.out]; unfold shM; rw [decide_eq_false hn]; rfl
  go_wp2;go_ret;exact⟨ret_bool HF.out.symm,Ext.refl w⟩
end Go.Proofs.YthkkknjcoidioaaGreat
namespace Go.Proofs.YthkkknjcoidioaaGreat
theorem nsv_sum {n:Nat} {K:Nat→Nat→Rat} {b:Nat→Rat} (h:Reg n K):∀ i,i < n→sum n (fun c=>K i c*nsv n K b c)=b i:=(reg_solve h b).2
theorem nsv_nsol {m n:Nat} {X:Nat→Nat→Rat} {y p:Nat→Rat} (h:Reg n (nmat X p m)):Nsol m n X p y (nsv n (nmat X p m) (nrhs X y p m)):=by
 intro a ha;rw [sum_congr (fun b _=>by rw [←nmat_nm5]),nsv_sum h a ha];exact sum_congr fun t _=>by grind
theorem inv_apply {n:Nat} {K:Nat→Nat→Rat} (h:Reg n K) (b:Nat→Rat):∀ i,i < n→sum n (fun c=>invM n K i c*b c)=nsv n K b i:=by
 refine reg_unique h (b:=b) (fun i hi=>?_) (nsv_sum h)
 have e:sum n (fun c=>K i c*sum n (fun d=>invM n K c d*b d))=sum n (fun d=>mm n K (invM n K) i d*b d):=by
  unfold mm;rw [sum_congr (g:=fun c=>sum n (fun d=>K i c*invM n K c d*b d)) (fun c _=>by rw [←sum_mul]; exact sum_congr fun d _=>by grind),sum_comm];exact sum_congr fun d _=>by rw [sum_mul_right]
 rw [e,sum_congr (fun d hd=>by rw [(regInv h).2 i hi d hd])];exact sum_dlt hi b
end Go.Proofs.YthkkknjcoidioaaGreat
namespace Go.Proofs.YthkkknjcoidioaaGreat
open Go.RowKit
theorem shB_sz {most n:Nat} {R:Nat→Raw} (h:shB most n R=true):∀ i,i < n→RawSz (R i):=fun i hi=>(brief_raw ((shB_all h).2 i hi)).1
theorem shB_lsv {most n:Nat} {R:Nat→Raw} (h:shB most n R=true) (hok:allB n (fun i=>okR (R i))=true) {N lo hi:Nat} {w:World} {v:Value} (hv:LsR N lo hi w v n R) :
  LsV N lo hi w v n (fun i=>ratOf (R i))∧HtL n 17 (fun i=>ratOf (R i)):=by
 have hk:=allB_true.1 hok;refine⟨LsR.congr hv (fun i hi=>raw_ratOf (hk i hi)),fun i hi=>brief_ht ?_⟩;rw [←raw_ratOf (hk i hi)];exact (shB_all h).2 i hi
end Go.Proofs.YthkkknjcoidioaaGreat
namespace Go.Proofs.YthkkknjcoidioaaGreat
theorem xS_nsv {m n:Nat} {X:Nat→Nat→Rat} {y p:Nat→Rat} (h:Reg n (nmat X p m)):∀ i,i < n→xS m n X y p i=nsv n (nmat X p m) (nrhs X y p m) i:=inv_apply h _
theorem xS_nsol {m n:Nat} {X:Nat→Nat→Rat} {y p:Nat→Rat} (h:Reg n (nmat X p m)):Nsol m n X p y (xS m n X y p):=by
 intro a ha;rw [←nsv_nsol h a ha];exact sum_congr fun b hb=>by rw [xS_nsv h b hb]
section
variable {m n:Nat} {X:Nat→Nat→Rat} {y p:Nat→Rat}
end
end Go.Proofs.YthkkknjcoidioaaGreat
namespace Go.Proofs.YthkkknjcoidioaaGreat
open Go.RowKit
theorem one_raw {N:Nat} {w:World} {g:Nat} {R:Raw} {s t:Value} (hN:N≤w.heap.size) (h:w.heap[g]?=some (.cells #[.bool R.b1,s,.bool R.b2,t] 36 (0,0))) (h1:Gs N w s R.l1) (h2:Gs N w t R.l2):LsR N 0 w.heap.size w (.slice (some ⟨g,0,none⟩) 1 1) 1 (fun _=>R):=by
 obtain⟨p0,p1,p2,p3,-⟩:=cells4 h;refine⟨hN,Nat.le_refl _,_,1,rfl,Nat.le_refl _,by unfold maxLen; omega,fun _=>⟨g,0,rfl,Nat.zero_le _,blk_lt h,fun i hi=>?_⟩⟩;obtain rfl:i=0:=by omega
 exact⟨s,t,p0,p1,p2,p3,h1,h2⟩
theorem sign_le0 {q:Rat} (h:q≤0):decide (q.num.sign≤0)=true:=decide_eq_true (by
 have h1:¬ 0 < q.num.sign:=fun h1=>absurd (rat_pos (Int.sign_pos_iff.1 h1)) (Rat.not_lt.2 h)
 omega)
end Go.Proofs.YthkkknjcoidioaaGreat
namespace Go.Proofs.YthkkknjcoidioaaGreat
open Go.RowKit Go.ChangeShapes Go.ChangeAt
theorem cells_lin:Tryz.prog.cellsOf 26=3:=by kernel_rfl
section
variable {H:Type} {enc:TypeId×Value→H} {w:World} {spare:Nat→Bool} {held:Bool}
instance:Inhabited Raw:=⟨⟨false,[],false,[]⟩⟩
end
end Go.Proofs.YthkkknjcoidioaaGreat
namespace Go.Proofs.YthkkknjcoidioaaGreat
open Go.RowKit
def vmB (most m:Nat) (L:Nat→Nat) (R:Nat→Nat→Raw):Bool:=decide (1≤m) && (decide (m≤most) && (decide (1≤L 0) && (decide (L 0≤most) && allB m (fun i=>decide (L i=L 0) && allB (L i) (fun j=>okR (R i j))))))
set_option maxRecDepth 100000 in
theorem r2_validMatrix {N lo hi:Nat} {w:World} {v:Value} {m:Nat} {L:Nat→Nat} {R:Nat→Nat→Raw} (h:MtR N lo hi w v m L R) (hs:∀ i,i < m→∀ j,j < L i→RawSz (R i j)) (most:Nat) {mz:Int} (hmz:mz=(most:Int)) (hmo:most < 1000) :
  Calls Tryz.prog 37 #[v,.int .i64 mz] w (RetV w (.bool (vmB most m L R))):=by
 subst hmz;obtain⟨r,hr⟩:=hid_eq (vmB most m L R);rw [←hr.out];obtain⟨A,c,rfl,hnc,hcm⟩:=h.form;unfold maxLen at hcm;have hI:=h;have HS:=Lib.hid hs;clear h hs
 by_cases h1:m < 1
 ·have HF:Hid (r=false):=by rw [Hid,hr.out]; unfold vmB; rw [decide_eq_false (by omega)]; rfl
  have t1:decide ((m:Int) < 1)=true:=decide_eq_true (by omega);have t2:(m:Int) < 1:=by omega
  clear hr;go_enter Tryz.func37,Tryz.ntmps37;go_wp2;go_ret;exact⟨ret_bool HF.out.symm,Ext.refl w⟩
 have t1:decide ((m:Int) < 1)=false:=decide_eq_false (by omega);have t2:¬ (m:Int) < 1:=by omega
 have hm0:0 < m:=by omega
 clear h1
 by_cases h1:most < m
 ·have HF:Hid (r=false):=by rw [Hid,hr.out]; unfold vmB; rw [decide_eq_false (show ¬ m≤most by omega),Bool.false_and,Bool.and_false]
  have t3:decide ((most:Int) < m)=true:=decide_eq_true (by omega);have t4:(most:Int) < m:=by omega
  clear hr h1;go_enter Tryz.func37,Tryz.ntmps37;go_wp2;go_ret;exact⟨ret_bool HF.out.symm,Ext.refl w⟩
 have t3:decide ((most:Int) < m)=false:=decide_eq_false (by omega);have t4:¬ (most:Int) < m:=by omega
 obtain⟨b,off,rfl,-,-,hx⟩:=hI.addr hm0;obtain⟨A0,c0,P0,hc0,hc0',-⟩:=hx 0 hm0;rw [Nat.add_zero] at P0;obtain⟨L0,hL0⟩:=hid_eq (L 0);rw [←hL0.out] at P0 hc0;unfold maxLen at hc0';have HX:=Lib.hid hx;clear hx
 by_cases h2:L0 < 1
 ·have HF:Hid (r=false):=by rw [Hid,hr.out]; unfold vmB; rw [←hL0.out,decide_eq_false (show ¬ 1≤L0 by omega),Bool.false_and,Bool.and_false,Bool.and_false]
  have t5:decide ((L0:Int) < 1)=true:=decide_eq_true (by omega);have t6:(L0:Int) < 1:=by omega
  clear hr h2;go_enter Tryz.func37,Tryz.ntmps37;go_wp2;go_ret;exact⟨ret_bool HF.out.symm,Ext.refl w⟩
 have t5:decide ((L0:Int) < 1)=false:=decide_eq_false (by omega);have t6:¬ (L0:Int) < 1:=by omega
 by_cases h3:most < L0
 ·have HF:Hid (r=false):=by rw [Hid,hr.out]; unfold vmB; rw [←hL0.out,decide_eq_false (show ¬ L0≤most by omega),Bool.false_and,Bool.and_false,Bool.and_false,Bool.and_false]
  have t7:decide ((most:Int) < L0)=true:=decide_eq_true (by omega);have t8:(most:Int) < L0:=by omega
  clear hr h2 h3;go_enter Tryz.func37,Tryz.ntmps37;go_wp2;go_ret;exact⟨ret_bool HF.out.symm,Ext.refl w⟩
 have t7:decide ((most:Int) < L0)=false:=decide_eq_false (by omega);have t8:¬ (most:Int) < L0:=by omega
 have HR:Hid (r=allB m (fun i=>decide (L i=L0) && allB (L i) (fun j=>okR (R i j)))):=by
  rw [Hid,hr.out]; unfold vmB;rw [←hL0.out,decide_eq_true (show 1≤m by omega),decide_eq_true (show m≤most by omega),decide_eq_true (show 1≤L0 by omega),decide_eq_true (show L0≤most by omega)];simp only [Bool.true_and]
 clear hr h1 h2 h3;have p0:=P0;go_enter Tryz.func37,Tryz.ntmps37;go_wp2;clear p0 t1 t2 t3 t4 t5 t6 t7 t8
 go_loopw [5] (fun i wr=>∃ k:Nat,k≤m∧i=.int .i64 k∧Hid (∀ j,j < k→(decide (L j=L0) && allB (L j) (fun t=>okR (R j t)))=true)∧Ext w wr) (fun i _=>m - (intOf i).toNat)
 case atStart=>exact⟨0,Nat.zero_le _,rfl,fun j hj=>absurd hj (by omega),Ext.refl w⟩
 case round =>
  obtain⟨k,hk,rfl,HA,hE⟩:=hrel
  by_cases hlt:k < m
  ·obtain⟨Ak,ck,P1,hck,hck',hv⟩:=HX.out k hlt;obtain⟨Lk,hLk⟩:=hid_eq (L k);rw [←hLk.out] at P1 hck hv;have p1:=hE.cell P1;have p0:=hE.cell P0;replace hv:=LsR.ext hv hE;unfold maxLen at hck';clear P1
   by_cases heq:Lk=L0
   ·subst heq;have HSk:Hid (∀ j,j < Lk→RawSz (R k j)):=fun j hj=>HS.out k hlt j (by rw [←hLk.out]; exact hj)
    obtain⟨o,ho⟩:=hid_eq (allB Lk (fun j=>okR (R k j)));have HO:Hid ((decide (L k=Lk) && allB (L k) (fun t=>okR (R k t)))=o):=by rw [Hid,←hLk.out,decide_eq_true rfl,Bool.true_and,ho.out]
    go_upto_region 6 with (fail);cases ho':o with
    | true =>
     subst ho';refine region_inv [Mn.eq (.slice (some ⟨b,off,none⟩) m c),Mn.eq (.int .i64 (k:Int)),Mn.eq (.pointer (some ⟨b,off+k,none⟩)),Mn.eq (.slice Ak Lk ck),Mn.eq (.int .i64 (Lk:Int)),Mn.eq (.slice (some ⟨b,off,none⟩) m c),Mn.eq (.pointer (some ⟨b,off,none⟩)),Mn.eq (.slice A0 Lk c0),Mn.eq (.int .i64 (Lk:Int)),Mn.eq (.bool false),Mn.eq (.bool false),Mn.eq (.slice (some ⟨b,off,none⟩) m c),Mn.eq (.int .i64 (k:Int)),Mn.eq (.pointer (some ⟨b,off+k,none⟩)),Mn.eq (.slice Ak Lk ck),Mn.eq (.bool true),Mn.eq (.bool false),Mn.eq (.bool false)] [some 36,some 37,some 38,some 39,some 40,some 41,some 42,some 43,some 44,some 45,some 46,some 47,some 48,some 49,some 50,some 51,some 52,some 53] [] [true,true,true,true,true,true,true,true,true,true,true,true,true,true,true,true,true,true] 0 (by kernel_rfl) (by kernel_rfl) (by kernel_rfl) (by kernel_rfl) (by kernel_rfl) (by kernel_rfl) (by kernel_rfl) (by kernel_rfl) ?_ ?_
     ·intro i hi hl;have hi':i=0∨i=1∨i=2∨i=3∨i=4∨i=5∨i=6∨i=7∨i=8∨i=9∨i=10∨i=11∨i=12∨i=13∨i=14∨i=15∨i=16∨i=17:=by have h9:i < 18:=hi; omega
      clear hi
      rcases hi' with rfl | rfl | rfl | rfl | rfl | rfl | rfl | rfl | rfl | rfl | rfl | rfl | rfl | rfl | rfl | rfl | rfl | rfl
      ·clear hl;refine stp rfl ?_;intro ac wi eI hB hA K hK;have o0:=hB 0 (by kernel_rfl);simp only [List.getElem?_toArray,List.getElem?_cons_succ,List.getElem?_cons_zero] at o0;clear hB hA;go_simp;exact hK.out _ _ (Ext.refl _) rfl
      ·clear hl;refine stp rfl ?_;intro ac wi eI hB hA K hK;have o5:=hB 5 (by kernel_rfl);simp only [List.getElem?_toArray,List.getElem?_cons_succ,List.getElem?_cons_zero] at o5;clear hB hA;go_simp;exact hK.out _ _ (Ext.refl _) rfl
      ·clear hl;refine stp rfl ?_;intro ac wi eI hB hA K hK;obtain⟨_,s36,rfl⟩:=hA 0 (by kernel_rfl) 36 rfl;obtain⟨_,s37,rfl⟩:=hA 1 (by kernel_rfl) 37 rfl;clear hB hA;go_simp;exact hK.out _ _ (Ext.refl _) rfl
      ·clear hl;refine stp rfl ?_;intro ac wi eI hB hA K hK;obtain⟨_,s38,rfl⟩:=hA 2 (by kernel_rfl) 38 rfl;clear hB hA;have cc0:=eI.cell p1;go_simp;exact hK.out _ _ (Ext.refl _) rfl
      ·clear hl;refine stp rfl ?_;intro ac wi eI hB hA K hK;obtain⟨_,s39,rfl⟩:=hA 3 (by kernel_rfl) 39 rfl;clear hB hA;go_simp;exact hK.out _ _ (Ext.refl _) rfl
      ·clear hl;refine stp rfl ?_;intro ac wi eI hB hA K hK;have o0:=hB 0 (by kernel_rfl);simp only [List.getElem?_toArray,List.getElem?_cons_succ,List.getElem?_cons_zero] at o0;clear hB hA;go_simp;exact hK.out _ _ (Ext.refl _) rfl
      ·clear hl;refine stp rfl ?_;intro ac wi eI hB hA K hK;obtain⟨_,s41,rfl⟩:=hA 5 (by kernel_rfl) 41 rfl;clear hB hA;go_simp;exact hK.out _ _ (Ext.refl _) rfl
      ·clear hl;refine stp rfl ?_;intro ac wi eI hB hA K hK;obtain⟨_,s42,rfl⟩:=hA 6 (by kernel_rfl) 42 rfl;clear hB hA;have cc0:=eI.cell p0;go_simp;exact hK.out _ _ (Ext.refl _) rfl
      ·clear hl;refine stp rfl ?_;intro ac wi eI hB hA K hK;obtain⟨_,s43,rfl⟩:=hA 7 (by kernel_rfl) 43 rfl;clear hB hA;go_simp;exact hK.out _ _ (Ext.refl _) rfl
      ·clear hl;refine stp rfl ?_;intro ac wi eI hB hA K hK;obtain⟨_,s40,rfl⟩:=hA 4 (by kernel_rfl) 40 rfl;obtain⟨_,s44,rfl⟩:=hA 8 (by kernel_rfl) 44 rfl;clear hB hA;go_simp;exact hK.out _ _ (Ext.refl _) rfl
      ·clear hl;refine stp rfl ?_;intro ac wi eI hB hA K hK;obtain⟨_,s45,rfl⟩:=hA 9 (by kernel_rfl) 45 rfl;clear hB hA;go_simp;exact hK.out _ _ (Ext.refl _) rfl
      ·clear hl;refine stp rfl ?_;intro ac wi eI hB hA K hK;obtain⟨_,s46,rfl⟩:=hA 10 (by kernel_rfl) 46 rfl;have o0:=hB 0 (by kernel_rfl);simp only [List.getElem?_toArray,List.getElem?_cons_succ,List.getElem?_cons_zero] at o0;clear hB hA;rw [if_pos (by simp [Region.wanted,yielded,s46])];go_simp;exact hK.out _ _ (Ext.refl _) rfl
      ·clear hl;refine stp rfl ?_;intro ac wi eI hB hA K hK;obtain⟨_,s46,rfl⟩:=hA 10 (by kernel_rfl) 46 rfl;have o5:=hB 5 (by kernel_rfl);simp only [List.getElem?_toArray,List.getElem?_cons_succ,List.getElem?_cons_zero] at o5;clear hB hA;rw [if_pos (by simp [Region.wanted,yielded,s46])];go_simp;exact hK.out _ _ (Ext.refl _) rfl
      ·clear hl;refine stp rfl ?_;intro ac wi eI hB hA K hK;obtain⟨_,s46,rfl⟩:=hA 10 (by kernel_rfl) 46 rfl;obtain⟨_,s47,rfl⟩:=hA 11 (by kernel_rfl) 47 rfl;obtain⟨_,s48,rfl⟩:=hA 12 (by kernel_rfl) 48 rfl;clear hB hA;rw [if_pos (by simp [Region.wanted,yielded,s46])];go_simp;exact hK.out _ _ (Ext.refl _) rfl
      ·clear hl;refine stp rfl ?_;intro ac wi eI hB hA K hK;obtain⟨_,s46,rfl⟩:=hA 10 (by kernel_rfl) 46 rfl;obtain⟨_,s49,rfl⟩:=hA 13 (by kernel_rfl) 49 rfl;clear hB hA;rw [if_pos (by simp [Region.wanted,yielded,s46])];have cc0:=eI.cell p1;go_simp;exact hK.out _ _ (Ext.refl _) rfl
      ·clear hl;refine stp rfl ?_;intro ac wi eI hB hA K hK;obtain⟨_,s46,rfl⟩:=hA 10 (by kernel_rfl) 46 rfl;obtain⟨_,s50,rfl⟩:=hA 14 (by kernel_rfl) 50 rfl;clear hB hA;rw [if_pos (by simp [Region.wanted,yielded,s46])];go_simp;refine (r2_validList (LsR.ext hv eI) HSk.out).mono ?_;rw [←ho.out];rintro e wj ⟨rfl,ej⟩;go_wp2_with fail;exact hK.out _ _ ej rfl
      ·clear hl;refine stp rfl ?_;intro ac wi eI hB hA K hK;obtain⟨_,s46,rfl⟩:=hA 10 (by kernel_rfl) 46 rfl;obtain⟨_,s51,rfl⟩:=hA 15 (by kernel_rfl) 51 rfl;clear hB hA;rw [if_pos (by simp [Region.wanted,yielded,s46])];go_simp;exact hK.out _ _ (Ext.refl _) rfl
      ·clear hl;refine stp rfl ?_;intro ac wi eI hB hA K hK;obtain⟨_,s46,rfl⟩:=hA 10 (by kernel_rfl) 46 rfl;obtain⟨_,s52,rfl⟩:=hA 16 (by kernel_rfl) 52 rfl;clear hB hA;go_simp;exact hK.out _ _ (Ext.refl _) rfl
     intro vals wz eZ hJ;have J36:vals 0=(.slice (some ⟨b,off,none⟩) m c):=hJ 0 (by decide) (by decide);have J37:vals 1=(.int .i64 (k:Int)):=hJ 1 (by decide) (by decide);have J38:vals 2=(.pointer (some ⟨b,off+k,none⟩)):=hJ 2 (by decide) (by decide);have J39:vals 3=(.slice Ak Lk ck):=hJ 3 (by decide) (by decide);have J40:vals 4=(.int .i64 (Lk:Int)):=hJ 4 (by decide) (by decide);have J41:vals 5=(.slice (some ⟨b,off,none⟩) m c):=hJ 5 (by decide) (by decide);have J42:vals 6=(.pointer (some ⟨b,off,none⟩)):=hJ 6 (by decide) (by decide);have J43:vals 7=(.slice A0 Lk c0):=hJ 7 (by decide) (by decide);have J44:vals 8=(.int .i64 (Lk:Int)):=hJ 8 (by decide) (by decide);have J45:vals 9=(.bool false):=hJ 9 (by decide) (by decide);have J46:vals 10=(.bool false):=hJ 10 (by decide) (by decide);have J47:vals 11=(.slice (some ⟨b,off,none⟩) m c):=hJ 11 (by decide) (by decide);have J48:vals 12=(.int .i64 (k:Int)):=hJ 12 (by decide) (by decide);have J49:vals 13=(.pointer (some ⟨b,off+k,none⟩)):=hJ 13 (by decide) (by decide);have J50:vals 14=(.slice Ak Lk ck):=hJ 14 (by decide) (by decide);have J51:vals 15=(.bool true):=hJ 15 (by decide) (by decide);have J52:vals 16=(.bool false):=hJ 16 (by decide) (by decide);have J53:vals 17=(.bool false):=hJ 17 (by decide) (by decide);clear hJ;simp only [putAll,if_true,Bool.false_eq_true,if_false,Act.put,Nat.zero_add,Nat.reduceAdd,List.setIfInBounds_toArray,List.set_cons_zero,List.set_cons_succ,J36,J37,J38,J39,J40,J41,J42,J43,J44,J45,J46,J47,J48,J49,J50,J51,J52,J53]
     clear J36 J37 J38 J39 J40 J41 J42 J43 J44 J45 J46 J47 J48 J49 J50 J51 J52 J53;refine stepL_done (by kernel_rfl) ?_ _;replace hE:=hE.trans eZ;clear p0 p1;go_wp2;go_roundw
     case rel=>exact⟨k+1,by omega,by go_num,all_succ (p:=fun j=>(decide (L j=Lk) && allB (L j) (fun t=>okR (R j t)))=true) HA.out HO.out,hE⟩
     case measure=>simp [intOf]; omega
    | false =>
     subst ho';have HF:Hid (r=false):=by rw [Hid,HR.out]; exact allB_false hlt HO.out
     refine region_inv [Mn.eq (.slice (some ⟨b,off,none⟩) m c),Mn.eq (.int .i64 (k:Int)),Mn.eq (.pointer (some ⟨b,off+k,none⟩)),Mn.eq (.slice Ak Lk ck),Mn.eq (.int .i64 (Lk:Int)),Mn.eq (.slice (some ⟨b,off,none⟩) m c),Mn.eq (.pointer (some ⟨b,off,none⟩)),Mn.eq (.slice A0 Lk c0),Mn.eq (.int .i64 (Lk:Int)),Mn.eq (.bool false),Mn.eq (.bool false),Mn.eq (.slice (some ⟨b,off,none⟩) m c),Mn.eq (.int .i64 (k:Int)),Mn.eq (.pointer (some ⟨b,off+k,none⟩)),Mn.eq (.slice Ak Lk ck),Mn.eq (.bool false),Mn.eq (.bool true),Mn.eq (.bool true)] [some 36,some 37,some 38,some 39,some 40,some 41,some 42,some 43,some 44,some 45,some 46,some 47,some 48,some 49,some 50,some 51,some 52,some 53] [] [true,true,true,true,true,true,true,true,true,true,true,true,true,true,true,true,true,true] 0 (by kernel_rfl) (by kernel_rfl) (by kernel_rfl) (by kernel_rfl) (by kernel_rfl) (by kernel_rfl) (by kernel_rfl) (by kernel_rfl) ?_ ?_
     ·intro i hi hl;have hi':i=0∨i=1∨i=2∨i=3∨i=4∨i=5∨i=6∨i=7∨i=8∨i=9∨i=10∨i=11∨i=12∨i=13∨i=14∨i=15∨i=16∨i=17:=by have h9:i < 18:=hi; omega
      clear hi
      rcases hi' with rfl | rfl | rfl | rfl | rfl | rfl | rfl | rfl | rfl | rfl | rfl | rfl | rfl | rfl | rfl | rfl | rfl | rfl
      ·clear hl;refine stp rfl ?_;intro ac wi eI hB hA K hK;have o0:=hB 0 (by kernel_rfl);simp only [List.getElem?_toArray,List.getElem?_cons_succ,List.getElem?_cons_zero] at o0;clear hB hA;go_simp;exact hK.out _ _ (Ext.refl _) rfl
      ·clear hl;refine stp rfl ?_;intro ac wi eI hB hA K hK;have o5:=hB 5 (by kernel_rfl);simp only [List.getElem?_toArray,List.getElem?_cons_succ,List.getElem?_cons_zero] at o5;clear hB hA;go_simp;exact hK.out _ _ (Ext.refl _) rfl
      ·clear hl;refine stp rfl ?_;intro ac wi eI hB hA K hK;obtain⟨_,s36,rfl⟩:=hA 0 (by kernel_rfl) 36 rfl;obtain⟨_,s37,rfl⟩:=hA 1 (by kernel_rfl) 37 rfl;clear hB hA;go_simp;exact hK.out _ _ (Ext.refl _) rfl
      ·clear hl;refine stp rfl ?_;intro ac wi eI hB hA K hK;obtain⟨_,s38,rfl⟩:=hA 2 (by kernel_rfl) 38 rfl;clear hB hA;have cc0:=eI.cell p1;go_simp;exact hK.out _ _ (Ext.refl _) rfl
      ·clear hl;refine stp rfl ?_;intro ac wi eI hB hA K hK;obtain⟨_,s39,rfl⟩:=hA 3 (by kernel_rfl) 39 rfl;clear hB hA;go_simp;exact hK.out _ _ (Ext.refl _) rfl
      ·clear hl;refine stp rfl ?_;intro ac wi eI hB hA K hK;have o0:=hB 0 (by kernel_rfl);simp only [List.getElem?_toArray,List.getElem?_cons_succ,List.getElem?_cons_zero] at o0;clear hB hA;go_simp;exact hK.out _ _ (Ext.refl _) rfl
      ·clear hl;refine stp rfl ?_;intro ac wi eI hB hA K hK;obtain⟨_,s41,rfl⟩:=hA 5 (by kernel_rfl) 41 rfl;clear hB hA;go_simp;exact hK.out _ _ (Ext.refl _) rfl
      ·clear hl;refine stp rfl ?_;intro ac wi eI hB hA K hK;obtain⟨_,s42,rfl⟩:=hA 6 (by kernel_rfl) 42 rfl;clear hB hA;have cc0:=eI.cell p0;go_simp;exact hK.out _ _ (Ext.refl _) rfl
      ·clear hl;refine stp rfl ?_;intro ac wi eI hB hA K hK;obtain⟨_,s43,rfl⟩:=hA 7 (by kernel_rfl) 43 rfl;clear hB hA;go_simp;exact hK.out _ _ (Ext.refl _) rfl
      ·clear hl;refine stp rfl ?_;intro ac wi eI hB hA K hK;obtain⟨_,s40,rfl⟩:=hA 4 (by kernel_rfl) 40 rfl;obtain⟨_,s44,rfl⟩:=hA 8 (by kernel_rfl) 44 rfl;clear hB hA;go_simp;exact hK.out _ _ (Ext.refl _) rfl
      ·clear hl;refine stp rfl ?_;intro ac wi eI hB hA K hK;obtain⟨_,s45,rfl⟩:=hA 9 (by kernel_rfl) 45 rfl;clear hB hA;go_simp;exact hK.out _ _ (Ext.refl _) rfl
      ·clear hl;refine stp rfl ?_;intro ac wi eI hB hA K hK;obtain⟨_,s46,rfl⟩:=hA 10 (by kernel_rfl) 46 rfl;have o0:=hB 0 (by kernel_rfl);simp only [List.getElem?_toArray,List.getElem?_cons_succ,List.getElem?_cons_zero] at o0;clear hB hA;rw [if_pos (by simp [Region.wanted,yielded,s46])];go_simp;exact hK.out _ _ (Ext.refl _) rfl
      ·clear hl;refine stp rfl ?_;intro ac wi eI hB hA K hK;obtain⟨_,s46,rfl⟩:=hA 10 (by kernel_rfl) 46 rfl;have o5:=hB 5 (by kernel_rfl);simp only [List.getElem?_toArray,List.getElem?_cons_succ,List.getElem?_cons_zero] at o5;clear hB hA;rw [if_pos (by simp [Region.wanted,yielded,s46])];go_simp;exact hK.out _ _ (Ext.refl _) rfl
      ·clear hl;refine stp rfl ?_;intro ac wi eI hB hA K hK;obtain⟨_,s46,rfl⟩:=hA 10 (by kernel_rfl) 46 rfl;obtain⟨_,s47,rfl⟩:=hA 11 (by kernel_rfl) 47 rfl;obtain⟨_,s48,rfl⟩:=hA 12 (by kernel_rfl) 48 rfl;clear hB hA;rw [if_pos (by simp [Region.wanted,yielded,s46])];go_simp;exact hK.out _ _ (Ext.refl _) rfl
      ·clear hl;refine stp rfl ?_;intro ac wi eI hB hA K hK;obtain⟨_,s46,rfl⟩:=hA 10 (by kernel_rfl) 46 rfl;obtain⟨_,s49,rfl⟩:=hA 13 (by kernel_rfl) 49 rfl;clear hB hA;rw [if_pos (by simp [Region.wanted,yielded,s46])];have cc0:=eI.cell p1;go_simp;exact hK.out _ _ (Ext.refl _) rfl
      ·clear hl;refine stp rfl ?_;intro ac wi eI hB hA K hK;obtain⟨_,s46,rfl⟩:=hA 10 (by kernel_rfl) 46 rfl;obtain⟨_,s50,rfl⟩:=hA 14 (by kernel_rfl) 50 rfl;clear hB hA;rw [if_pos (by simp [Region.wanted,yielded,s46])];go_simp;refine (r2_validList (LsR.ext hv eI) HSk.out).mono ?_;rw [←ho.out];rintro e wj ⟨rfl,ej⟩;go_wp2_with fail;exact hK.out _ _ ej rfl
      ·clear hl;refine stp rfl ?_;intro ac wi eI hB hA K hK;obtain⟨_,s46,rfl⟩:=hA 10 (by kernel_rfl) 46 rfl;obtain⟨_,s51,rfl⟩:=hA 15 (by kernel_rfl) 51 rfl;clear hB hA;rw [if_pos (by simp [Region.wanted,yielded,s46])];go_simp;exact hK.out _ _ (Ext.refl _) rfl
      ·clear hl;refine stp rfl ?_;intro ac wi eI hB hA K hK;obtain⟨_,s46,rfl⟩:=hA 10 (by kernel_rfl) 46 rfl;obtain⟨_,s52,rfl⟩:=hA 16 (by kernel_rfl) 52 rfl;clear hB hA;go_simp;exact hK.out _ _ (Ext.refl _) rfl
     intro vals wz eZ hJ;have J36:vals 0=(.slice (some ⟨b,off,none⟩) m c):=hJ 0 (by decide) (by decide);have J37:vals 1=(.int .i64 (k:Int)):=hJ 1 (by decide) (by decide);have J38:vals 2=(.pointer (some ⟨b,off+k,none⟩)):=hJ 2 (by decide) (by decide);have J39:vals 3=(.slice Ak Lk ck):=hJ 3 (by decide) (by decide);have J40:vals 4=(.int .i64 (Lk:Int)):=hJ 4 (by decide) (by decide);have J41:vals 5=(.slice (some ⟨b,off,none⟩) m c):=hJ 5 (by decide) (by decide);have J42:vals 6=(.pointer (some ⟨b,off,none⟩)):=hJ 6 (by decide) (by decide);have J43:vals 7=(.slice A0 Lk c0):=hJ 7 (by decide) (by decide);have J44:vals 8=(.int .i64 (Lk:Int)):=hJ 8 (by decide) (by decide);have J45:vals 9=(.bool false):=hJ 9 (by decide) (by decide);have J46:vals 10=(.bool false):=hJ 10 (by decide) (by decide);have J47:vals 11=(.slice (some ⟨b,off,none⟩) m c):=hJ 11 (by decide) (by decide);have J48:vals 12=(.int .i64 (k:Int)):=hJ 12 (by decide) (by decide);have J49:vals 13=(.pointer (some ⟨b,off+k,none⟩)):=hJ 13 (by decide) (by decide);have J50:vals 14=(.slice Ak Lk ck):=hJ 14 (by decide) (by decide);have J51:vals 15=(.bool false):=hJ 15 (by decide) (by decide);have J52:vals 16=(.bool true):=hJ 16 (by decide) (by decide);have J53:vals 17=(.bool true):=hJ 17 (by decide) (by decide);clear hJ;simp only [putAll,if_true,Bool.false_eq_true,if_false,Act.put,Nat.zero_add,Nat.reduceAdd,List.setIfInBounds_toArray,List.set_cons_zero,List.set_cons_succ,J36,J37,J38,J39,J40,J41,J42,J43,J44,J45,J46,J47,J48,J49,J50,J51,J52,J53]
     clear J36 J37 J38 J39 J40 J41 J42 J43 J44 J45 J46 J47 J48 J49 J50 J51 J52 J53;refine stepL_done (by kernel_rfl) ?_ _;replace hE:=hE.trans eZ;clear p0 p1;go_wp2;go_ret;exact⟨ret_bool HF.out.symm,hE⟩
   ·have HF:Hid (r=false):=by
     rw [Hid,HR.out];exact allB_false hlt (by rw [←hLk.out,decide_eq_false heq]; rfl)
    have t1:((Lk:Int) == (L0:Int))=false:=by rw [beq_eq_false_iff_ne]; omega
    have t2:((Lk:Int) != (L0:Int))=true:=by simpa using t1
    clear heq;go_upto_region 6 with (fail);refine region_inv [Mn.eq (.slice (some ⟨b,off,none⟩) m c),Mn.eq (.int .i64 (k:Int)),Mn.eq (.pointer (some ⟨b,off+k,none⟩)),Mn.eq (.slice Ak Lk ck),Mn.eq (.int .i64 (Lk:Int)),Mn.eq (.slice (some ⟨b,off,none⟩) m c),Mn.eq (.pointer (some ⟨b,off,none⟩)),Mn.eq (.slice A0 L0 c0),Mn.eq (.int .i64 (L0:Int)),Mn.eq (.bool true),Mn.eq (.bool true),Mn.eq undef,Mn.eq undef,Mn.eq undef,Mn.eq undef,Mn.eq undef,Mn.eq undef,Mn.eq (.bool true)] [some 36,some 37,some 38,some 39,some 40,some 41,some 42,some 43,some 44,some 45,some 46,some 47,some 48,some 49,some 50,some 51,some 52,some 53] [] [true,true,true,true,true,true,true,true,true,true,true,true,true,true,true,true,true,true] 0 (by kernel_rfl) (by kernel_rfl) (by kernel_rfl) (by kernel_rfl) (by kernel_rfl) (by kernel_rfl) (by kernel_rfl) (by kernel_rfl) ?_ ?_
    ·intro i hi hl;have hi':i=0∨i=1∨i=2∨i=3∨i=4∨i=5∨i=6∨i=7∨i=8∨i=9∨i=10∨i=11∨i=12∨i=13∨i=14∨i=15∨i=16∨i=17:=by have h9:i < 18:=hi; omega
     clear hi
     rcases hi' with rfl | rfl | rfl | rfl | rfl | rfl | rfl | rfl | rfl | rfl | rfl | rfl | rfl | rfl | rfl | rfl | rfl | rfl
     ·clear hl;refine stp rfl ?_;intro ac wi eI hB hA K hK;have o0:=hB 0 (by kernel_rfl);simp only [List.getElem?_toArray,List.getElem?_cons_succ,List.getElem?_cons_zero] at o0;clear hB hA;go_simp;exact hK.out _ _ (Ext.refl _) rfl
     ·clear hl;refine stp rfl ?_;intro ac wi eI hB hA K hK;have o5:=hB 5 (by kernel_rfl);simp only [List.getElem?_toArray,List.getElem?_cons_succ,List.getElem?_cons_zero] at o5;clear hB hA;go_simp;exact hK.out _ _ (Ext.refl _) rfl
     ·clear hl;refine stp rfl ?_;intro ac wi eI hB hA K hK;obtain⟨_,s36,rfl⟩:=hA 0 (by kernel_rfl) 36 rfl;obtain⟨_,s37,rfl⟩:=hA 1 (by kernel_rfl) 37 rfl;clear hB hA;go_simp;exact hK.out _ _ (Ext.refl _) rfl
     ·clear hl;refine stp rfl ?_;intro ac wi eI hB hA K hK;obtain⟨_,s38,rfl⟩:=hA 2 (by kernel_rfl) 38 rfl;clear hB hA;have cc0:=eI.cell p1;go_simp;exact hK.out _ _ (Ext.refl _) rfl
     ·clear hl;refine stp rfl ?_;intro ac wi eI hB hA K hK;obtain⟨_,s39,rfl⟩:=hA 3 (by kernel_rfl) 39 rfl;clear hB hA;go_simp;exact hK.out _ _ (Ext.refl _) rfl
     ·clear hl;refine stp rfl ?_;intro ac wi eI hB hA K hK;have o0:=hB 0 (by kernel_rfl);simp only [List.getElem?_toArray,List.getElem?_cons_succ,List.getElem?_cons_zero] at o0;clear hB hA;go_simp;exact hK.out _ _ (Ext.refl _) rfl
     ·clear hl;refine stp rfl ?_;intro ac wi eI hB hA K hK;obtain⟨_,s41,rfl⟩:=hA 5 (by kernel_rfl) 41 rfl;clear hB hA;go_simp;exact hK.out _ _ (Ext.refl _) rfl
     ·clear hl;refine stp rfl ?_;intro ac wi eI hB hA K hK;obtain⟨_,s42,rfl⟩:=hA 6 (by kernel_rfl) 42 rfl;clear hB hA;have cc0:=eI.cell p0;go_simp;exact hK.out _ _ (Ext.refl _) rfl
     ·clear hl;refine stp rfl ?_;intro ac wi eI hB hA K hK;obtain⟨_,s43,rfl⟩:=hA 7 (by kernel_rfl) 43 rfl;clear hB hA;go_simp;exact hK.out _ _ (Ext.refl _) rfl
     ·clear hl;refine stp rfl ?_;intro ac wi eI hB hA K hK;obtain⟨_,s40,rfl⟩:=hA 4 (by kernel_rfl) 40 rfl;obtain⟨_,s44,rfl⟩:=hA 8 (by kernel_rfl) 44 rfl;clear hB hA;go_simp;exact hK.out _ _ (Ext.refl _) rfl
     ·clear hl;refine stp rfl ?_;intro ac wi eI hB hA K hK;obtain⟨_,s45,rfl⟩:=hA 9 (by kernel_rfl) 45 rfl;clear hB hA;go_simp;exact hK.out _ _ (Ext.refl _) rfl
     ·clear hl;refine stp rfl ?_;intro ac wi eI hB hA K hK;obtain⟨_,s46,rfl⟩:=hA 10 (by kernel_rfl) 46 rfl;clear hB hA;rw [if_neg (by simp [Region.wanted,yielded,s46,undef])];exact hK.out _ _ (Ext.refl _) rfl
     ·clear hl;refine stp rfl ?_;intro ac wi eI hB hA K hK;obtain⟨_,s46,rfl⟩:=hA 10 (by kernel_rfl) 46 rfl;clear hB hA;rw [if_neg (by simp [Region.wanted,yielded,s46,undef])];exact hK.out _ _ (Ext.refl _) rfl
     ·clear hl;refine stp rfl ?_;intro ac wi eI hB hA K hK;obtain⟨_,s46,rfl⟩:=hA 10 (by kernel_rfl) 46 rfl;clear hB hA;rw [if_neg (by simp [Region.wanted,yielded,s46,undef])];exact hK.out _ _ (Ext.refl _) rfl
     ·clear hl;refine stp rfl ?_;intro ac wi eI hB hA K hK;obtain⟨_,s46,rfl⟩:=hA 10 (by kernel_rfl) 46 rfl;clear hB hA;rw [if_neg (by simp [Region.wanted,yielded,s46,undef])];exact hK.out _ _ (Ext.refl _) rfl
     ·clear hl;refine stp rfl ?_;intro ac wi eI hB hA K hK;obtain⟨_,s46,rfl⟩:=hA 10 (by kernel_rfl) 46 rfl;clear hB hA;rw [if_neg (by simp [Region.wanted,yielded,s46,undef])];exact hK.out _ _ (Ext.refl _) rfl
     ·clear hl;refine stp rfl ?_;intro ac wi eI hB hA K hK;obtain⟨_,s46,rfl⟩:=hA 10 (by kernel_rfl) 46 rfl;clear hB hA;rw [if_neg (by simp [Region.wanted,yielded,s46,undef])];exact hK.out _ _ (Ext.refl _) rfl
     ·clear hl;refine stp rfl ?_;intro ac wi eI hB hA K hK;obtain⟨_,s46,rfl⟩:=hA 10 (by kernel_rfl) 46 rfl;obtain⟨_,s52,rfl⟩:=hA 16 (by kernel_rfl) 52 rfl;clear hB hA;go_simp;exact hK.out _ _ (Ext.refl _) rfl
    intro vals wz eZ hJ;have J36:vals 0=(.slice (some ⟨b,off,none⟩) m c):=hJ 0 (by decide) (by decide);have J37:vals 1=(.int .i64 (k:Int)):=hJ 1 (by decide) (by decide);have J38:vals 2=(.pointer (some ⟨b,off+k,none⟩)):=hJ 2 (by decide) (by decide);have J39:vals 3=(.slice Ak Lk ck):=hJ 3 (by decide) (by decide);have J40:vals 4=(.int .i64 (Lk:Int)):=hJ 4 (by decide) (by decide);have J41:vals 5=(.slice (some ⟨b,off,none⟩) m c):=hJ 5 (by decide) (by decide);have J42:vals 6=(.pointer (some ⟨b,off,none⟩)):=hJ 6 (by decide) (by decide);have J43:vals 7=(.slice A0 L0 c0):=hJ 7 (by decide) (by decide);have J44:vals 8=(.int .i64 (L0:Int)):=hJ 8 (by decide) (by decide);have J45:vals 9=(.bool true):=hJ 9 (by decide) (by decide);have J46:vals 10=(.bool true):=hJ 10 (by decide) (by decide);have J47:vals 11=undef:=hJ 11 (by decide) (by decide);have J48:vals 12=undef:=hJ 12 (by decide) (by decide);have J49:vals 13=undef:=hJ 13 (by decide) (by decide);have J50:vals 14=undef:=hJ 14 (by decide) (by decide);have J51:vals 15=undef:=hJ 15 (by decide) (by decide);have J52:vals 16=undef:=hJ 16 (by decide) (by decide);have J53:vals 17=(.bool true):=hJ 17 (by decide) (by decide);clear hJ;simp only [putAll,if_true,Bool.false_eq_true,if_false,Act.put,Nat.zero_add,Nat.reduceAdd,List.setIfInBounds_toArray,List.set_cons_zero,List.set_cons_succ,J36,J37,J38,J39,J40,J41,J42,J43,J44,J45,J46,J47,J48,J49,J50,J51,J52,J53]
    clear J36 J37 J38 J39 J40 J41 J42 J43 J44 J45 J46 J47 J48 J49 J50 J51 J52 J53;refine stepL_done (by kernel_rfl) ?_ _;replace hE:=hE.trans eZ;clear p0 p1;go_wp2;go_ret;exact⟨ret_bool HF.out.symm,hE⟩
  ·have HF:Hid (r=true):=by rw [Hid,HR.out]; exact allB_true.2 (fun j hj=>HA.out j (by omega))
   clear P0;go_wp2;go_ret;exact⟨ret_bool HF.out.symm,hE⟩
set_option maxRecDepth 100000 in
theorem sl_eqBools {w:World} {v u:Value} {n:Nat} {b:Nat→Bool} (h:BlV w v n b) (h':BlV w u n b) :
  Calls Tryz.prog 41 #[v,u] w (RetV w (.bool true)):=by
 obtain⟨A1,c1,rfl,hc1,hm1⟩:=h.form;obtain⟨A2,c2,rfl,hc2,hm2⟩:=h'.form;unfold maxLen at hm1 hm2;go_enter Tryz.func41,Tryz.ntmps41;go_wp2
 go_loopw [13] (fun i wr=>∃ k:Nat,k≤n∧i=.int .i64 k∧Ext w wr) (fun i _=>n - (intOf i).toNat)
 case atStart=>exact⟨0,Nat.zero_le _,rfl,Ext.refl w⟩
 case round =>
  obtain⟨k,hk,rfl,hE⟩:=hrel
  by_cases hlt:k < n
  ·obtain⟨g1,o1,rfl,hx1⟩:=h.addr (by omega);obtain⟨g2,o2,rfl,hx2⟩:=h'.addr (by omega);have p0:=hE.cell (hx1 k hlt);have q0:=hE.cell (hx2 k hlt);obtain⟨tk,htk⟩:=hid_eq (b k);rw [←htk.out] at p0 q0;clear hx1 hx2 h h';go_upto_region 6 with (fail);refine region_inv [Mn.eq (.slice (some ⟨g1,o1,none⟩) n c1),Mn.eq (.int .i64 (k:Int)),Mn.eq (.pointer (some ⟨g1,o1+k,none⟩)),Mn.eq (.bool tk),Mn.eq (.slice (some ⟨g2,o2,none⟩) n c2),Mn.eq (.int .i64 (k:Int)),Mn.eq (.pointer (some ⟨g2,o2+k,none⟩)),Mn.eq (.bool tk),Mn.eq (.bool false)] [some 16,some 17,some 18,some 19,some 20,some 21,some 22,some 23,some 24] [] [true,true,true,true,true,true,true,true,true] 0 (by kernel_rfl) (by kernel_rfl) (by kernel_rfl) (by kernel_rfl) (by kernel_rfl) (by kernel_rfl) (by kernel_rfl) (by kernel_rfl) ?_ ?_
   ·intro i hi hl;have hi':i=0∨i=1∨i=2∨i=3∨i=4∨i=5∨i=6∨i=7∨i=8:=by have h9:i < 9:=hi; omega
    clear hi
    rcases hi' with rfl | rfl | rfl | rfl | rfl | rfl | rfl | rfl | rfl
    ·clear hl;refine stp rfl ?_;intro ac wi eI hB hA K hK;have o0:=hB 0 (by kernel_rfl);simp only [List.getElem?_toArray,List.getElem?_cons_succ,List.getElem?_cons_zero] at o0;clear hB hA;go_simp;exact hK.out _ _ (Ext.refl _) rfl
    ·clear hl;refine stp rfl ?_;intro ac wi eI hB hA K hK;have o5:=hB 5 (by kernel_rfl);simp only [List.getElem?_toArray,List.getElem?_cons_succ,List.getElem?_cons_zero] at o5;clear hB hA;go_simp;exact hK.out _ _ (Ext.refl _) rfl
    ·clear hl;refine stp rfl ?_;intro ac wi eI hB hA K hK;obtain⟨_,s16,rfl⟩:=hA 0 (by kernel_rfl) 16 rfl;obtain⟨_,s17,rfl⟩:=hA 1 (by kernel_rfl) 17 rfl;clear hB hA;go_simp;exact hK.out _ _ (Ext.refl _) rfl
    ·clear hl;refine stp rfl ?_;intro ac wi eI hB hA K hK;obtain⟨_,s18,rfl⟩:=hA 2 (by kernel_rfl) 18 rfl;clear hB hA;have cc0:=eI.cell p0;go_simp;exact hK.out _ _ (Ext.refl _) rfl
    ·clear hl;refine stp rfl ?_;intro ac wi eI hB hA K hK;have o1:=hB 1 (by kernel_rfl);simp only [List.getElem?_toArray,List.getElem?_cons_succ,List.getElem?_cons_zero] at o1;clear hB hA;go_simp;exact hK.out _ _ (Ext.refl _) rfl
    ·clear hl;refine stp rfl ?_;intro ac wi eI hB hA K hK;have o5:=hB 5 (by kernel_rfl);simp only [List.getElem?_toArray,List.getElem?_cons_succ,List.getElem?_cons_zero] at o5;clear hB hA;go_simp;exact hK.out _ _ (Ext.refl _) rfl
    ·clear hl;refine stp rfl ?_;intro ac wi eI hB hA K hK;obtain⟨_,s20,rfl⟩:=hA 4 (by kernel_rfl) 20 rfl;obtain⟨_,s21,rfl⟩:=hA 5 (by kernel_rfl) 21 rfl;clear hB hA;go_simp;exact hK.out _ _ (Ext.refl _) rfl
    ·clear hl;refine stp rfl ?_;intro ac wi eI hB hA K hK;obtain⟨_,s22,rfl⟩:=hA 6 (by kernel_rfl) 22 rfl;clear hB hA;have cc0:=eI.cell q0;go_simp;exact hK.out _ _ (Ext.refl _) rfl
    ·clear hl;refine stp rfl ?_;intro ac wi eI hB hA K hK;obtain⟨_,s19,rfl⟩:=hA 3 (by kernel_rfl) 19 rfl;obtain⟨_,s23,rfl⟩:=hA 7 (by kernel_rfl) 23 rfl;clear hB hA;go_simp;exact hK.out _ _ (Ext.refl _) rfl
   intro vals wz eZ hJ;have J16:vals 0=(.slice (some ⟨g1,o1,none⟩) n c1):=hJ 0 (by decide) (by decide);have J17:vals 1=(.int .i64 (k:Int)):=hJ 1 (by decide) (by decide);have J18:vals 2=(.pointer (some ⟨g1,o1+k,none⟩)):=hJ 2 (by decide) (by decide);have J19:vals 3=(.bool tk):=hJ 3 (by decide) (by decide);have J20:vals 4=(.slice (some ⟨g2,o2,none⟩) n c2):=hJ 4 (by decide) (by decide);have J21:vals 5=(.int .i64 (k:Int)):=hJ 5 (by decide) (by decide);have J22:vals 6=(.pointer (some ⟨g2,o2+k,none⟩)):=hJ 6 (by decide) (by decide);have J23:vals 7=(.bool tk):=hJ 7 (by decide) (by decide);have J24:vals 8=(.bool false):=hJ 8 (by decide) (by decide);clear hJ;simp only [putAll,if_true,Bool.false_eq_true,if_false,Act.put,Nat.zero_add,Nat.reduceAdd,List.setIfInBounds_toArray,List.set_cons_zero,List.set_cons_succ,J16,J17,J18,J19,J20,J21,J22,J23,J24];clear J16 J17 J18 J19 J20 J21 J22 J23 J24;refine stepL_done (by kernel_rfl) ?_ _;replace hE:=hE.trans eZ;clear p0 q0;go_wp2;go_roundw
   case rel=>exact⟨k+1,by omega,by go_num,hE⟩
   case measure=>simp [intOf]; omega
  ·go_wp2;go_ret;exact⟨rfl,hE⟩
variable {m n:Nat} {X T:Nat→Nat→Rat} {y p s:Nat→Rat} {k:Rat}
theorem Md.changed (d:Md m n X y p) (hX:HtM m n 17 X) (hy:HtL m 17 y) (hp:HtL m 17 p) (hT:HtM n n 17 T) (hs:HtL n 17 s) (hk:Ht 180 k) (hk0:0 < k) :
  Md m n (mm n X T) (fun i=>y i+av n X s i) (fun i=>k*p i):=by
 refine⟨d.m0,d.m7,d.n0,d.n4,fun i hi=>Rat.mul_pos hk0 (d.pos i hi),fun i hi c hc=>?_,fun i hi=>?_,fun i hi=>(hk.mul (hp i hi)).mono (by omega)⟩
 ·exact (sum_ht (n:=n) (k:=34) (K:=141) (x:=fun t=>X i t*T t c) (fun t ht=>(hX i hi t ht).mul (hT t ht c hc)) (Nat.le_refl _) (by have:=d.n4; omega)).mono (by omega)
 ·exact ((hy i hi).add (sum_ht (n:=n) (k:=34) (K:=141) (x:=fun t=>X i t*s t) (fun t ht=>(hX i hi t ht).mul (hs t ht)) (Nat.le_refl _) (by have:=d.n4; omega))).mono (by omega)
theorem reg_changed (hpos:∀ i,i < m→0 < p i) (hr:Reg n (nmat X p m)) (hT:Reg n T) (hk0:0 < k):Reg n (nmat (mm n X T) (fun i=>k*p i) m):=by
 rw [reg_nm] at hr ⊢;intro x hx c hc;have h1:=normal_zero (fun i hi=>Rat.mul_pos hk0 (hpos i hi)) hx
 have h2:∀ c,c < n→av n T x c=0:=hr _ (fun a ha=>by
  rw [nm_av]
  exact sum_eq_zero fun j hj=>by
   have h3:=h1 j hj;rw [av_mm2] at h3
   rw [h3]; grind)
 exact hT x h2 c hc
theorem changed_eq (d:Md m n X y p) (d':Md m n (mm n X T) (fun i=>y i+av n X s i) (fun i=>k*p i)) (hr:Reg n (nmat X p m)) (hr':Reg n (nmat (mm n X T) (fun i=>k*p i) m)) (hT:Reg n T) {i:Nat} (hi:i < m) :
  kS m n (mm n X T) (fun i=>k*p i) i=kS m n X p i∧zS m n (mm n X T) (fun i=>y i+av n X s i) (fun i=>k*p i) i=k*zS m n X y p i:=by
 obtain⟨h1,h2⟩:=(d.inv2 hr).change (d'.inv2 hr') (T:=T) (S:=invM n T) (k:=k) (s:=s) (fun _ _ _ _=>rfl) (regInv hT).2 (fun _ _=>rfl) (fun _ _=>rfl) (xS_nsol hr) (xS_nsol hr') hi;have h3:rS m n (mm n X T) (fun i=>k*p i) i=rS m n X p i:=h1;have h4:tS m n (mm n X T) (fun i=>y i+av n X s i) (fun i=>k*p i) i=k*tS m n X y p i:=h2;unfold kS zS;rw [h3,h4];refine⟨rfl,?_⟩
 split
 ·grind
 ·rfl
def Mn.rbk (N:Nat) (q:Rat):Mn:=⟨fun v w=>∃ g,v=.slice (some ⟨g,0,none⟩) 1 1∧BoxR N w g q,fun e h=>by
  obtain⟨g,h0,h1⟩:=h
  exact⟨g,h0,h1.ext e⟩⟩
theorem two_app {N base:Nat} {w w':World} {vL vP:Value} {m:Nat} {y:Nat→Rat} (hP:Grow N base w vP m y) (hd:∀ k,vL.ownBlock=some k→vP.ownBlock≠some k) {g g' cap k1:Nat} (c:Chg g' (g'+1) w w') (hN:N≤g') (o1:vL.ownBlock=some g'∨g'=w.heap.size) (o2:vL.ownBlock=some g∨g=w.heap.size) :
  Grow N base w' vP m y∧∀ k,(Value.slice (some ⟨g,0,none⟩) k1 cap).ownBlock=some k→vP.ownBlock≠some k:=by
 have nP:vP.ownBlock≠some g':=by
  rcases o1 with o1 | o1
  ·exact hd g' o1
  ·intro h9; have:=(grow_lt hP h9).2; omega
 have mP:vP.ownBlock≠some g:=by
  rcases o2 with o2 | o2
  ·exact hd g o2
  ·intro h9; have:=(grow_lt hP h9).2; omega
 refine⟨grow_chgB hP c hN nP,fun k hk=>?_⟩;obtain rfl:g=k:=by simpa [Value.ownBlock] using hk
 exact mP
theorem two_swap {vL vP:Value} (h:∀ k,vL.ownBlock=some k→vP.ownBlock≠some k):∀ k,vP.ownBlock=some k→vL.ownBlock≠some k:=fun k h1 h2=>h k h2 h1
end Go.Proofs.YthkkknjcoidioaaGreat
