import Derived.Test.YthkkknjcoidioaaGreatWb01
import Derived.Test.YthkkknjcoidioaaGreatWb02
import Derived.Test.YthkkknjcoidioaaGreatWb03
import Derived.Test.YthkkknjcoidioaaGreatWb04
import Derived.Test.YthkkknjcoidioaaGreatWb05
import Derived.Test.YthkkknjcoidioaaGreatWb06
import Derived.Test.YthkkknjcoidioaaGreatWb07
import Derived.Test.YthkkknjcoidioaaGreatWb08
import Derived.Test.YthkkknjcoidioaaGreatWb09
import Derived.Test.YthkkknjcoidioaaGreatWb10
import Derived.Test.YthkkknjcoidioaaGreatWb11
import Derived.Test.YthkkknjcoidioaaGreatWb12
import Derived.Test.YthkkknjcoidioaaGreatWb13
import Derived.Test.YthkkknjcoidioaaGreatWb14
import Derived.Test.YthkkknjcoidioaaGreatWb15
import Derived.Test.YthkkknjcoidioaaGreatWb16
import Derived.Test.YthkkknjcoidioaaGreatWb17
import Derived.Test.YthkkknjcoidioaaGreatWb18
import Derived.Test.YthkkknjcoidioaaGreatWb19
import Derived.Test.YthkkknjcoidioaaGreatWb20
import Derived.Test.YthkkknjcoidioaaGreatWb21
import Derived.Test.YthkkknjcoidioaaGreatWb22
import Derived.Test.YthkkknjcoidioaaGreatWb23
import Derived.Test.YthkkknjcoidioaaGreatWb24
import Derived.Test.YthkkknjcoidioaaGreatWb25
import Derived.Test.YthkkknjcoidioaaGreatWb26
import Derived.Test.YthkkknjcoidioaaGreatWb27
import Derived.Test.YthkkknjcoidioaaGreatWb28
import Derived.Test.YthkkknjcoidioaaGreatWb29
import Derived.Test.YthkkknjcoidioaaGreatWb30
import Derived.Test.YthkkknjcoidioaaGreatWb31
import Derived.Test.YthkkknjcoidioaaGreatWb32
import Derived.Test.YthkkknjcoidioaaGreatWb33
import Derived.Test.YthkkknjcoidioaaGreatWb34
import Derived.Test.YthkkknjcoidioaaGreatWb35
import Derived.Test.YthkkknjcoidioaaGreatWb36
import Derived.Test.YthkkknjcoidioaaGreatWb37
import Derived.Test.YthkkknjcoidioaaGreatWb38
import Derived.Test.YthkkknjcoidioaaGreatWb39
import Derived.Test.YthkkknjcoidioaaGreatWb40
import Derived.Test.YthkkknjcoidioaaGreatWb41
import Derived.Test.YthkkknjcoidioaaGreatWb42
import Derived.Test.YthkkknjcoidioaaGreatWb46
import Derived.Deep.AppendLies
import Derived.WalkKit
import Derived.WalkSpells
import Derived.WalkLawsBesides
import Derived.Lib.Hide
import Derived.Deep.RegionHeld3
import Derived.Deep.QuietTactic
import Derived.BigQuiet
import Derived.Maps.AppendAt
import Derived.Deep.DeepCutAuto
import Derived.Deep.RegionWith
import Derived.Deep.DeepMust
import Derived.Deep.CutBlock
import Derived.OrdersIn
import Derived.RegionTactic
import Derived.RangeFuncNested
import Derived.RangeFuncBound
import Derived.RangeFuncCalls
import Derived.RangeFuncLeaves
import Derived.RangeFuncBox
import Derived.Shelf.Abstract
import Derived.OwnWalkIn
import Derived.TacticsInMore
import Derived.LoopNIn
import Derived.LoopIn
import Derived.Deep.RegionLaw
import Derived.Lib.SliceRun
import Derived.Laws.IdiomCopy
import Derived.Shelf.Bits.Mul64
import Derived.Laws.EntriesVeiled
import Derived.Deep.Slices
import Derived.Deep.Strs
import Derived.Lib.SmallJoins
import Derived.ProofKit
import Derived.OpenShut
import Derived.Below
import Derived.SizedLaws
set_option linter.all false
set_option maxHeartbeats 8000000
namespace Go.Proofs.YthkkknjcoidioaaGreat
def aug (n:Nat) (N:Nat→Nat→Rat) (b:Nat→Rat) (i c:Nat):Rat:=if c < n then N i c else b i
theorem aug_null {n:Nat} {N:Nat→Nat→Rat} {b x:Nat→Rat} (i:Nat):sum (n+1) (fun c=>aug n N b i c*(if c < n then x c else -1))=sum n (fun c=>N i c*x c) - b i:=by
 rw [sum_succ,sum_congr (g:=fun c=>N i c*x c) (fun c hc=>by unfold aug; rw [if_pos hc,if_pos hc])];unfold aug;rw [if_neg (Nat.lt_irrefl n),if_neg (Nat.lt_irrefl n)]
 grind
def sol (n:Nat) (M:Nat→Nat→Rat) (p:List Nat) (c:Nat):Rat:=sum p.length (fun s=>dlt (p[s]?.getD 0) c*M s n)
theorem sum_sol {n:Nat} {M:Nat→Nat→Rat} {p:List Nat} (hp:∀ s,s < p.length→p[s]?.getD 0 < n) (f:Nat→Rat):sum n (fun c=>f c*sol n M p c)=sum p.length (fun s=>f (p[s]?.getD 0)*M s n):=by
 unfold sol;have e:∀ c,f c*sum p.length (fun s=>dlt (p[s]?.getD 0) c*M s n)=sum p.length (fun s=>f c*(dlt (p[s]?.getD 0) c*M s n)):=fun c=>(sum_mul _ _ _).symm
 rw [sum_congr (fun c _=>e c),sum_comm];refine sum_congr fun s hs=>?_
 have e2:∀ c,f c*(dlt (p[s]?.getD 0) c*M s n)=dlt (p[s]?.getD 0) c*(f c*M s n):=fun c=>by grind
 rw [sum_congr (fun c _=>e2 c),sum_dlt (hp s hs) (fun c=>f c*M s n)]
theorem solve_ok {m n:Nat} {N M:Nat→Nat→Rat} {b:Nat→Rat} {p:List Nat} (h:Rref m (n+1) (aug n N b) M p) (hn:∀ s,s < p.length→p[s]?.getD 0≠n) :
  ∀ i,i < m→sum n (fun c=>N i c*sol n M p c)=b i:=by
 have hp:∀ s,s < p.length→p[s]?.getD 0 < n:=fun s hs=>by have:=h.low s hs; have:=hn s hs; omega
 have hz:∀ i,i < m→sum (n+1) (fun c=>M i c*(if c < n then sol n M p c else -1))=0:=by
  intro i hi;rw [sum_succ,if_neg (Nat.lt_irrefl n),sum_congr (g:=fun c=>M i c*sol n M p c) (fun c hc=>by rw [if_pos hc]),sum_sol hp];rw [sum_congr (g:=fun s=>dlt i s*M s n) (fun s hs=>by rw [h.unit s hs i hi])]
  rcases Nat.lt_or_ge i p.length with h1 | h1
  ·rw [sum_dlt h1 (fun s=>M s n)]; grind
  ·rw [h.zero i h1 hi n (by omega),sum_eq_zero (fun s hs=>by rw [dlt_ne (by omega)]; grind)]; grind
 intro i hi;have:=h.back.null hz i hi;rw [aug_null] at this
 grind
theorem solve_no {m n:Nat} {N M:Nat→Nat→Rat} {b:Nat→Rat} {p:List Nat} (h:Rref m (n+1) (aug n N b) M p) {s:Nat} (hs:s < p.length) (hn:p[s]?.getD 0=n) :
  ∃ y:Nat→Rat,(∀ c,c < n→sum m (fun i=>y i*N i c)=0)∧sum m (fun i=>y i*b i)=1:=by
 obtain⟨T,hT⟩:=h.there;have hsm:s < m:=Nat.lt_of_lt_of_le hs h.len;refine⟨T s,fun c hc=>?_,?_⟩
 ·have h1:=hT s hsm c;rw [h.left s hs c (by omega),mm] at h1;rw [h1];exact sum_congr fun k _=>by unfold aug; rw [if_pos hc]
 ·have h1:=hT s hsm n;have h2:=h.unit s hs s hsm;rw [hn,dlt_same] at h2;rw [h2,mm] at h1;rw [h1];exact sum_congr fun k _=>by unfold aug; rw [if_neg (Nat.lt_irrefl n)]
theorem reg_solve {n:Nat} {K:Nat→Nat→Rat} (hK:Reg n K) (b:Nat→Rat):(rref n (aug n K b) (n+1)).2.contains n=false∧∀ i,i < n→sum n (fun c=>K i c*sol n (rref n (aug n K b) (n+1)).1 (rref n (aug n K b) (n+1)).2 c)=b i:=by
 have hR:=rref_ok n (aug n K b) (n+1)
 have hno:∀ s,s < (rref n (aug n K b) (n+1)).2.length→(rref n (aug n K b) (n+1)).2[s]?.getD 0≠n:=by
  intro s hs he;obtain⟨y,h1,h2⟩:=solve_no hR hs he;obtain⟨h3,-⟩:=inv_ok (rref_ok n (besideI n K) n) ((inv_iff n K).2 hK)
  have hy:∀ c,c < n→y c=0:=by
   intro c hc
   have e:sum n (fun d=>sum n (fun i=>y i*K i d)*(rref n (besideI n K) n).1 d (n+c))=y c:=by
    have e1:sum n (fun d=>sum n (fun i=>y i*K i d)*(rref n (besideI n K) n).1 d (n+c))=sum n (fun i=>y i*mm n K (fun a b=>(rref n (besideI n K) n).1 a (n+b)) i c):=by
     rw [show sum n (fun d=>sum n (fun i=>y i*K i d)*(rref n (besideI n K) n).1 d (n+c))=sum n (fun d=>sum n (fun i=>y i*(K i d*(rref n (besideI n K) n).1 d (n+c)))) from sum_congr fun d _=>by rw [←sum_mul_right]; exact sum_congr fun i _=>by grind,sum_comm];exact sum_congr fun i _=>by unfold mm; rw [sum_mul]
    rw [e1,show sum n (fun i=>y i*mm n K (fun a b=>(rref n (besideI n K) n).1 a (n+b)) i c)=sum n (fun i=>y i*dlt i c) from sum_congr fun i hi=>by rw [h3 i hi c hc]];exact sum_dlt' hc y
   rw [←e];exact sum_eq_zero fun d hd=>by rw [h1 d hd]; grind
  rw [sum_eq_zero (fun i hi=>by rw [hy i hi]; grind)] at h2;exact absurd h2 (by decide)
 refine⟨?_,solve_ok hR hno⟩;cases hc:(rref n (aug n K b) (n+1)).2.contains n with
 | false=>rfl
 | true =>
  rw [List.contains_iff_mem] at hc;obtain⟨s,hs,he⟩:=List.getElem_of_mem hc;exact absurd (by rw [List.getElem?_eq_getElem hs]; simpa using he) (hno s hs)
theorem div_le_of {a b r:Rat} (hr:0 < r) (h:a≤b*r):a / r≤b:=by
 have h0:r≠0:=fun e=>absurd hr (by rw [e]; decide)
 have h1:0≤(b*r - a) / r:=by
  rw [Rat.div_def];exact Rat.mul_nonneg (by grind) (Rat.le_of_lt (Rat.inv_pos.2 hr))
 have h2:(b*r - a) / r=b - a / r:=by grind
 rw [h2] at h1
 grind
theorem Inv2.fit {m n:Nat} {A Q:Nat→Nat→Rat} {P L x:Nat→Rat} (h:Inv2 m n A Q P) (hx:Nsol m n A P L x) {i:Nat} (hi:i < m):sum m (fun j=>gq n A Q i j*P j*L j)=av n A x i:=by
 obtain⟨hM,hl,hg⟩:=full_model h.pos h.kq h.qk;have h2:=fits_fit hM.rr h.pos hM.kx hx i hi;rw [←h2];exact sum_congr fun j _=>by rw [←hg]; rfl
def stt (n:Nat) (A Q:Nat→Nat→Rat) (P L x:Nat→Rat) (i:Nat):Rat:=P i*((av n A x i - L i)*(av n A x i - L i)) / rdn n A Q P i
theorem Inv2.single {m n:Nat} {A Q:Nat→Nat→Rat} {P L x x0:Nat→Rat} {e:Rat} (h:Inv2 m n A Q P) {i:Nat} (hi:i < m) (hL:∀ k,k < m→L k=(if k=i then av n A x0 k+e else av n A x0 k)) (hx:Nsol m n A P L x) (hri:rdn n A Q P i≠0) {k:Nat} (hk:k < m) (hrk:rdn n A Q P k≠0) :
  stt n A Q P L x k≤stt n A Q P L x i:=by
 have hv:∀ k,k < m→av n A x k=av n A x0 k+gq n A Q k i*P i*e:=by
  intro k hk;rw [←h.fit hx hk,←h.fix x0 hk,←sum_dlt' hi (fun j=>gq n A Q k j*P j*e),←sum_add];refine sum_congr fun j hj=>?_
  rw [hL j hj]
  by_cases e1:j=i
  ·subst e1; rw [if_pos rfl,dlt_same]; grind
  ·rw [if_neg e1,dlt_ne e1]; grind
 by_cases hki:k=i
 ·subst hki; exact Rat.le_refl
 have hcs:=h.cs hi hk (fun e=>hki e.symm) hri;have hpi:=h.pos i hi;have hrk0:0 < rdn n A Q P k:=by have:=(h.range hk).1; grind
 have hri0:0 < rdn n A Q P i:=by have:=(h.range hi).1; grind
 have s1:stt n A Q P L x i=P i*(e*e)*rdn n A Q P i:=by
  unfold stt;rw [hv i hi,hL i hi,if_pos rfl];have h9:av n A x0 i+gq n A Q i i*P i*e - (av n A x0 i+e) = - (e*rdn n A Q P i):=by unfold rdn; grind
  rw [h9]; grind
 have s2:stt n A Q P L x k=P i*(e*e)*(P k*(gq n A Q k i*gq n A Q k i)*P i) / rdn n A Q P k:=by
  unfold stt;rw [hv k hk,hL k hk,if_neg hki]
  congr 1
  grind
 rw [s1,s2];have h8:0≤P i*(e*e):=Rat.mul_nonneg (Rat.le_of_lt hpi) (sq_nonneg e);have h7:0≤P i*(e*e)*(rdn n A Q P i*rdn n A Q P k - P k*(gq n A Q k i*gq n A Q k i)*P i):=Rat.mul_nonneg h8 (by grind);refine div_le_of hrk0 ?_
 grind
end Go.Proofs.YthkkknjcoidioaaGreat
namespace Go.Proofs.YthkkknjcoidioaaGreat
open Go.RowKit
def nsv (n:Nat) (K:Nat→Nat→Rat) (b:Nat→Rat):Nat→Rat:=sol n (rref n (aug n K b) (n+1)).1 (rref n (aug n K b) (n+1)).2
end Go.Proofs.YthkkknjcoidioaaGreat
namespace Go.Proofs.YthkkknjcoidioaaGreat
theorem nsv_sum {n:Nat} {K:Nat→Nat→Rat} {b:Nat→Rat} (h:Reg n K):∀ i,i < n→sum n (fun c=>K i c*nsv n K b c)=b i:=(reg_solve h b).2
theorem nsv_nsol {m n:Nat} {X:Nat→Nat→Rat} {y p:Nat→Rat} (h:Reg n (nmat X p m)):Nsol m n X p y (nsv n (nmat X p m) (nrhs X y p m)):=by
 intro a ha;rw [sum_congr (fun b _=>by rw [←nmat_nm5]),nsv_sum h a ha];exact sum_congr fun t _=>by grind
theorem inv_apply {n:Nat} {K:Nat→Nat→Rat} (h:Reg n K) (b:Nat→Rat):∀ i,i < n→sum n (fun c=>invM n K i c*b c)=nsv n K b i:=by
 refine reg_unique h (b:=b) (fun i hi=>?_) (nsv_sum h)
 have e:sum n (fun c=>K i c*sum n (fun d=>invM n K c d*b d))=sum n (fun d=>mm n K (invM n K) i d*b d):=by
  unfold mm;rw [sum_congr (g:=fun c=>sum n (fun d=>K i c*invM n K c d*b d)) (fun c _=>by rw [←sum_mul]; exact sum_congr fun d _=>by grind),sum_comm];exact sum_congr fun d _=>by rw [sum_mul_right]
 rw [e,sum_congr (fun d hd=>by rw [(regInv h).2 i hi d hd])];exact sum_dlt hi b
end Go.Proofs.YthkkknjcoidioaaGreat
namespace Go.Proofs.YthkkknjcoidioaaGreat
open Go.RowKit
theorem shB_lsv {most n:Nat} {R:Nat→Raw} (h:shB most n R=true) (hok:allB n (fun i=>okR (R i))=true) {N lo hi:Nat} {w:World} {v:Value} (hv:LsR N lo hi w v n R) :
  LsV N lo hi w v n (fun i=>ratOf (R i))∧HtL n 17 (fun i=>ratOf (R i)):=by
 have hk:=allB_true.1 hok;refine⟨LsR.congr hv (fun i hi=>raw_ratOf (hk i hi)),fun i hi=>brief_ht ?_⟩;rw [←raw_ratOf (hk i hi)];exact (shB_all h).2 i hi
end Go.Proofs.YthkkknjcoidioaaGreat
namespace Go.Proofs.YthkkknjcoidioaaGreat
theorem tS_stt (m n:Nat) (X:Nat→Nat→Rat) (y p:Nat→Rat) (i:Nat):tS m n X y p i=stt n X (qS m n X p) p y (xS m n X y p) i:=rfl
theorem xS_nsv {m n:Nat} {X:Nat→Nat→Rat} {y p:Nat→Rat} (h:Reg n (nmat X p m)):∀ i,i < n→xS m n X y p i=nsv n (nmat X p m) (nrhs X y p m) i:=inv_apply h _
theorem xS_nsol {m n:Nat} {X:Nat→Nat→Rat} {y p:Nat→Rat} (h:Reg n (nmat X p m)):Nsol m n X p y (xS m n X y p):=by
 intro a ha;rw [←nsv_nsol h a ha];exact sum_congr fun b hb=>by rw [xS_nsv h b hb]
section
variable {m n:Nat} {X:Nat→Nat→Rat} {y p:Nat→Rat}
end
end Go.Proofs.YthkkknjcoidioaaGreat
namespace Go.Proofs.YthkkknjcoidioaaGreat
open Go.RowKit
theorem one_raw {N:Nat} {w:World} {g:Nat} {R:Raw} {s t:Value} (hN:N≤w.heap.size) (h:w.heap[g]?=some (.cells #[.bool R.b1,s,.bool R.b2,t] 36 (0,0))) (h1:Gs N w s R.l1) (h2:Gs N w t R.l2):LsR N 0 w.heap.size w (.slice (some ⟨g,0,none⟩) 1 1) 1 (fun _=>R):=by
 obtain⟨p0,p1,p2,p3,-⟩:=cells4 h;refine⟨hN,Nat.le_refl _,_,1,rfl,Nat.le_refl _,by unfold maxLen; omega,fun _=>⟨g,0,rfl,Nat.zero_le _,blk_lt h,fun i hi=>?_⟩⟩;obtain rfl:i=0:=by omega
 exact⟨s,t,p0,p1,p2,p3,h1,h2⟩
end Go.Proofs.YthkkknjcoidioaaGreat
namespace Go.Proofs.YthkkknjcoidioaaGreat
open Go.RowKit Go.ChangeShapes Go.ChangeAt
theorem cells_lin:Tryz.prog.cellsOf 26=3:=by kernel_rfl
section
variable {H:Type} {enc:TypeId×Value→H} {w:World} {spare:Nat→Bool} {held:Bool}
instance:Inhabited Raw:=⟨⟨false,[],false,[]⟩⟩
end
end Go.Proofs.YthkkknjcoidioaaGreat
namespace Go.Proofs.YthkkknjcoidioaaGreat
open Go.RowKit Go.ChangeShapes Go.ChangeAt Go.WideShapes
theorem mem_weightsAll {H:Type} {P:Program} {e:TypeId} {k:Nat} {d:DataW H}:∀ {ds:List (DataW H)},d∈ds→k∈d.weights P e→k∈DataW.weightsAll P e ds
 | [],h,_=>by cases h
 | d0 :: r,h,hk=>by
  unfold DataW.weightsAll;rw [List.mem_append]
  rcases List.mem_cons.1 h with rfl | h
  ·exact .inl hk
  ·exact .inr (mem_weightsAll h hk)
section
variable {H:Type} {enc:TypeId×Value→H} {w:World} {spare:Nat→Bool} {held:Bool}
theorem ls_of_trodW {n:Nat} {v:Value} {x:DataW H×List MemPlace} (h:DataW.trod enc Tryz.prog w 0 spare held n 24 [v]=some x) (hz:∀ k∈x.1.weights Tryz.prog 24,k≤reachBytes) :
  ∃ k R,LsR w.heap.size 0 w.heap.size w v k R∧∀ i,i < k→RawL (R i):=by
 rcases Go.Deep.open_slice Tryz.underlying24 h with ⟨hcs,-⟩ | ⟨a,len,cap,m,n',D,Pl,hcs,-,hl,hm,hmm,hxe,hx⟩
 ·simp only [List.cons.injEq,and_true] at hcs;subst hcs;exact⟨0,fun _=>default,⟨Nat.le_refl _,Nat.le_refl _,_,_,rfl,Nat.le_refl _,Nat.zero_le _,fun h0=>absurd h0 (by omega)⟩,fun i hi=>absurd hi (by omega)⟩
 ·simp only [List.cons.injEq,and_true] at hcs;subst hcs;have hlm:len≤m:=by rw [hmm]; split <;> omega
  rw [cells_rat] at hx
  rcases Nat.eq_zero_or_pos len with hl0 | hl0
  ·subst hl0;exact⟨0,fun _=>default,⟨Nat.le_refl _,Nat.le_refl _,_,_,rfl,hl,hm,fun h0=>absurd h0 (by omega)⟩,fun i hi=>absurd hi (by omega)⟩
  obtain⟨B,O,rfl⟩:∃ B O,a=⟨B,O,none⟩:=by
   obtain⟨cs,h1,h2⟩:=hx 0 (by omega);obtain⟨-,hlen,hc⟩:=World.cells?_some h1;have k0:=hc 0 (by omega);have hz:(a.add (0*4)).add 0=a.add 0:=by rw [Go.Deep.add_add]
   rw [hz,List.getElem?_eq_getElem (by omega)] at k0;exact⟨_,_,spot_none a k0⟩
  have hv:∀ i,i < len→∃ R:Raw,At4 w.heap.size w B (O+i*4) R∧RawL R:=fun i hi=>by
   obtain⟨cs,h1,h2⟩:=hx i (by omega);obtain⟨-,hlen,hc⟩:=World.cells?_some h1
   match cs,hlen with
   | [c0,c1,c2,c3],_ =>
    obtain⟨R,e0,e2,g1,g3,gs⟩:=rat_of_trodW h2 (fun k hk=>hz k (by
     rw [hxe];simp only [DataW.weights,Tryz.underlying24,List.mem_cons,List.mem_append]
     exact .inr (.inl (mem_weightsAll (List.mem_map.2 ⟨i,List.mem_range.2 hi,rfl⟩) hk))))
    have k0:=hc 0 (by omega);have k1:=hc 1 (by omega);have k2:=hc 2 (by omega);have k3:=hc 3 (by omega);rw [add_none,add_none] at k0 k1 k2 k3;refine⟨R,⟨c1,c3,?_,?_,?_,?_,g1,g3⟩,gs⟩
    ·rw [←e0]; exact k0
    ·exact k1
    ·rw [←e2]; exact k2
    ·exact k3
  obtain⟨f,hf⟩:=Go.Deep.choose_lt (α:=Raw) hv;refine⟨len,f,⟨Nat.le_refl _,Nat.le_refl _,_,cap,rfl,hl,hm,fun h0=>⟨B,O,rfl,Nat.zero_le _,?_,fun i hi=>(hf i hi).1⟩⟩,fun i hi=>(hf i hi).2⟩;obtain⟨s,t,k0,-⟩:=(hf 0 h0).1;exact cell_lt k0
end
end Go.Proofs.YthkkknjcoidioaaGreat
namespace Go.Proofs.YthkkknjcoidioaaGreat
open Go.RowKit
set_option maxRecDepth 100000 in
theorem single_out {N lo hi lo2 hi2:Nat} {w:World} {v vx u:Value} {Z:Lin} {kx:Nat} {Rx:Nat→Raw} {R:Raw} (h:LinV N lo hi w v Z) (hl:LsR N lo2 hi2 w vx kx Rx) (hx:RawV N w u R) (hsx:RawL R) (hs:few34 7 4 Z=false∨(few34 7 4 Z=true∧code38 Z 1 (fun _=>R)≠0)) :
  Calls Tryz.prog 5 #[v,vx,u] w (RetV w (.bool true)):=by
 have hI:=h;have HSX:=Lib.hid hsx;have hIx:=hx;have hN:N≤w.heap.size:=hx.le;obtain⟨A1,c1,A2,c2,A3,c3,rfl,-⟩:=h.parts;obtain⟨Q1,k1,l1,Q2,k2,l2,rfl,gx1,gx2⟩:=hx.parts;obtain⟨AX,cX,rfl,-⟩:=hl.form
 rcases hs with hs | ⟨hf,hc⟩
 ·have HS:=Lib.hid hs;clear h hs hx hsx hl;go_enter Tryz.func5,Tryz.ntmps5;go_wp2_with (go_at_call 10; refine Hid.out ?_);refine boxesC2 ?_;intro W hE hsz B0 B1;refine (l38_known W).mono ?_;rintro e w1 ⟨rfl,e1⟩;replace hE:=hE.trans e1;replace B0:=e1.block B0;replace B1:=e1.block B1;replace hsz:=blk_lt B1;clear e1;obtain⟨a0,a1,a2,-⟩:=cells3 B0;obtain⟨b0,b1,b2,b3,-⟩:=cells4 B1;go_wp2_with (go_at_call 11; refine Hid.out ?_);refine (l38_few (hI.ext hE)).mono ?_;rintro e w2 ⟨rfl,e2⟩;rw [HS.out];replace hE:=hE.trans e2;replace B0:=e2.block B0;replace B1:=e2.block B1;replace hsz:=blk_lt B1;clear a0 a1 a2 b0 b1 b2 b3;obtain⟨a0,a1,a2,-⟩:=cells3 B0;obtain⟨b0,b1,b2,b3,-⟩:=cells4 B1;clear e2;go_wp2;go_ret;exact⟨rfl,hE⟩
 ·have HF:=Lib.hid hf;obtain⟨r,hr⟩:=hid_eq (code38 Z 1 (fun _=>R));have hr0:(r == 0)=false:=by rw [hr.out]; simpa using hc
  have hr1:(r != 0)=true:=by simpa using hr0
  clear h hf hc hx hsx hl;go_enter Tryz.func5,Tryz.ntmps5;go_wp2_with (go_at_call 10; refine Hid.out ?_);refine boxesC2 ?_;intro W hE hsz B0 B1;refine (l38_known W).mono ?_;rintro e w1 ⟨rfl,e1⟩;replace hE:=hE.trans e1;replace B0:=e1.block B0;replace B1:=e1.block B1;replace hsz:=blk_lt B1;clear e1;obtain⟨a0,a1,a2,-⟩:=cells3 B0;obtain⟨b0,b1,b2,b3,-⟩:=cells4 B1;go_wp2_with (go_at_call 11; refine Hid.out ?_);refine (l38_few (hI.ext hE)).mono ?_;rintro e w2 ⟨rfl,e2⟩;rw [HF.out];replace hE:=hE.trans e2;replace B0:=e2.block B0;replace B1:=e2.block B1;replace hsz:=blk_lt B1;clear a0 a1 a2 b0 b1 b2 b3;obtain⟨a0,a1,a2,-⟩:=cells3 B0;obtain⟨b0,b1,b2,b3,-⟩:=cells4 B1;clear e2;go_wp2_with (go_at_call 12; refine Hid.out ?_);refine boxesC1 ?_;intro W3 f3 hsz3 BS;have hE3:=hE.trans f3;refine (l38_checked (R:=fun _=>R) (hI.ext hE3) (one_raw (by have:=hE3.size; omega) BS (gx1.ext hE3) (gx2.ext hE3)) HF.out (fun i _=>HSX.out)).mono ?_;rintro e w3 ⟨rfl,e3⟩;rw [←hr.out];replace e3:=f3.trans e3;replace hE:=hE.trans e3;replace B0:=e3.block B0;replace B1:=e3.block B1;replace hsz:=blk_lt B1;clear a0 a1 a2 b0 b1 b2 b3;obtain⟨a0,a1,a2,-⟩:=cells3 B0;obtain⟨b0,b1,b2,b3,-⟩:=cells4 B1;clear e3 f3 BS hE3 hsz3;go_wp2;go_ret;exact⟨rfl,hE⟩
set_option maxRecDepth 100000 in
theorem single_bad {N lo hi lo2 hi2:Nat} {w:World} {A1 A2 A3:Option Addr} {c1 c2 c3 m n:Nat} {X:Nat→Nat→Rat} {y p:Nat→Rat} {Z:Lin} {R:Raw} {u vx:Value} {kx:Nat} {Rx:Nat→Raw} (hI:LinV N lo hi w (.agg #[.slice A1 m c1,.slice A2 m c2,.slice A3 m c3]) Z) (hm:Z.m=m) (hf:few34 7 4 Z=true) (hc:code38 Z 1 (fun _=>R)=0)
  (h1:MtV N lo hi w (.slice A1 m c1) m n X) (h2:LsV N lo hi w (.slice A2 m c2) m y) (h3:LsV N lo hi w (.slice A3 m c3) m p) (hl:LsR N lo2 hi2 w vx kx Rx) (hsl:∀ i,i < kx→RawL (Rx i)) (hx:RawV N w u R) (hsx:RawL R) (d:Md m n X y p) (hr:Reg n (nmat X p m))
  (hb:kx≠n∨(kx=n∧(allB kx (fun i=>okR (Rx i))=false∨(allB kx (fun i=>okR (Rx i))=true∧(shB 4 kx Rx=false∨(shB 4 kx Rx=true∧6 < dgn R)))))) :
  Calls Tryz.prog 5 #[.agg #[.slice A1 m c1,.slice A2 m c2,.slice A3 m c3],vx,u] w (RetV w (.bool true)):=by
 have hIx:=hx;have hN:N≤w.heap.size:=hx.le;have HF:=Lib.hid hf;have HC:=Lib.hid hc;have HSX:=Lib.hid hsx;have HSL:=Lib.hid hsl;have hI1:=h1;have hI2:=h2;have hI3:=h3;have hIl:=hl;have HD:=Lib.hid d;have HG:=Lib.hid hr;have hm0:=d.m0;have hm7:=d.m7;have hn0:=d.n0;have hn4:=d.n4;obtain⟨Q1,k1,l1,Q2,k2,l2,rfl,gx1,gx2⟩:=hx.parts;obtain⟨AX,cX,rfl,-,hcX⟩:=hl.form;unfold maxLen at hcX
 rcases hb with hb | ⟨hb,hb1 | ⟨hb1,hb2 | ⟨hb2,hb3⟩⟩⟩
 ·have t1:((kx:Int) == n)=false:=by rw [beq_eq_false_iff_ne]; omega
  have t2:((kx:Int) != n)=true:=by simpa using t1
  clear hf hc h1 h2 h3 hl hsl hx hsx d hr hm;go_enter Tryz.func5,Tryz.ntmps5;go_wp2_with (go_at_call 10; refine Hid.out ?_);refine boxesC2 ?_;intro W hE hsz B0 B1;refine (l38_known W).mono ?_;rintro e w1 ⟨rfl,e1⟩;replace hE:=hE.trans e1;replace B0:=e1.block B0;replace B1:=e1.block B1;replace hsz:=blk_lt B1;clear e1;obtain⟨a0,a1,a2,-⟩:=cells3 B0;obtain⟨b0,b1,b2,b3,-⟩:=cells4 B1;go_wp2_with (go_at_call 11; refine Hid.out ?_);refine (l38_few (hI.ext hE)).mono ?_;rintro e w2 ⟨rfl,e2⟩;rw [HF.out];replace hE:=hE.trans e2;replace B0:=e2.block B0;replace B1:=e2.block B1;replace hsz:=blk_lt B1;clear a0 a1 a2 b0 b1 b2 b3;obtain⟨a0,a1,a2,-⟩:=cells3 B0;obtain⟨b0,b1,b2,b3,-⟩:=cells4 B1;clear e2;go_wp2_with (go_at_call 12; refine Hid.out ?_);refine boxesC1 ?_;intro W3 f3 hsz3 BS;have hE3:=hE.trans f3;refine (l38_checked (R:=fun _=>R) (hI.ext hE3) (one_raw (by have:=hE3.size; omega) BS (gx1.ext hE3) (gx2.ext hE3)) HF.out (fun i _=>HSX.out)).mono ?_;rintro e w3 ⟨rfl,e3⟩;rw [HC.out];replace e3:=f3.trans e3;replace hE:=hE.trans e3;replace B0:=e3.block B0;replace B1:=e3.block B1;replace hsz:=blk_lt B1;clear a0 a1 a2 b0 b1 b2 b3;obtain⟨a0,a1,a2,-⟩:=cells3 B0;obtain⟨b0,b1,b2,b3,-⟩:=cells4 B1;clear e3 f3 BS hE3 hsz3;obtain⟨e1,off1,rfl,-,-,hx1⟩:=hI1.addr hm0;obtain⟨A0,c0,P0,hc0,hm0',-⟩:=hx1 0 hm0;rw [Nat.add_zero] at P0;unfold maxLen at hm0';have p0:=hE.cell P0;clear hx1;go_wp2;go_ret;exact⟨rfl,hE⟩
 ·subst hb;have HV:=Lib.hid hb1;clear hf hc h1 h2 h3 hl hsl hx hsx d hr hm hb1;go_enter Tryz.func5,Tryz.ntmps5;go_wp2_with (go_at_call 10; refine Hid.out ?_);refine boxesC2 ?_;intro W hE hsz B0 B1;refine (l38_known W).mono ?_;rintro e w1 ⟨rfl,e1⟩;replace hE:=hE.trans e1;replace B0:=e1.block B0;replace B1:=e1.block B1;replace hsz:=blk_lt B1;clear e1;obtain⟨a0,a1,a2,-⟩:=cells3 B0;obtain⟨b0,b1,b2,b3,-⟩:=cells4 B1;go_wp2_with (go_at_call 11; refine Hid.out ?_);refine (l38_few (hI.ext hE)).mono ?_;rintro e w2 ⟨rfl,e2⟩;rw [HF.out];replace hE:=hE.trans e2;replace B0:=e2.block B0;replace B1:=e2.block B1;replace hsz:=blk_lt B1;clear a0 a1 a2 b0 b1 b2 b3;obtain⟨a0,a1,a2,-⟩:=cells3 B0;obtain⟨b0,b1,b2,b3,-⟩:=cells4 B1;clear e2;go_wp2_with (go_at_call 12; refine Hid.out ?_);refine boxesC1 ?_;intro W3 f3 hsz3 BS;have hE3:=hE.trans f3;refine (l38_checked (R:=fun _=>R) (hI.ext hE3) (one_raw (by have:=hE3.size; omega) BS (gx1.ext hE3) (gx2.ext hE3)) HF.out (fun i _=>HSX.out)).mono ?_;rintro e w3 ⟨rfl,e3⟩;rw [HC.out];replace e3:=f3.trans e3;replace hE:=hE.trans e3;replace B0:=e3.block B0;replace B1:=e3.block B1;replace hsz:=blk_lt B1;clear a0 a1 a2 b0 b1 b2 b3;obtain⟨a0,a1,a2,-⟩:=cells3 B0;obtain⟨b0,b1,b2,b3,-⟩:=cells4 B1;clear e3 f3 BS hE3 hsz3;obtain⟨e1,off1,rfl,-,-,hx1⟩:=hI1.addr hm0;obtain⟨A0,c0,P0,hc0,hm0',-⟩:=hx1 0 hm0;rw [Nat.add_zero] at P0;unfold maxLen at hm0';have p0:=hE.cell P0;clear hx1
  go_wp2_with (go_at_call 29; refine Hid.out ?_);clear p0;refine (r2_validListL (hIl.ext hE) HSL.out).mono ?_;rintro e w7 ⟨rfl,e7⟩;rw [HV.out];replace hE:=hE.trans e7;replace B0:=e7.block B0;replace B1:=e7.block B1;replace hsz:=blk_lt B1;clear a0 a1 a2 b0 b1 b2 b3;obtain⟨a0,a1,a2,-⟩:=cells3 B0;obtain⟨b0,b1,b2,b3,-⟩:=cells4 B1;clear e7;go_wp2;go_ret;exact⟨rfl,hE⟩
 ·subst hb;have HV:=Lib.hid hb1;have HW:=Lib.hid hb2;clear hf hc h1 h2 h3 hl hsl hx hsx d hr hm hb1 hb2;go_enter Tryz.func5,Tryz.ntmps5;go_wp2_with (go_at_call 10; refine Hid.out ?_);refine boxesC2 ?_;intro W hE hsz B0 B1;refine (l38_known W).mono ?_;rintro e w1 ⟨rfl,e1⟩;replace hE:=hE.trans e1;replace B0:=e1.block B0;replace B1:=e1.block B1;replace hsz:=blk_lt B1;clear e1;obtain⟨a0,a1,a2,-⟩:=cells3 B0;obtain⟨b0,b1,b2,b3,-⟩:=cells4 B1;go_wp2_with (go_at_call 11; refine Hid.out ?_);refine (l38_few (hI.ext hE)).mono ?_;rintro e w2 ⟨rfl,e2⟩;rw [HF.out];replace hE:=hE.trans e2;replace B0:=e2.block B0;replace B1:=e2.block B1;replace hsz:=blk_lt B1;clear a0 a1 a2 b0 b1 b2 b3;obtain⟨a0,a1,a2,-⟩:=cells3 B0;obtain⟨b0,b1,b2,b3,-⟩:=cells4 B1;clear e2;go_wp2_with (go_at_call 12; refine Hid.out ?_);refine boxesC1 ?_;intro W3 f3 hsz3 BS;have hE3:=hE.trans f3;refine (l38_checked (R:=fun _=>R) (hI.ext hE3) (one_raw (by have:=hE3.size; omega) BS (gx1.ext hE3) (gx2.ext hE3)) HF.out (fun i _=>HSX.out)).mono ?_;rintro e w3 ⟨rfl,e3⟩;rw [HC.out];replace e3:=f3.trans e3;replace hE:=hE.trans e3;replace B0:=e3.block B0;replace B1:=e3.block B1;replace hsz:=blk_lt B1;clear a0 a1 a2 b0 b1 b2 b3;obtain⟨a0,a1,a2,-⟩:=cells3 B0;obtain⟨b0,b1,b2,b3,-⟩:=cells4 B1;clear e3 f3 BS hE3 hsz3;obtain⟨e1,off1,rfl,-,-,hx1⟩:=hI1.addr hm0;obtain⟨A0,c0,P0,hc0,hm0',-⟩:=hx1 0 hm0;rw [Nat.add_zero] at P0;unfold maxLen at hm0';have p0:=hE.cell P0
  clear hx1;go_wp2_with (go_at_call 29; refine Hid.out ?_);clear p0;refine (r2_validListL (hIl.ext hE) HSL.out).mono ?_;rintro e w7 ⟨rfl,e7⟩;rw [HV.out];replace hE:=hE.trans e7;replace B0:=e7.block B0;replace B1:=e7.block B1;replace hsz:=blk_lt B1;clear a0 a1 a2 b0 b1 b2 b3;obtain⟨a0,a1,a2,-⟩:=cells3 B0;obtain⟨b0,b1,b2,b3,-⟩:=cells4 B1;clear e7;go_wp2_with (go_at_call 30; refine Hid.out ?_);refine (r2_short (hIl.ext hE) 4 rfl (by omega)).mono ?_;rintro e w8 ⟨rfl,e8⟩;rw [HW.out];replace hE:=hE.trans e8;replace B0:=e8.block B0;replace B1:=e8.block B1;replace hsz:=blk_lt B1;clear a0 a1 a2 b0 b1 b2 b3;obtain⟨a0,a1,a2,-⟩:=cells3 B0;obtain⟨b0,b1,b2,b3,-⟩:=cells4 B1;clear e8;go_wp2;go_ret;exact⟨rfl,hE⟩
 ·subst hb;have HV:=Lib.hid hb1;have HW:=Lib.hid hb2;obtain⟨dz,hdz⟩:=hid_eq ((R.l1.length+R.l2.length:Nat):Int);have hd1:6 < dz:=by rw [hdz.out]; unfold dgn at hb3; omega
  have hd2:decide (6 < dz)=true:=decide_eq_true hd1;clear hf hc h1 h2 h3 hl hsl hx hsx d hr hm hb1 hb2 hb3;go_enter Tryz.func5,Tryz.ntmps5;go_wp2_with (go_at_call 10; refine Hid.out ?_);refine boxesC2 ?_;intro W hE hsz B0 B1;refine (l38_known W).mono ?_;rintro e w1 ⟨rfl,e1⟩;replace hE:=hE.trans e1;replace B0:=e1.block B0;replace B1:=e1.block B1;replace hsz:=blk_lt B1;clear e1;obtain⟨a0,a1,a2,-⟩:=cells3 B0;obtain⟨b0,b1,b2,b3,-⟩:=cells4 B1;go_wp2_with (go_at_call 11; refine Hid.out ?_);refine (l38_few (hI.ext hE)).mono ?_;rintro e w2 ⟨rfl,e2⟩;rw [HF.out];replace hE:=hE.trans e2;replace B0:=e2.block B0;replace B1:=e2.block B1;replace hsz:=blk_lt B1;clear a0 a1 a2 b0 b1 b2 b3;obtain⟨a0,a1,a2,-⟩:=cells3 B0;obtain⟨b0,b1,b2,b3,-⟩:=cells4 B1;clear e2;go_wp2_with (go_at_call 12; refine Hid.out ?_);refine boxesC1 ?_;intro W3 f3 hsz3 BS;have hE3:=hE.trans f3;refine (l38_checked (R:=fun _=>R) (hI.ext hE3) (one_raw (by have:=hE3.size; omega) BS (gx1.ext hE3) (gx2.ext hE3)) HF.out (fun i _=>HSX.out)).mono ?_;rintro e w3 ⟨rfl,e3⟩;rw [HC.out];replace e3:=f3.trans e3;replace hE:=hE.trans e3;replace B0:=e3.block B0;replace B1:=e3.block B1;replace hsz:=blk_lt B1;clear a0 a1 a2 b0 b1 b2 b3;obtain⟨a0,a1,a2,-⟩:=cells3 B0;obtain⟨b0,b1,b2,b3,-⟩:=cells4 B1;clear e3 f3 BS hE3 hsz3;obtain⟨e1,off1,rfl,-,-,hx1⟩:=hI1.addr hm0;obtain⟨A0,c0,P0,hc0,hm0',-⟩:=hx1 0 hm0;rw [Nat.add_zero] at P0;unfold maxLen at hm0'
  have p0:=hE.cell P0;clear hx1;go_wp2_with (go_at_call 29; refine Hid.out ?_);clear p0;refine (r2_validListL (hIl.ext hE) HSL.out).mono ?_;rintro e w7 ⟨rfl,e7⟩;rw [HV.out];replace hE:=hE.trans e7;replace B0:=e7.block B0;replace B1:=e7.block B1;replace hsz:=blk_lt B1;clear a0 a1 a2 b0 b1 b2 b3;obtain⟨a0,a1,a2,-⟩:=cells3 B0;obtain⟨b0,b1,b2,b3,-⟩:=cells4 B1;clear e7;go_wp2_with (go_at_call 30; refine Hid.out ?_);refine (r2_short (hIl.ext hE) 4 rfl (by omega)).mono ?_;rintro e w8 ⟨rfl,e8⟩;rw [HW.out];replace hE:=hE.trans e8;replace B0:=e8.block B0;replace B1:=e8.block B1;replace hsz:=blk_lt B1;clear a0 a1 a2 b0 b1 b2 b3;obtain⟨a0,a1,a2,-⟩:=cells3 B0;obtain⟨b0,b1,b2,b3,-⟩:=cells4 B1;clear e8;go_wp2_with (go_at_call 21; refine Hid.out ?_);refine (r2_digitsN (hIx.ext hE) HSX.out).mono ?_;rintro e w5 ⟨rfl,e5⟩;rw [←hdz.out];replace hE:=hE.trans e5;replace B0:=e5.block B0;replace B1:=e5.block B1;replace hsz:=blk_lt B1;clear a0 a1 a2 b0 b1 b2 b3;obtain⟨a0,a1,a2,-⟩:=cells3 B0;obtain⟨b0,b1,b2,b3,-⟩:=cells4 B1;clear e5;go_wp2;go_ret;exact⟨rfl,hE⟩
theorem cmp_sub3 {x y:Rat} (h:x≤y):decide (0 < (x - y).num.sign)=false:=decide_eq_false (by
 rw [Int.sign_pos_iff];intro h9;have:=rat_pos h9
 grind)
theorem Md.exact {m n:Nat} {X:Nat→Nat→Rat} {y p x0:Nat→Rat} {b:Rat} (d:Md m n X y p) (hX:HtM m n 17 X) (hx:HtL n 17 x0) (hb:Ht 180 b) {i:Nat} (hi:i < m):Md m n X (upd (av n X x0) i (av n X x0 i+b)) p:=by
 have ha:∀ k,k < m→Ht 141 (av n X x0 k):=fun k hk=>sum_ht (n:=n) (k:=34) (fun c hc=>(hX k hk c hc).mul (hx c hc)) (Nat.le_refl _) (by have:=d.n4; omega)
 refine⟨d.m0,d.m7,d.n0,d.n4,d.pos,d.hX,fun k hk=>?_,d.hp⟩;unfold upd
 split
 ·exact ((ha i hi).add hb).mono (by omega)
 ·exact (ha k hk).mono (by omega)
theorem single_le {m n:Nat} {X:Nat→Nat→Rat} {p x0:Nat→Rat} {b:Rat} {i k:Nat} (d:Md m n X (upd (av n X x0) i (av n X x0 i+b)) p) (hr:Reg n (nmat X p m)) (hi:i < m) (hk:k < m) (hri:kS m n X p i=true) (hrk:kS m n X p k=true) :
  zS m n X (upd (av n X x0) i (av n X x0 i+b)) p k≤zS m n X (upd (av n X x0) i (av n X x0 i+b)) p i:=by
 have h1:rS m n X p i≠0:=of_decide_eq_true hri;have h2:rS m n X p k≠0:=of_decide_eq_true hrk;unfold zS;rw [if_neg h1,if_neg h2,tS_stt,tS_stt];exact (d.inv2 hr).single (x0:=x0) (e:=b) hi (fun j _=>by unfold upd; split <;> simp_all) (xS_nsol hr) h1 hk h2
set_option maxRecDepth 100000 in
theorem single_good {N lo hi lo2 hi2:Nat} {w:World} {A1 A2 A3:Option Addr} {c1 c2 c3 m n:Nat} {X:Nat→Nat→Rat} {y p x0:Nat→Rat} {Z:Lin} {R:Raw} {u vx:Value} {Rx:Nat→Raw} {b:Rat} (hI:LinV N lo hi w (.agg #[.slice A1 m c1,.slice A2 m c2,.slice A3 m c3]) Z) (hm:Z.m=m) (hf:few34 7 4 Z=true) (hc:code38 Z 1 (fun _=>R)=0)
  (h1:MtV N lo hi w (.slice A1 m c1) m n X) (h2:LsV N lo hi w (.slice A2 m c2) m y) (h3:LsV N lo hi w (.slice A3 m c3) m p) (hl:LsR N lo2 hi2 w vx n Rx) (hsl:∀ i,i < n→RawL (Rx i)) (hx:RawV N w u R) (hsx:RawL R) (d:Md m n X y p) (hr:Reg n (nmat X p m))
  (hb1:allB n (fun i=>okR (Rx i))=true) (hb2:shB 4 n Rx=true) (hdg:dgn R≤6) (hlx:LsV N lo2 hi2 w vx n x0) (hx0:HtL n 17 x0) (hX17:HtM m n 17 X) (hxr:RatV N w u b) (hbh:Ht 180 b) :
  Calls Tryz.prog 5 #[.agg #[.slice A1 m c1,.slice A2 m c2,.slice A3 m c3],vx,u] w (RetV w (.bool true)):=by
 have hIx:=hx;have hN:N≤w.heap.size:=hx.le;have HF:=Lib.hid hf;have HC:=Lib.hid hc;have HSX:=Lib.hid hsx;have HSL:=Lib.hid hsl;have hI1:=h1;have hI2:=h2;have hI3:=h3;have hIl:=hl;have HD:=Lib.hid d;have HG:=Lib.hid hr;have hm0:=d.m0;have hm7:=d.m7;have hn0:=d.n0;have hn4:=d.n4;obtain⟨Q1,k1,l1,Q2,k2,l2,rfl,gx1,gx2⟩:=hx.parts;obtain⟨AX,cX,rfl,-,hcX⟩:=hl.form;unfold maxLen at hcX;have hIx0:=hlx;have hIr:=hxr;have HV:=Lib.hid hb1;have HW:=Lib.hid hb2;have HX17:=Lib.hid hX17;have HX0:=Lib.hid hx0;have HMD:Hid (∀ i,i < m→Md m n X (upd (av n X x0) i (av n X x0 i+b)) p):=fun i hi=>d.exact hX17 hx0 hbh hi
 have HZB:=Lib.hid (hbh.sz (by omega));have HZE:Hid (∀ i,i < m→Sz (av n X x0 i)):=fun i hi=>(sum_ht (n:=n) (k:=34) (K:=141) (fun c hc=>(hX17 i hi c hc).mul (hx0 c hc)) (Nat.le_refl _) (by omega)).sz (by omega)
 obtain⟨dz,hdz⟩:=hid_eq ((R.l1.length+R.l2.length:Nat):Int);have hd1:¬ 6 < dz:=by rw [hdz.out]; unfold dgn at hdg; omega
 have hd2:decide (6 < dz)=false:=decide_eq_false hd1;clear hf hc h1 h2 h3 hl hsl hx hsx d hr hm hb1 hb2 hdg hlx hx0 hX17 hxr hbh;go_enter Tryz.func5,Tryz.ntmps5;go_wp2_with (go_at_call 10; refine Hid.out ?_);refine boxesC2 ?_;intro W hE hsz B0 B1;refine (l38_known W).mono ?_;rintro e w1 ⟨rfl,e1⟩;replace hE:=hE.trans e1;replace B0:=e1.block B0;replace B1:=e1.block B1;replace hsz:=blk_lt B1;clear e1;obtain⟨a0,a1,a2,-⟩:=cells3 B0;obtain⟨b0,b1,b2,b3,-⟩:=cells4 B1;go_wp2_with (go_at_call 11; refine Hid.out ?_);refine (l38_few (hI.ext hE)).mono ?_;rintro e w2 ⟨rfl,e2⟩;rw [HF.out];replace hE:=hE.trans e2;replace B0:=e2.block B0;replace B1:=e2.block B1;replace hsz:=blk_lt B1;clear a0 a1 a2 b0 b1 b2 b3;obtain⟨a0,a1,a2,-⟩:=cells3 B0;obtain⟨b0,b1,b2,b3,-⟩:=cells4 B1;clear e2;go_wp2_with (go_at_call 12; refine Hid.out ?_);refine boxesC1 ?_;intro W3 f3 hsz3 BS;have hE3:=hE.trans f3;refine (l38_checked (R:=fun _=>R) (hI.ext hE3) (one_raw (by have:=hE3.size; omega) BS (gx1.ext hE3) (gx2.ext hE3)) HF.out (fun i _=>HSX.out)).mono ?_;rintro e w3 ⟨rfl,e3⟩;rw [HC.out];replace e3:=f3.trans e3;replace hE:=hE.trans e3;replace B0:=e3.block B0;replace B1:=e3.block B1;replace hsz:=blk_lt B1;clear a0 a1 a2 b0 b1 b2 b3;obtain⟨a0,a1,a2,-⟩:=cells3 B0;obtain⟨b0,b1,b2,b3,-⟩:=cells4 B1;clear e3 f3 BS hE3 hsz3;obtain⟨e1,off1,rfl,-,-,hx1⟩:=hI1.addr hm0;obtain⟨A0,c0,P0,hc0,hm0',-⟩:=hx1 0 hm0;rw [Nat.add_zero] at P0
 unfold maxLen at hm0';have p0:=hE.cell P0;clear hx1;go_wp2_with (go_at_call 29; refine Hid.out ?_);clear p0;refine (r2_validListL (hIl.ext hE) HSL.out).mono ?_;rintro e w7 ⟨rfl,e7⟩;rw [HV.out];replace hE:=hE.trans e7;replace B0:=e7.block B0;replace B1:=e7.block B1;replace hsz:=blk_lt B1;clear a0 a1 a2 b0 b1 b2 b3;obtain⟨a0,a1,a2,-⟩:=cells3 B0;obtain⟨b0,b1,b2,b3,-⟩:=cells4 B1;clear e7;go_wp2_with (go_at_call 30; refine Hid.out ?_);refine (r2_short (hIl.ext hE) 4 rfl (by omega)).mono ?_;rintro e w8 ⟨rfl,e8⟩;rw [HW.out];replace hE:=hE.trans e8;replace B0:=e8.block B0;replace B1:=e8.block B1;replace hsz:=blk_lt B1;clear a0 a1 a2 b0 b1 b2 b3;obtain⟨a0,a1,a2,-⟩:=cells3 B0;obtain⟨b0,b1,b2,b3,-⟩:=cells4 B1;clear e8;go_wp2_with (go_at_call 21; refine Hid.out ?_);refine (r2_digitsN (hIx.ext hE) HSX.out).mono ?_;rintro e w5 ⟨rfl,e5⟩;rw [←hdz.out];replace hE:=hE.trans e5;replace B0:=e5.block B0;replace B1:=e5.block B1;replace hsz:=blk_lt B1;clear a0 a1 a2 b0 b1 b2 b3;obtain⟨a0,a1,a2,-⟩:=cells3 B0;obtain⟨b0,b1,b2,b3,-⟩:=cells4 B1;clear e5;go_wp2_with (go_at_call 31; refine Hid.out ?_);clear hd1 hd2;refine (r5_apply (hI1.ext hE) (hIx0.ext hE) (by omega) hn0 (by omega) HX17.out HX0.out (by omega)).mono ?_;rintro e w6 ⟨AE,cE,rfl,hEx,e6⟩;replace hEx:LsV N 0 w6.heap.size w6 (.slice AE m cE) m (av n X x0):=LsV.all hEx;replace hE:=hE.trans e6;replace B0:=e6.block B0;replace B1:=e6.block B1;replace hsz:=blk_lt B1
 clear a0 a1 a2 b0 b1 b2 b3;obtain⟨a0,a1,a2,-⟩:=cells3 B0;obtain⟨b0,b1,b2,b3,-⟩:=cells4 B1;clear e6;obtain⟨wp,hwp⟩:∃ wp,wp=w6:=⟨_,rfl⟩
 rw [←hwp] at hE B0 B1 hsz hEx a0 a1 a2 b0 b1 b2 b3 ⊢;clear hwp;go_wp2;clear a0 a1 a2 b0 b1 b2 b3
 go_loopw [58] (fun j wr=>∃ i:Nat,i≤m∧j=.int .i64 i∧Ext wp wr) (fun j _=>m - (intOf j).toNat)
 case atStart=>exact⟨0,Nat.zero_le _,rfl,Ext.refl _⟩
 case round =>
  obtain⟨i,hi',rfl,eR⟩:=hrel;obtain⟨wq,hwq⟩:∃ wq,wq=wr:=⟨wr,rfl⟩
  subst hwq;have hEq:=hE.trans eR;have hNq:N≤wq.heap.size:=by have:=hEq.size; omega
  by_cases hlt:i < m
  ·have B0q:=eR.block B0;have B1q:=eR.block B1;have hl1:=blk_lt B1q;have hExq:=LsV.all (hEx.ext eR);obtain⟨a0,a1,a2,-⟩:=cells3 B0q;go_upto_region 10 with (fail);refine boxes1 ?_;intro w7 e7 hsz7 B9;obtain⟨g9,hg9⟩:∃ g9,g9=wq.heap.size:=⟨_,rfl⟩
   have hqg:wq.heap.size≤g9:=by omega
   rw [←hg9] at B9 ⊢;replace hExq:=LsV.all (hExq.ext e7);clear hsz7 hg9 a0 a1 a2;obtain⟨d0,d1,d2,-⟩:=cells3 B9;go_wp2_with (go_at_call 32; refine Hid.out ?_);refine (sl_clone hExq hm0 (by omega)).mono ?_;rintro e w8 ⟨gy,cy,rfl,hgy,hcmy,hncy,hry,e8⟩;have hgy9:g9 < gy:=Nat.lt_of_lt_of_le (blk_lt B9) hgy;replace B9:=e8.block B9;replace e8:=e7.trans e8;clear d0 d1 d2 hgy e7 hExq;obtain⟨d0,d1,d2,f0,f1,f2⟩:=cells3 B9;unfold maxLen at hcmy;go_upto_region 11 with (fail);obtain⟨w9,E9,D9,U9⟩:=set31 B9 (.slice (some ⟨gy,0,none⟩) m cy);rw [E9];have C9:=U9.chg (NoU.mk B9 (by decide));replace hry:=hry.chg C9 (by omega) (.inr (by omega));replace e8:=C9.ext e8 hqg;replace B0q:=e8.block B0q;replace B1q:=e8.block B1q;clear d0 d1 d2 f0 f1 f2 E9 U9 B9 C9;obtain⟨b0,b1,b2,b3,-⟩:=cells4 B1q;obtain⟨d0,d1,d2,-⟩:=cells3 D9;obtain⟨zb,zA,zn,zc,zA2,zn2,zc2,t0,t1,t2,t3,t4,t5,t6,t7,hbz,gz1,gz2⟩:=hry.at_ hlt;have hRy:RatV N w9 (.agg #[.bool zb,.slice zA zn zc,.bool false,.slice zA2 zn2 zc2]) (av n X x0 i):=RatV.mk hbz gz1 gz2;have hRb:=hIr.ext (hEq.trans e8);have HZI:=Lib.hid (HZE.out i hlt);clear hbz gz1 gz2;refine region_inv [Mn.eq (.pointer (some ⟨g9,1,none⟩)),Mn.eq (.slice (some ⟨gy,0,none⟩) m cy),Mn.eq (.int .i64 (i:Int)),Mn.eq (.pointer (some ⟨g9,1,none⟩)),Mn.eq (.slice (some ⟨gy,0,none⟩) m cy),Mn.eq (.int .i64 (i:Int)),Mn.eq (.pointer (some ⟨gy,i*4,none⟩)),Mn.rat N (av n X x0 i),Mn.rat N (b),Mn.rat N (av n X x0 i+b),Mn.eq (.pointer (some ⟨gy,i*4,none⟩)),Mn.any] [some 65,some 66,some 67,some 68,some 69,some 70,some 71,some 72,some 73,some 74,some 75,none] [11] [true,true,true,true,true,true,true,true,true,true,true,false] 1 (by kernel_rfl) (by kernel_rfl) (by kernel_rfl) (by kernel_rfl) (by kernel_rfl) (by kernel_rfl) (by kernel_rfl) (by kernel_rfl) ?_ ?_
   ·intro i hi hl;have hi':i=0∨i=1∨i=2∨i=3∨i=4∨i=5∨i=6∨i=7∨i=8∨i=9∨i=10∨i=11:=by have h9:i < 12:=hi; omega
    clear hi
    rcases hi' with rfl | rfl | rfl | rfl | rfl | rfl | rfl | rfl | rfl | rfl | rfl | rfl
    ·clear hl;refine stp rfl ?_;intro ac wi eI hB hA K hK;have o9:=hB 9 (by kernel_rfl);simp only [List.getElem?_toArray,List.getElem?_cons_succ,List.getElem?_cons_zero] at o9;clear hB hA;go_simp;exact hK.out _ _ (Ext.refl _) rfl
    ·clear hl;refine stp rfl ?_;intro ac wi eI hB hA K hK;obtain⟨_,s65,rfl⟩:=hA 0 (by kernel_rfl) 65 rfl;clear hB hA;have cc0:=eI.cell d1;go_simp;exact hK.out _ _ (Ext.refl _) rfl
    ·clear hl;refine stp rfl ?_;intro ac wi eI hB hA K hK;have o8:=hB 8 (by kernel_rfl);simp only [List.getElem?_toArray,List.getElem?_cons_succ,List.getElem?_cons_zero] at o8;clear hB hA;go_simp;exact hK.out _ _ (Ext.refl _) rfl
    ·clear hl;refine stp rfl ?_;intro ac wi eI hB hA K hK;have o9:=hB 9 (by kernel_rfl);simp only [List.getElem?_toArray,List.getElem?_cons_succ,List.getElem?_cons_zero] at o9;clear hB hA;go_simp;exact hK.out _ _ (Ext.refl _) rfl
    ·clear hl;refine stp rfl ?_;intro ac wi eI hB hA K hK;obtain⟨_,s68,rfl⟩:=hA 3 (by kernel_rfl) 68 rfl;clear hB hA;have cc0:=eI.cell d1;go_simp;exact hK.out _ _ (Ext.refl _) rfl
    ·clear hl;refine stp rfl ?_;intro ac wi eI hB hA K hK;have o8:=hB 8 (by kernel_rfl);simp only [List.getElem?_toArray,List.getElem?_cons_succ,List.getElem?_cons_zero] at o8;clear hB hA;go_simp;exact hK.out _ _ (Ext.refl _) rfl
    ·clear hl;refine stp rfl ?_;intro ac wi eI hB hA K hK;obtain⟨_,s69,rfl⟩:=hA 4 (by kernel_rfl) 69 rfl;obtain⟨_,s70,rfl⟩:=hA 5 (by kernel_rfl) 70 rfl;clear hB hA;go_simp;exact hK.out _ _ (Ext.refl _) rfl
    ·clear hl;refine stp rfl ?_;intro ac wi eI hB hA K hK;obtain⟨_,s71,rfl⟩:=hA 6 (by kernel_rfl) 71 rfl;clear hB hA;have cc0:=eI.cell t0;have cc1:=eI.cell t1;have cc2:=eI.cell t2;have cc3:=eI.cell t3;go_simp;exact hK.out _ _ (Ext.refl _) (hRy.ext eI)
    ·clear hl;refine stp rfl ?_;intro ac wi eI hB hA K hK;have o5:=hB 5 (by kernel_rfl);simp only [List.getElem?_toArray,List.getElem?_cons_succ,List.getElem?_cons_zero] at o5;clear hB hA;have cc0:=eI.cell b0;have cc1:=eI.cell b1;have cc2:=eI.cell b2;have cc3:=eI.cell b3;go_simp;exact hK.out _ _ (Ext.refl _) (hRb.ext eI)
    ·clear hl;refine stp rfl ?_;intro ac wi eI hB hA K hK;obtain⟨x72,s72,j72⟩:=hA 7 (by kernel_rfl) 72 rfl;replace j72:Mn.p (Mn.rat N (av n X x0 i)) x72 wi:=j72;obtain⟨x73,s73,j73⟩:=hA 8 (by kernel_rfl) 73 rfl;replace j73:Mn.p (Mn.rat N (b)) x73 wi:=j73;clear hB hA;go_simp;refine (l38_add j72 j73 HZI.out HZB.out).mono ?_;rintro e wj ⟨vj,rfl,hj,ej⟩;go_wp2_with fail;exact hK.out _ _ ej hj
    ·clear hl;refine stp rfl ?_;intro ac wi eI hB hA K hK;obtain⟨_,s66,rfl⟩:=hA 1 (by kernel_rfl) 66 rfl;obtain⟨_,s67,rfl⟩:=hA 2 (by kernel_rfl) 67 rfl;clear hB hA;go_simp;exact hK.out _ _ (Ext.refl _) rfl
    ·exact absurd hl (by decide)
   intro vals wz eZ hJ;have J65:vals 0=(.pointer (some ⟨g9,1,none⟩)):=hJ 0 (by decide) (by decide);have J66:vals 1=(.slice (some ⟨gy,0,none⟩) m cy):=hJ 1 (by decide) (by decide);have J67:vals 2=(.int .i64 (i:Int)):=hJ 2 (by decide) (by decide);have J68:vals 3=(.pointer (some ⟨g9,1,none⟩)):=hJ 3 (by decide) (by decide);have J69:vals 4=(.slice (some ⟨gy,0,none⟩) m cy):=hJ 4 (by decide) (by decide);have J70:vals 5=(.int .i64 (i:Int)):=hJ 5 (by decide) (by decide);have J71:vals 6=(.pointer (some ⟨gy,i*4,none⟩)):=hJ 6 (by decide) (by decide);have J72:Mn.p (Mn.rat N (av n X x0 i)) (vals 7) wz:=hJ 7 (by decide) (by decide);have J73:Mn.p (Mn.rat N (b)) (vals 8) wz:=hJ 8 (by decide) (by decide);have J74:Mn.p (Mn.rat N (av n X x0 i+b)) (vals 9) wz:=hJ 9 (by decide) (by decide);have J75:vals 10=(.pointer (some ⟨gy,i*4,none⟩)):=hJ 10 (by decide) (by decide);clear hJ;simp only [putAll,if_true,Bool.false_eq_true,if_false,Act.put,Nat.zero_add,Nat.reduceAdd,List.setIfInBounds_toArray,List.set_cons_zero,List.set_cons_succ,J65,J66,J67,J68,J69,J70,J71,J75];clear J65 J66 J67 J68 J69 J70 J71 J75
   generalize vals 7=z72 at J72 ⊢
   generalize vals 8=z73 at J73 ⊢
   generalize vals 9=z74 at J74 ⊢
   obtain⟨bz,Az,kz,cz,Az',kz',cz',rfl,hbz,gz1,gz2⟩:=RatV.parts J74;have hRz:=hry.ext eZ;replace t0:=eZ.cell t0;replace t1:=eZ.cell t1;replace t2:=eZ.cell t2;replace t3:=eZ.cell t3;replace t4:=hRz.frozen (i*4);replace t5:=hRz.frozen (i*4+1);replace t6:=hRz.frozen (i*4+2);replace t7:=hRz.frozen (i*4+3);refine stepL_late (i:=11) rfl (by kernel_rfl) (by kernel_rfl) (fun K hK=>?_);go_simp;refine hK.out _ _ ?_;clear hK K;try simp only [nr]
   refine stepL_done (by kernel_rfl) ?_ _;obtain⟨w10,E10,C10,hs10,hr10⟩:=hRz.set (i:=i) (q:=av n X x0 i+b) (by omega) (by omega) hbz gz1 gz2;rw [E10];replace hr10:RowB N w10 gy cy m (upd (av n X x0) i (av n X x0 i+b)):=hr10.less (by omega);replace D9:=C10.blk (eZ.block D9) (.inl (by omega));replace e8:=C10.ext (e8.trans eZ) (by omega);replace B0q:=C10.blk (eZ.block B0q) (.inl (by omega));clear t0 t1 t2 t3 t4 t5 t6 t7 b0 b1 b2 b3 d0 d1 d2 hRz hRb hRy E10 C10 eZ J74 hbz gz1 gz2 hry B1q;obtain⟨d0,d1,d2,-⟩:=cells3 D9;have hE10:=hEq.trans e8;go_wp2_with (go_at_call 34; refine Hid.out ?_);refine (sn_Statistics (MtV.all (hI1.ext hE10)) (hr10.lsv (lo:=0) (hi:=w10.heap.size) hncy (by unfold maxLen; omega) (Nat.zero_le _) hr10.lt (Nat.le_refl _)) (LsV.all (hI3.ext hE10)) (HMD.out i hlt) HG.out).mono ?_;rintro e w11 ⟨AS,cS,AB,cB,rfl,hS,hB,e11⟩;replace e8:=e8.trans e11;replace B0q:=e11.block B0q;clear d0 d1 d2 D9 hr10 hE10 e11;obtain⟨zs,hzs⟩:=hid_eq (zS m n X (upd (av n X x0) i (av n X x0 i+b)) p);obtain⟨ks,hks⟩:=hid_eq (kS m n X p)
   have HLE:Hid (ks i=true→∀ a,a < m→ks a=true→zs a≤zs i):=by
    rw [Hid,hzs.out,hks.out];exact fun q1 a ha q2=>single_le (HMD.out i hlt) HG.out hlt ha q1 q2
   have HZS:Hid (∀ a,a < m→Ht 280000000 (zs a)):=by rw [Hid,hzs.out]; exact zS_ht (HMD.out i hlt)
   rw [←hzs.out] at hS;rw [←hks.out] at hB;obtain⟨bS,oS,rfl,-,-,hxS⟩:=LsR.addr hS hm0;obtain⟨bB,oB,rfl,hxB⟩:=hB.addr hm0;have HXS:=Lib.hid hxS;have HXB:=Lib.hid hxB;clear hxS hxB hS hB hzs hks;obtain⟨a0,a1,a2,-⟩:=cells3 B0q;have q0:=HXB.out i hlt;obtain⟨tk,htk⟩:=hid_eq (ks i);rw [←htk.out] at q0;cases tk with
   | false =>
    go_wp2;go_roundw
    case rel=>exact⟨i+1,by omega,by go_num,eR.trans e8⟩
    case measure=>simp [intOf]; omega
   | true =>
    have HLI:=Lib.hid (HLE.out htk.out.symm);have HZI2:=HZS.out i hlt;have HZI3:=Lib.hid HZI2;clear HZI2;obtain⟨wv,hwv⟩:∃ wv,wv=w11:=⟨_,rfl⟩
    rw [←hwv] at e8 HXS HXB q0 a0 a1 a2 ⊢;clear hwv B0q HLE;go_wp2;clear a0 a1 a2 q0
    go_loopw [107] (fun j wr=>∃ a:Nat,a≤m∧j=.int .i64 a∧Ext wv wr) (fun j _=>m - (intOf j).toNat)
    case atStart=>exact⟨0,Nat.zero_le _,rfl,Ext.refl _⟩
    case round =>
     obtain⟨a,ha,rfl,eV⟩:=hrel
     by_cases hla:a < m
     ·have q0:=eV.cell (HXB.out a hla);obtain⟨ta,hta⟩:=hid_eq (ks a);rw [←hta.out] at q0;cases ta with
      | false =>
       go_upto_region 19 with (fail);refine region_inv [Mn.eq (.slice (some ⟨bB,oB,none⟩) m cB),Mn.eq (.int .i64 (a:Int)),Mn.eq (.pointer (some ⟨bB,oB+a,none⟩)),Mn.eq (.bool false),Mn.eq (.bool false),Mn.eq undef,Mn.eq undef,Mn.eq undef,Mn.eq undef,Mn.eq undef,Mn.eq undef,Mn.eq undef,Mn.eq undef,Mn.eq undef,Mn.eq undef,Mn.eq (.bool false)] [some 110,some 111,some 112,some 113,some 114,some 115,some 116,some 117,some 118,some 119,some 120,some 121,some 122,some 123,some 124,some 125] [] [true,true,true,true,true,true,true,true,true,true,true,true,true,true,true,true] 0 (by kernel_rfl) (by kernel_rfl) (by kernel_rfl) (by kernel_rfl) (by kernel_rfl) (by kernel_rfl) (by kernel_rfl) (by kernel_rfl) ?_ ?_
       ·intro i hi hl;have hi':i=0∨i=1∨i=2∨i=3∨i=4∨i=5∨i=6∨i=7∨i=8∨i=9∨i=10∨i=11∨i=12∨i=13∨i=14∨i=15:=by have h9:i < 16:=hi; omega
        clear hi
        rcases hi' with rfl | rfl | rfl | rfl | rfl | rfl | rfl | rfl | rfl | rfl | rfl | rfl | rfl | rfl | rfl | rfl
        ·clear hl;refine stp rfl ?_;intro ac wi eI hB hA K hK;have o11:=hB 11 (by kernel_rfl);simp only [List.getElem?_toArray,List.getElem?_cons_succ,List.getElem?_cons_zero] at o11;clear hB hA;go_simp;exact hK.out _ _ (Ext.refl _) rfl
        ·clear hl;refine stp rfl ?_;intro ac wi eI hB hA K hK;have o13:=hB 13 (by kernel_rfl);simp only [List.getElem?_toArray,List.getElem?_cons_succ,List.getElem?_cons_zero] at o13;clear hB hA;go_simp;exact hK.out _ _ (Ext.refl _) rfl
        ·clear hl;refine stp rfl ?_;intro ac wi eI hB hA K hK;obtain⟨_,s110,rfl⟩:=hA 0 (by kernel_rfl) 110 rfl;obtain⟨_,s111,rfl⟩:=hA 1 (by kernel_rfl) 111 rfl;clear hB hA;go_simp;exact hK.out _ _ (Ext.refl _) rfl
        ·clear hl;refine stp rfl ?_;intro ac wi eI hB hA K hK;obtain⟨_,s112,rfl⟩:=hA 2 (by kernel_rfl) 112 rfl;clear hB hA;have cc0:=eI.cell q0;go_simp;exact hK.out _ _ (Ext.refl _) rfl
        ·clear hl;refine stp rfl ?_;intro ac wi eI hB hA K hK;obtain⟨_,s113,rfl⟩:=hA 3 (by kernel_rfl) 113 rfl;clear hB hA;go_simp;exact hK.out _ _ (Ext.refl _) rfl
        ·clear hl;refine stp rfl ?_;intro ac wi eI hB hA K hK;obtain⟨_,s114,rfl⟩:=hA 4 (by kernel_rfl) 114 rfl;clear hB hA;rw [if_neg (by simp [Region.wanted,yielded,s114,undef])];exact hK.out _ _ (Ext.refl _) rfl
        ·clear hl;refine stp rfl ?_;intro ac wi eI hB hA K hK;obtain⟨_,s114,rfl⟩:=hA 4 (by kernel_rfl) 114 rfl;clear hB hA;rw [if_neg (by simp [Region.wanted,yielded,s114,undef])];exact hK.out _ _ (Ext.refl _) rfl
        ·clear hl;refine stp rfl ?_;intro ac wi eI hB hA K hK;obtain⟨_,s114,rfl⟩:=hA 4 (by kernel_rfl) 114 rfl;clear hB hA;rw [if_neg (by simp [Region.wanted,yielded,s114,undef])];exact hK.out _ _ (Ext.refl _) rfl
        ·clear hl;refine stp rfl ?_;intro ac wi eI hB hA K hK;obtain⟨_,s114,rfl⟩:=hA 4 (by kernel_rfl) 114 rfl;clear hB hA;rw [if_neg (by simp [Region.wanted,yielded,s114,undef])];exact hK.out _ _ (Ext.refl _) rfl
        ·clear hl;refine stp rfl ?_;intro ac wi eI hB hA K hK;obtain⟨_,s114,rfl⟩:=hA 4 (by kernel_rfl) 114 rfl;clear hB hA;rw [if_neg (by simp [Region.wanted,yielded,s114,undef])];exact hK.out _ _ (Ext.refl _) rfl
        ·clear hl;refine stp rfl ?_;intro ac wi eI hB hA K hK;obtain⟨_,s114,rfl⟩:=hA 4 (by kernel_rfl) 114 rfl;clear hB hA;rw [if_neg (by simp [Region.wanted,yielded,s114,undef])];exact hK.out _ _ (Ext.refl _) rfl
        ·clear hl;refine stp rfl ?_;intro ac wi eI hB hA K hK;obtain⟨_,s114,rfl⟩:=hA 4 (by kernel_rfl) 114 rfl;clear hB hA;rw [if_neg (by simp [Region.wanted,yielded,s114,undef])];exact hK.out _ _ (Ext.refl _) rfl
        ·clear hl;refine stp rfl ?_;intro ac wi eI hB hA K hK;obtain⟨_,s114,rfl⟩:=hA 4 (by kernel_rfl) 114 rfl;clear hB hA;rw [if_neg (by simp [Region.wanted,yielded,s114,undef])];exact hK.out _ _ (Ext.refl _) rfl
        ·clear hl;refine stp rfl ?_;intro ac wi eI hB hA K hK;obtain⟨_,s114,rfl⟩:=hA 4 (by kernel_rfl) 114 rfl;clear hB hA;rw [if_neg (by simp [Region.wanted,yielded,s114,undef])];exact hK.out _ _ (Ext.refl _) rfl
        ·clear hl;refine stp rfl ?_;intro ac wi eI hB hA K hK;obtain⟨_,s114,rfl⟩:=hA 4 (by kernel_rfl) 114 rfl;clear hB hA;rw [if_neg (by simp [Region.wanted,yielded,s114,undef])];exact hK.out _ _ (Ext.refl _) rfl
        ·clear hl;refine stp rfl ?_;intro ac wi eI hB hA K hK;obtain⟨_,s114,rfl⟩:=hA 4 (by kernel_rfl) 114 rfl;obtain⟨_,s124,rfl⟩:=hA 14 (by kernel_rfl) 124 rfl;clear hB hA;go_simp;exact hK.out _ _ (Ext.refl _) rfl
       intro vals wz eZ hJ;have J110:vals 0=(.slice (some ⟨bB,oB,none⟩) m cB):=hJ 0 (by decide) (by decide);have J111:vals 1=(.int .i64 (a:Int)):=hJ 1 (by decide) (by decide);have J112:vals 2=(.pointer (some ⟨bB,oB+a,none⟩)):=hJ 2 (by decide) (by decide);have J113:vals 3=(.bool false):=hJ 3 (by decide) (by decide);have J114:vals 4=(.bool false):=hJ 4 (by decide) (by decide);have J115:vals 5=undef:=hJ 5 (by decide) (by decide);have J116:vals 6=undef:=hJ 6 (by decide) (by decide);have J117:vals 7=undef:=hJ 7 (by decide) (by decide);have J118:vals 8=undef:=hJ 8 (by decide) (by decide);have J119:vals 9=undef:=hJ 9 (by decide) (by decide);have J120:vals 10=undef:=hJ 10 (by decide) (by decide);have J121:vals 11=undef:=hJ 11 (by decide) (by decide);have J122:vals 12=undef:=hJ 12 (by decide) (by decide);have J123:vals 13=undef:=hJ 13 (by decide) (by decide);have J124:vals 14=undef:=hJ 14 (by decide) (by decide);have J125:vals 15=(.bool false):=hJ 15 (by decide) (by decide);clear hJ;simp only [putAll,if_true,Bool.false_eq_true,if_false,Act.put,Nat.zero_add,Nat.reduceAdd,List.setIfInBounds_toArray,List.set_cons_zero,List.set_cons_succ,J110,J111,J112,J113,J114,J115,J116,J117,J118,J119,J120,J121,J122,J123,J124,J125];clear J110 J111 J112 J113 J114 J115 J116 J117 J118 J119 J120 J121 J122 J123 J124 J125;refine stepL_done (by kernel_rfl) ?_ _;go_wp2;go_roundw
       case rel=>exact⟨a+1,by omega,by go_num,eV.trans eZ⟩
       case measure=>simp [intOf]; omega
      | true =>
       obtain⟨n1,A6,k6,c6,A12,k12,c12,p0,p1,p2,p3,hb1,g1,g2⟩:=((HXS.out a hla).ext eV).open;obtain⟨n3,A13,k13,c13,A14,k14,c14,s0,s1,s2,s3,hb3,g3,g4⟩:=((HXS.out i hlt).ext eV).open;have hRa:RatV N wr (.agg #[.bool n1,.slice A6 k6 c6,.bool false,.slice A12 k12 c12]) (zs a):=RatV.mk hb1 g1 g2;have hRi:RatV N wr (.agg #[.bool n3,.slice A13 k13 c13,.bool false,.slice A14 k14 c14]) (zs i):=RatV.mk hb3 g3 g4;have HS1:=Lib.hid ((HZS.out a hla).sz (by omega));have HS2:=Lib.hid (HZI3.out.sz (by omega));have HS3:=Lib.hid (((HZS.out a hla).sub HZI3.out).sz (by omega));obtain⟨sg,hsg⟩:=hid_eq (zs a - zs i).num.sign;have tg:decide (0 < sg)=false:=by rw [hsg.out]; exact cmp_sub3 (HLI.out a hla hta.out.symm)
       have tg2:¬ 0 < sg:=of_decide_eq_false tg;clear g1 g2 g3 g4 hb1 hb3;go_upto_region 19 with (fail);refine region_inv [Mn.eq (.slice (some ⟨bB,oB,none⟩) m cB),Mn.eq (.int .i64 (a:Int)),Mn.eq (.pointer (some ⟨bB,oB+a,none⟩)),Mn.eq (.bool true),Mn.eq (.bool true),Mn.eq (.slice (some ⟨bS,oS,none⟩) m cS),Mn.eq (.int .i64 (a:Int)),Mn.eq (.pointer (some ⟨bS,oS+a*4,none⟩)),Mn.rat N (zs a),Mn.eq (.slice (some ⟨bS,oS,none⟩) m cS),Mn.eq (.int .i64 (i:Int)),Mn.eq (.pointer (some ⟨bS,oS+i*4,none⟩)),Mn.rat N (zs i),Mn.eq (.int .i64 sg),Mn.eq (.bool false),Mn.eq (.bool false)] [some 110,some 111,some 112,some 113,some 114,some 115,some 116,some 117,some 118,some 119,some 120,some 121,some 122,some 123,some 124,some 125] [] [true,true,true,true,true,true,true,true,true,true,true,true,true,true,true,true] 0 (by kernel_rfl) (by kernel_rfl) (by kernel_rfl) (by kernel_rfl) (by kernel_rfl) (by kernel_rfl) (by kernel_rfl) (by kernel_rfl) ?_ ?_
       ·intro i hi hl;have hi':i=0∨i=1∨i=2∨i=3∨i=4∨i=5∨i=6∨i=7∨i=8∨i=9∨i=10∨i=11∨i=12∨i=13∨i=14∨i=15:=by have h9:i < 16:=hi; omega
        clear hi
        rcases hi' with rfl | rfl | rfl | rfl | rfl | rfl | rfl | rfl | rfl | rfl | rfl | rfl | rfl | rfl | rfl | rfl
        ·clear hl;refine stp rfl ?_;intro ac wi eI hB hA K hK;have o11:=hB 11 (by kernel_rfl);simp only [List.getElem?_toArray,List.getElem?_cons_succ,List.getElem?_cons_zero] at o11;clear hB hA;go_simp;exact hK.out _ _ (Ext.refl _) rfl
        ·clear hl;refine stp rfl ?_;intro ac wi eI hB hA K hK;have o13:=hB 13 (by kernel_rfl);simp only [List.getElem?_toArray,List.getElem?_cons_succ,List.getElem?_cons_zero] at o13;clear hB hA;go_simp;exact hK.out _ _ (Ext.refl _) rfl
        ·clear hl;refine stp rfl ?_;intro ac wi eI hB hA K hK;obtain⟨_,s110,rfl⟩:=hA 0 (by kernel_rfl) 110 rfl;obtain⟨_,s111,rfl⟩:=hA 1 (by kernel_rfl) 111 rfl;clear hB hA;go_simp;exact hK.out _ _ (Ext.refl _) rfl
        ·clear hl;refine stp rfl ?_;intro ac wi eI hB hA K hK;obtain⟨_,s112,rfl⟩:=hA 2 (by kernel_rfl) 112 rfl;clear hB hA;have cc0:=eI.cell q0;go_simp;exact hK.out _ _ (Ext.refl _) rfl
        ·clear hl;refine stp rfl ?_;intro ac wi eI hB hA K hK;obtain⟨_,s113,rfl⟩:=hA 3 (by kernel_rfl) 113 rfl;clear hB hA;go_simp;exact hK.out _ _ (Ext.refl _) rfl
        ·clear hl;refine stp rfl ?_;intro ac wi eI hB hA K hK;obtain⟨_,s114,rfl⟩:=hA 4 (by kernel_rfl) 114 rfl;have o10:=hB 10 (by kernel_rfl);simp only [List.getElem?_toArray,List.getElem?_cons_succ,List.getElem?_cons_zero] at o10;clear hB hA;rw [if_pos (by simp [Region.wanted,yielded,s114])];go_simp;exact hK.out _ _ (Ext.refl _) rfl
        ·clear hl;refine stp rfl ?_;intro ac wi eI hB hA K hK;obtain⟨_,s114,rfl⟩:=hA 4 (by kernel_rfl) 114 rfl;have o13:=hB 13 (by kernel_rfl);simp only [List.getElem?_toArray,List.getElem?_cons_succ,List.getElem?_cons_zero] at o13;clear hB hA;rw [if_pos (by simp [Region.wanted,yielded,s114])];go_simp;exact hK.out _ _ (Ext.refl _) rfl
        ·clear hl;refine stp rfl ?_;intro ac wi eI hB hA K hK;obtain⟨_,s114,rfl⟩:=hA 4 (by kernel_rfl) 114 rfl;obtain⟨_,s115,rfl⟩:=hA 5 (by kernel_rfl) 115 rfl;obtain⟨_,s116,rfl⟩:=hA 6 (by kernel_rfl) 116 rfl;clear hB hA;rw [if_pos (by simp [Region.wanted,yielded,s114])];go_simp;exact hK.out _ _ (Ext.refl _) rfl
        ·clear hl;refine stp rfl ?_;intro ac wi eI hB hA K hK;obtain⟨_,s114,rfl⟩:=hA 4 (by kernel_rfl) 114 rfl;obtain⟨_,s117,rfl⟩:=hA 7 (by kernel_rfl) 117 rfl;clear hB hA;rw [if_pos (by simp [Region.wanted,yielded,s114])];have cc0:=eI.cell p0;have cc1:=eI.cell p1;have cc2:=eI.cell p2;have cc3:=eI.cell p3;go_simp;exact hK.out _ _ (Ext.refl _) (hRa.ext eI)
        ·clear hl;refine stp rfl ?_;intro ac wi eI hB hA K hK;obtain⟨_,s114,rfl⟩:=hA 4 (by kernel_rfl) 114 rfl;have o10:=hB 10 (by kernel_rfl);simp only [List.getElem?_toArray,List.getElem?_cons_succ,List.getElem?_cons_zero] at o10;clear hB hA;rw [if_pos (by simp [Region.wanted,yielded,s114])];go_simp;exact hK.out _ _ (Ext.refl _) rfl
        ·clear hl;refine stp rfl ?_;intro ac wi eI hB hA K hK;obtain⟨_,s114,rfl⟩:=hA 4 (by kernel_rfl) 114 rfl;have o8:=hB 8 (by kernel_rfl);simp only [List.getElem?_toArray,List.getElem?_cons_succ,List.getElem?_cons_zero] at o8;clear hB hA;rw [if_pos (by simp [Region.wanted,yielded,s114])];go_simp;exact hK.out _ _ (Ext.refl _) rfl
        ·clear hl;refine stp rfl ?_;intro ac wi eI hB hA K hK;obtain⟨_,s114,rfl⟩:=hA 4 (by kernel_rfl) 114 rfl;obtain⟨_,s119,rfl⟩:=hA 9 (by kernel_rfl) 119 rfl;obtain⟨_,s120,rfl⟩:=hA 10 (by kernel_rfl) 120 rfl;clear hB hA;rw [if_pos (by simp [Region.wanted,yielded,s114])];go_simp;exact hK.out _ _ (Ext.refl _) rfl
        ·clear hl;refine stp rfl ?_;intro ac wi eI hB hA K hK;obtain⟨_,s114,rfl⟩:=hA 4 (by kernel_rfl) 114 rfl;obtain⟨_,s121,rfl⟩:=hA 11 (by kernel_rfl) 121 rfl;clear hB hA;rw [if_pos (by simp [Region.wanted,yielded,s114])];have cc0:=eI.cell s0;have cc1:=eI.cell s1;have cc2:=eI.cell s2;have cc3:=eI.cell s3;go_simp;exact hK.out _ _ (Ext.refl _) (hRi.ext eI)
        ·clear hl;refine stp rfl ?_;intro ac wi eI hB hA K hK;obtain⟨_,s114,rfl⟩:=hA 4 (by kernel_rfl) 114 rfl;obtain⟨x118,s118,j118⟩:=hA 8 (by kernel_rfl) 118 rfl;replace j118:Mn.p (Mn.rat N (zs a)) x118 wi:=j118;obtain⟨x122,s122,j122⟩:=hA 12 (by kernel_rfl) 122 rfl;replace j122:Mn.p (Mn.rat N (zs i)) x122 wi:=j122;clear hB hA;rw [if_pos (by simp [Region.wanted,yielded,s114])];go_simp;refine (r2_compare j118 j122 HS1.out HS2.out HS3.out).mono ?_;rw [←hsg.out];rintro e wj ⟨rfl,ej⟩;go_wp2_with fail;exact hK.out _ _ ej rfl
        ·clear hl;refine stp rfl ?_;intro ac wi eI hB hA K hK;obtain⟨_,s114,rfl⟩:=hA 4 (by kernel_rfl) 114 rfl;obtain⟨_,s123,rfl⟩:=hA 13 (by kernel_rfl) 123 rfl;clear hB hA;rw [if_pos (by simp [Region.wanted,yielded,s114])];go_simp;exact hK.out _ _ (Ext.refl _) rfl
        ·clear hl;refine stp rfl ?_;intro ac wi eI hB hA K hK;obtain⟨_,s114,rfl⟩:=hA 4 (by kernel_rfl) 114 rfl;obtain⟨_,s124,rfl⟩:=hA 14 (by kernel_rfl) 124 rfl;clear hB hA;go_simp;exact hK.out _ _ (Ext.refl _) rfl
       intro vals wz eZ hJ;have J110:vals 0=(.slice (some ⟨bB,oB,none⟩) m cB):=hJ 0 (by decide) (by decide);have J111:vals 1=(.int .i64 (a:Int)):=hJ 1 (by decide) (by decide);have J112:vals 2=(.pointer (some ⟨bB,oB+a,none⟩)):=hJ 2 (by decide) (by decide);have J113:vals 3=(.bool true):=hJ 3 (by decide) (by decide);have J114:vals 4=(.bool true):=hJ 4 (by decide) (by decide);have J115:vals 5=(.slice (some ⟨bS,oS,none⟩) m cS):=hJ 5 (by decide) (by decide);have J116:vals 6=(.int .i64 (a:Int)):=hJ 6 (by decide) (by decide);have J117:vals 7=(.pointer (some ⟨bS,oS+a*4,none⟩)):=hJ 7 (by decide) (by decide);have J118:Mn.p (Mn.rat N (zs a)) (vals 8) wz:=hJ 8 (by decide) (by decide);have J119:vals 9=(.slice (some ⟨bS,oS,none⟩) m cS):=hJ 9 (by decide) (by decide);have J120:vals 10=(.int .i64 (i:Int)):=hJ 10 (by decide) (by decide);have J121:vals 11=(.pointer (some ⟨bS,oS+i*4,none⟩)):=hJ 11 (by decide) (by decide);have J122:Mn.p (Mn.rat N (zs i)) (vals 12) wz:=hJ 12 (by decide) (by decide);have J123:vals 13=(.int .i64 sg):=hJ 13 (by decide) (by decide);have J124:vals 14=(.bool false):=hJ 14 (by decide) (by decide);have J125:vals 15=(.bool false):=hJ 15 (by decide) (by decide);clear hJ;simp only [putAll,if_true,Bool.false_eq_true,if_false,Act.put,Nat.zero_add,Nat.reduceAdd,List.setIfInBounds_toArray,List.set_cons_zero,List.set_cons_succ,J110,J111,J112,J113,J114,J115,J116,J117,J119,J120,J121,J123,J124,J125]
       clear J110 J111 J112 J113 J114 J115 J116 J117 J119 J120 J121 J123 J124 J125
       generalize vals 8=z118 at J118 ⊢
       generalize vals 12=z122 at J122 ⊢
       refine stepL_done (by kernel_rfl) ?_ _;go_wp2;go_roundw
       case rel=>exact⟨a+1,by omega,by go_num,eV.trans eZ⟩
       case measure=>simp [intOf]; omega
     ·obtain rfl:m=a:=by omega
      go_wp2;go_roundw
      case rel=>exact⟨i+1,by omega,by go_num,eR.trans (e8.trans eV)⟩
      case measure=>simp [intOf]; omega
  ·obtain rfl:m=i:=by omega
   go_wp2;go_ret;exact⟨rfl,hEq⟩
end Go.Proofs.YthkkknjcoidioaaGreat
