import Derived.Test.YthkkknjcoidioaaGreatWb01
import Derived.Test.YthkkknjcoidioaaGreatWb02
import Derived.Test.YthkkknjcoidioaaGreatWb03
import Derived.Test.YthkkknjcoidioaaGreatWb04
import Derived.Test.YthkkknjcoidioaaGreatWb05
import Derived.Test.YthkkknjcoidioaaGreatWb06
import Derived.Test.YthkkknjcoidioaaGreatWb07
import Derived.Test.YthkkknjcoidioaaGreatWb08
import Derived.Test.YthkkknjcoidioaaGreatWb09
import Derived.Test.YthkkknjcoidioaaGreatWb10
import Derived.Test.YthkkknjcoidioaaGreatWb11
import Derived.Test.YthkkknjcoidioaaGreatWb12
import Derived.Test.YthkkknjcoidioaaGreatWb13
import Derived.Test.YthkkknjcoidioaaGreatWb14
import Derived.Test.YthkkknjcoidioaaGreatWb15
import Derived.Test.YthkkknjcoidioaaGreatWb16
import Derived.Test.YthkkknjcoidioaaGreatWb17
import Derived.Test.YthkkknjcoidioaaGreatWb18
import Derived.Test.YthkkknjcoidioaaGreatWb19
import Derived.Test.YthkkknjcoidioaaGreatWb20
import Derived.Test.YthkkknjcoidioaaGreatWb21
import Derived.Test.YthkkknjcoidioaaGreatWb22
import Derived.Test.YthkkknjcoidioaaGreatWb23
import Derived.Test.YthkkknjcoidioaaGreatWb24
import Derived.Test.YthkkknjcoidioaaGreatWb25
import Derived.Test.YthkkknjcoidioaaGreatWb26
import Derived.Test.YthkkknjcoidioaaGreatWb27
import Derived.Test.YthkkknjcoidioaaGreatWb28
import Derived.Test.YthkkknjcoidioaaGreatWb29
import Derived.Test.YthkkknjcoidioaaGreatWb30
import Derived.Test.YthkkknjcoidioaaGreatWb31
import Derived.Test.YthkkknjcoidioaaGreatWb32
import Derived.Test.YthkkknjcoidioaaGreatWb33
import Derived.Test.YthkkknjcoidioaaGreatWb34
import Derived.Test.YthkkknjcoidioaaGreatWb35
import Derived.Test.YthkkknjcoidioaaGreatWb36
import Derived.Test.YthkkknjcoidioaaGreatWb37
import Derived.Test.YthkkknjcoidioaaGreatWb38
import Derived.Test.YthkkknjcoidioaaGreatWb39
import Derived.Test.YthkkknjcoidioaaGreatWb40
import Derived.Test.YthkkknjcoidioaaGreatWb41
import Derived.Test.YthkkknjcoidioaaGreatWb42
import Derived.Test.YthkkknjcoidioaaGreatWb43
import Derived.Test.YthkkknjcoidioaaGreatWb46
import Derived.Deep.AppendLies
import Derived.WalkKit
import Derived.WalkSpells
import Derived.WalkLawsBesides
import Derived.Lib.Hide
import Derived.Deep.RegionHeld3
import Derived.Deep.QuietTactic
import Derived.BigQuiet
import Derived.Maps.AppendAt
import Derived.Deep.DeepCutAuto
import Derived.Deep.RegionWith
import Derived.Deep.DeepMust
import Derived.Deep.CutBlock
import Derived.OrdersIn
import Derived.RegionTactic
import Derived.RangeFuncNested
import Derived.RangeFuncBound
import Derived.RangeFuncCalls
import Derived.RangeFuncLeaves
import Derived.RangeFuncBox
import Derived.Shelf.Abstract
import Derived.OwnWalkIn
import Derived.TacticsInMore
import Derived.LoopNIn
import Derived.LoopIn
import Derived.Deep.RegionLaw
import Derived.Lib.SliceRun
import Derived.Laws.IdiomCopy
import Derived.Shelf.Bits.Mul64
import Derived.Laws.EntriesVeiled
import Derived.Deep.Slices
import Derived.Deep.Strs
import Derived.Lib.SmallJoins
import Derived.ProofKit
import Derived.OpenShut
import Derived.Below
import Derived.SizedLaws
set_option linter.all false
set_option maxHeartbeats 8000000
namespace Go.Proofs.YthkkknjcoidioaaGreat
def aug (n:Nat) (N:Nat→Nat→Rat) (b:Nat→Rat) (i c:Nat):Rat:=if c < n then N i c else b i
theorem aug_null {n:Nat} {N:Nat→Nat→Rat} {b x:Nat→Rat} (i:Nat):sum (n+1) (fun c=>aug n N b i c*(if c < n then x c else -1))=sum n (fun c=>N i c*x c) - b i:=by
 rw [sum_succ,sum_congr (g:=fun c=>N i c*x c) (fun c hc=>by unfold aug; rw [if_pos hc,if_pos hc])];unfold aug;rw [if_neg (Nat.lt_irrefl n),if_neg (Nat.lt_irrefl n)]
 grind
def sol (n:Nat) (M:Nat→Nat→Rat) (p:List Nat) (c:Nat):Rat:=sum p.length (fun s=>dlt (p[s]?.getD 0) c*M s n)
theorem sum_sol {n:Nat} {M:Nat→Nat→Rat} {p:List Nat} (hp:∀ s,s < p.length→p[s]?.getD 0 < n) (f:Nat→Rat):sum n (fun c=>f c*sol n M p c)=sum p.length (fun s=>f (p[s]?.getD 0)*M s n):=by
 unfold sol;have e:∀ c,f c*sum p.length (fun s=>dlt (p[s]?.getD 0) c*M s n)=sum p.length (fun s=>f c*(dlt (p[s]?.getD 0) c*M s n)):=fun c=>(sum_mul _ _ _).symm
 rw [sum_congr (fun c _=>e c),sum_comm];refine sum_congr fun s hs=>?_
 have e2:∀ c,f c*(dlt (p[s]?.getD 0) c*M s n)=dlt (p[s]?.getD 0) c*(f c*M s n):=fun c=>by grind
 rw [sum_congr (fun c _=>e2 c),sum_dlt (hp s hs) (fun c=>f c*M s n)]
theorem solve_ok {m n:Nat} {N M:Nat→Nat→Rat} {b:Nat→Rat} {p:List Nat} (h:Rref m (n+1) (aug n N b) M p) (hn:∀ s,s < p.length→p[s]?.getD 0≠n) :
  ∀ i,i < m→sum n (fun c=>N i c*sol n M p c)=b i:=by
 have hp:∀ s,s < p.length→p[s]?.getD 0 < n:=fun s hs=>by have:=h.low s hs; have:=hn s hs; omega
 have hz:∀ i,i < m→sum (n+1) (fun c=>M i c*(if c < n then sol n M p c else -1))=0:=by
  intro i hi;rw [sum_succ,if_neg (Nat.lt_irrefl n),sum_congr (g:=fun c=>M i c*sol n M p c) (fun c hc=>by rw [if_pos hc]),sum_sol hp];rw [sum_congr (g:=fun s=>dlt i s*M s n) (fun s hs=>by rw [h.unit s hs i hi])]
  rcases Nat.lt_or_ge i p.length with h1 | h1
  ·rw [sum_dlt h1 (fun s=>M s n)]; grind
  ·rw [h.zero i h1 hi n (by omega),sum_eq_zero (fun s hs=>by rw [dlt_ne (by omega)]; grind)]; grind
 intro i hi;have:=h.back.null hz i hi;rw [aug_null] at this
 grind
theorem solve_no {m n:Nat} {N M:Nat→Nat→Rat} {b:Nat→Rat} {p:List Nat} (h:Rref m (n+1) (aug n N b) M p) {s:Nat} (hs:s < p.length) (hn:p[s]?.getD 0=n) :
  ∃ y:Nat→Rat,(∀ c,c < n→sum m (fun i=>y i*N i c)=0)∧sum m (fun i=>y i*b i)=1:=by
 obtain⟨T,hT⟩:=h.there;have hsm:s < m:=Nat.lt_of_lt_of_le hs h.len;refine⟨T s,fun c hc=>?_,?_⟩
 ·have h1:=hT s hsm c;rw [h.left s hs c (by omega),mm] at h1;rw [h1];exact sum_congr fun k _=>by unfold aug; rw [if_pos hc]
 ·have h1:=hT s hsm n;have h2:=h.unit s hs s hsm;rw [hn,dlt_same] at h2;rw [h2,mm] at h1;rw [h1];exact sum_congr fun k _=>by unfold aug; rw [if_neg (Nat.lt_irrefl n)]
theorem reg_solve {n:Nat} {K:Nat→Nat→Rat} (hK:Reg n K) (b:Nat→Rat):(rref n (aug n K b) (n+1)).2.contains n=false∧∀ i,i < n→sum n (fun c=>K i c*sol n (rref n (aug n K b) (n+1)).1 (rref n (aug n K b) (n+1)).2 c)=b i:=by
 have hR:=rref_ok n (aug n K b) (n+1)
 have hno:∀ s,s < (rref n (aug n K b) (n+1)).2.length→(rref n (aug n K b) (n+1)).2[s]?.getD 0≠n:=by
  intro s hs he;obtain⟨y,h1,h2⟩:=solve_no hR hs he;obtain⟨h3,-⟩:=inv_ok (rref_ok n (besideI n K) n) ((inv_iff n K).2 hK)
  have hy:∀ c,c < n→y c=0:=by
   intro c hc
   have e:sum n (fun d=>sum n (fun i=>y i*K i d)*(rref n (besideI n K) n).1 d (n+c))=y c:=by
    have e1:sum n (fun d=>sum n (fun i=>y i*K i d)*(rref n (besideI n K) n).1 d (n+c))=sum n (fun i=>y i*mm n K (fun a b=>(rref n (besideI n K) n).1 a (n+b)) i c):=by
     rw [show sum n (fun d=>sum n (fun i=>y i*K i d)*(rref n (besideI n K) n).1 d (n+c))=sum n (fun d=>sum n (fun i=>y i*(K i d*(rref n (besideI n K) n).1 d (n+c)))) from sum_congr fun d _=>by rw [←sum_mul_right]; exact sum_congr fun i _=>by grind,sum_comm];exact sum_congr fun i _=>by unfold mm; rw [sum_mul]
    rw [e1,show sum n (fun i=>y i*mm n K (fun a b=>(rref n (besideI n K) n).1 a (n+b)) i c)=sum n (fun i=>y i*dlt i c) from sum_congr fun i hi=>by rw [h3 i hi c hc]];exact sum_dlt' hc y
   rw [←e];exact sum_eq_zero fun d hd=>by rw [h1 d hd]; grind
  rw [sum_eq_zero (fun i hi=>by rw [hy i hi]; grind)] at h2;exact absurd h2 (by decide)
 refine⟨?_,solve_ok hR hno⟩;cases hc:(rref n (aug n K b) (n+1)).2.contains n with
 | false=>rfl
 | true =>
  rw [List.contains_iff_mem] at hc;obtain⟨s,hs,he⟩:=List.getElem_of_mem hc;exact absurd (by rw [List.getElem?_eq_getElem hs]; simpa using he) (hno s hs)
end Go.Proofs.YthkkknjcoidioaaGreat
namespace Go.Proofs.YthkkknjcoidioaaGreat
open Go.RowKit
def nsv (n:Nat) (K:Nat→Nat→Rat) (b:Nat→Rat):Nat→Rat:=sol n (rref n (aug n K b) (n+1)).1 (rref n (aug n K b) (n+1)).2
end Go.Proofs.YthkkknjcoidioaaGreat
namespace Go.Proofs.YthkkknjcoidioaaGreat
theorem nsv_sum {n:Nat} {K:Nat→Nat→Rat} {b:Nat→Rat} (h:Reg n K):∀ i,i < n→sum n (fun c=>K i c*nsv n K b c)=b i:=(reg_solve h b).2
theorem nsv_nsol {m n:Nat} {X:Nat→Nat→Rat} {y p:Nat→Rat} (h:Reg n (nmat X p m)):Nsol m n X p y (nsv n (nmat X p m) (nrhs X y p m)):=by
 intro a ha;rw [sum_congr (fun b _=>by rw [←nmat_nm5]),nsv_sum h a ha];exact sum_congr fun t _=>by grind
theorem inv_apply {n:Nat} {K:Nat→Nat→Rat} (h:Reg n K) (b:Nat→Rat):∀ i,i < n→sum n (fun c=>invM n K i c*b c)=nsv n K b i:=by
 refine reg_unique h (b:=b) (fun i hi=>?_) (nsv_sum h)
 have e:sum n (fun c=>K i c*sum n (fun d=>invM n K c d*b d))=sum n (fun d=>mm n K (invM n K) i d*b d):=by
  unfold mm;rw [sum_congr (g:=fun c=>sum n (fun d=>K i c*invM n K c d*b d)) (fun c _=>by rw [←sum_mul]; exact sum_congr fun d _=>by grind),sum_comm];exact sum_congr fun d _=>by rw [sum_mul_right]
 rw [e,sum_congr (fun d hd=>by rw [(regInv h).2 i hi d hd])];exact sum_dlt hi b
theorem xS_nsv {m n:Nat} {X:Nat→Nat→Rat} {y p:Nat→Rat} (h:Reg n (nmat X p m)):∀ i,i < n→xS m n X y p i=nsv n (nmat X p m) (nrhs X y p m) i:=inv_apply h _
theorem xS_nsol {m n:Nat} {X:Nat→Nat→Rat} {y p:Nat→Rat} (h:Reg n (nmat X p m)):Nsol m n X p y (xS m n X y p):=by
 intro a ha;rw [←nsv_nsol h a ha];exact sum_congr fun b hb=>by rw [xS_nsv h b hb]
section
variable {m n:Nat} {X:Nat→Nat→Rat} {y p:Nat→Rat}
end
end Go.Proofs.YthkkknjcoidioaaGreat
namespace Go.Proofs.YthkkknjcoidioaaGreat
open Go.RowKit
theorem one_raw {N:Nat} {w:World} {g:Nat} {R:Raw} {s t:Value} (hN:N≤w.heap.size) (h:w.heap[g]?=some (.cells #[.bool R.b1,s,.bool R.b2,t] 36 (0,0))) (h1:Gs N w s R.l1) (h2:Gs N w t R.l2):LsR N 0 w.heap.size w (.slice (some ⟨g,0,none⟩) 1 1) 1 (fun _=>R):=by
 obtain⟨p0,p1,p2,p3,-⟩:=cells4 h;refine⟨hN,Nat.le_refl _,_,1,rfl,Nat.le_refl _,by unfold maxLen; omega,fun _=>⟨g,0,rfl,Nat.zero_le _,blk_lt h,fun i hi=>?_⟩⟩;obtain rfl:i=0:=by omega
 exact⟨s,t,p0,p1,p2,p3,h1,h2⟩
end Go.Proofs.YthkkknjcoidioaaGreat
namespace Go.Proofs.YthkkknjcoidioaaGreat
open Go.RowKit Go.ChangeShapes Go.ChangeAt
theorem cells_lin:Tryz.prog.cellsOf 26=3:=by kernel_rfl
section
variable {H:Type} {enc:TypeId×Value→H} {w:World} {spare:Nat→Bool} {held:Bool}
instance:Inhabited Raw:=⟨⟨false,[],false,[]⟩⟩
end
end Go.Proofs.YthkkknjcoidioaaGreat
namespace Go.Proofs.YthkkknjcoidioaaGreat
open Go.RowKit
set_option maxRecDepth 100000 in
theorem changes_out {N lo hi:Nat} {w:World} {v u:Value} {Z:Lin} {R:Raw} (h:LinV N lo hi w v Z) (hx:RawV N w u R) (hsx:RawL R) (z:Int) (hs:few34 7 4 Z=false) :
  Calls Tryz.prog 8 #[v,.int .i64 z,u] w (RetV w (.bool true)):=by
 have hI:=h;obtain⟨A1,c1,A2,c2,A3,c3,rfl,-⟩:=h.parts;obtain⟨Q1,k1,l1,Q2,k2,l2,rfl,gx1,gx2⟩:=hx.parts;have HS:=Lib.hid hs;clear h hs hx;go_enter Tryz.func8,Tryz.ntmps8;go_wp2_with (go_at_call 10; refine Hid.out ?_);refine boxesC2 ?_;intro W hE hsz B0 B1;refine (l38_known W).mono ?_;rintro e w1 ⟨rfl,e1⟩;replace hE:=hE.trans e1;replace B0:=e1.block B0;replace B1:=e1.block B1;replace hsz:=blk_lt B1;clear e1;obtain⟨a0,a1,a2,-⟩:=cells3 B0;obtain⟨b0,b1,b2,b3,-⟩:=cells4 B1;go_wp2_with (go_at_call 11; refine Hid.out ?_);refine (l38_few (hI.ext hE)).mono ?_;rintro e w2 ⟨rfl,e2⟩;rw [HS.out];replace hE:=hE.trans e2;replace B0:=e2.block B0;replace B1:=e2.block B1;replace hsz:=blk_lt B1;clear a0 a1 a2 b0 b1 b2 b3;obtain⟨a0,a1,a2,-⟩:=cells3 B0;obtain⟨b0,b1,b2,b3,-⟩:=cells4 B1;clear e2;go_wp2;go_ret;exact⟨rfl,hE⟩
set_option maxRecDepth 100000 in
theorem changes_bad {N lo hi:Nat} {w:World} {v u:Value} {Z:Lin} {R:Raw} (h:LinV N lo hi w v Z) (hx:RawV N w u R) (hsx:RawL R) (z:Int) (hf:few34 7 4 Z=true) (hc:code38 Z 1 (fun _=>R)≠0∨(code38 Z 1 (fun _=>R)=0∧(inB Z.m z=false∨(inB Z.m z=true∧6 < dgn R)))) :
  Calls Tryz.prog 8 #[v,.int .i64 z,u] w (RetV w (.bool true)):=by
 have hI:=h;have hN:N≤w.heap.size:=hx.le;have hIx:=hx;obtain⟨A1,c1,A2,c2,A3,c3,rfl,-⟩:=h.parts;obtain⟨Q1,k1,l1,Q2,k2,l2,rfl,gx1,gx2⟩:=hx.parts;have HF:=Lib.hid hf;have HSX:=Lib.hid hsx
 rcases hc with hc | ⟨hc,hi' | ⟨hi',hd⟩⟩
 ·obtain⟨r,hr⟩:=hid_eq (code38 Z 1 (fun _=>R));have hr0:(r == 0)=false:=by rw [hr.out]; simpa using hc
  have hr1:(r != 0)=true:=by simpa using hr0
  clear h hf hc hx hsx;go_enter Tryz.func8,Tryz.ntmps8;go_wp2_with (go_at_call 10; refine Hid.out ?_);refine boxesC2 ?_;intro W hE hsz B0 B1;refine (l38_known W).mono ?_;rintro e w1 ⟨rfl,e1⟩;replace hE:=hE.trans e1;replace B0:=e1.block B0;replace B1:=e1.block B1;replace hsz:=blk_lt B1;clear e1;obtain⟨a0,a1,a2,-⟩:=cells3 B0;obtain⟨b0,b1,b2,b3,-⟩:=cells4 B1;go_wp2_with (go_at_call 11; refine Hid.out ?_);refine (l38_few (hI.ext hE)).mono ?_;rintro e w2 ⟨rfl,e2⟩;rw [HF.out];replace hE:=hE.trans e2;replace B0:=e2.block B0;replace B1:=e2.block B1;replace hsz:=blk_lt B1;clear a0 a1 a2 b0 b1 b2 b3;obtain⟨a0,a1,a2,-⟩:=cells3 B0;obtain⟨b0,b1,b2,b3,-⟩:=cells4 B1;clear e2;go_wp2_with (go_at_call 12; refine Hid.out ?_);refine boxesC1 ?_;intro W3 f3 hsz3 BS;have hE3:=hE.trans f3;refine (l38_checked (R:=fun _=>R) (hI.ext hE3) (one_raw (by have:=hE3.size; omega) BS (gx1.ext hE3) (gx2.ext hE3)) HF.out (fun i _=>HSX.out)).mono ?_;rintro e w3 ⟨rfl,e3⟩;rw [←hr.out];replace e3:=f3.trans e3;replace hE:=hE.trans e3;replace B0:=e3.block B0;replace B1:=e3.block B1;replace hsz:=blk_lt B1;clear a0 a1 a2 b0 b1 b2 b3;obtain⟨a0,a1,a2,-⟩:=cells3 B0;obtain⟨b0,b1,b2,b3,-⟩:=cells4 B1;clear e3 f3 BS hE3 hsz3;go_wp2;go_ret;exact⟨rfl,hE⟩
 ·have HC:=Lib.hid hc;have HB:=Lib.hid hi';clear h hf hc hi' hx hsx;go_enter Tryz.func8,Tryz.ntmps8;go_wp2_with (go_at_call 10; refine Hid.out ?_);refine boxesC2 ?_;intro W hE hsz B0 B1;refine (l38_known W).mono ?_;rintro e w1 ⟨rfl,e1⟩;replace hE:=hE.trans e1;replace B0:=e1.block B0;replace B1:=e1.block B1;replace hsz:=blk_lt B1;clear e1;obtain⟨a0,a1,a2,-⟩:=cells3 B0;obtain⟨b0,b1,b2,b3,-⟩:=cells4 B1;go_wp2_with (go_at_call 11; refine Hid.out ?_);refine (l38_few (hI.ext hE)).mono ?_;rintro e w2 ⟨rfl,e2⟩;rw [HF.out];replace hE:=hE.trans e2;replace B0:=e2.block B0;replace B1:=e2.block B1;replace hsz:=blk_lt B1;clear a0 a1 a2 b0 b1 b2 b3;obtain⟨a0,a1,a2,-⟩:=cells3 B0;obtain⟨b0,b1,b2,b3,-⟩:=cells4 B1;clear e2;go_wp2_with (go_at_call 12; refine Hid.out ?_);refine boxesC1 ?_;intro W3 f3 hsz3 BS;have hE3:=hE.trans f3;refine (l38_checked (R:=fun _=>R) (hI.ext hE3) (one_raw (by have:=hE3.size; omega) BS (gx1.ext hE3) (gx2.ext hE3)) HF.out (fun i _=>HSX.out)).mono ?_;rintro e w3 ⟨rfl,e3⟩;rw [HC.out];replace e3:=f3.trans e3;replace hE:=hE.trans e3;replace B0:=e3.block B0;replace B1:=e3.block B1;replace hsz:=blk_lt B1;clear a0 a1 a2 b0 b1 b2 b3;obtain⟨a0,a1,a2,-⟩:=cells3 B0;obtain⟨b0,b1,b2,b3,-⟩:=cells4 B1;clear e3 f3 BS hE3 hsz3;go_wp2_with (go_at_call 13; refine Hid.out ?_);refine (l38_inside (hI.ext hE) _).mono ?_;rintro e w4 ⟨rfl,e4⟩;rw [HB.out];replace hE:=hE.trans e4;replace B0:=e4.block B0;replace B1:=e4.block B1
  replace hsz:=blk_lt B1;clear a0 a1 a2 b0 b1 b2 b3;obtain⟨a0,a1,a2,-⟩:=cells3 B0;obtain⟨b0,b1,b2,b3,-⟩:=cells4 B1;clear e4;go_wp2;go_ret;exact⟨rfl,hE⟩
 ·have HC:=Lib.hid hc;have HB:=Lib.hid hi';obtain⟨dz,hdz⟩:=hid_eq ((R.l1.length+R.l2.length:Nat):Int);have hd1:6 < dz:=by rw [hdz.out]; unfold dgn at hd; omega
  have hd2:decide (6 < dz)=true:=decide_eq_true hd1;clear h hf hc hi' hx hsx hd;go_enter Tryz.func8,Tryz.ntmps8;go_wp2_with (go_at_call 10; refine Hid.out ?_);refine boxesC2 ?_;intro W hE hsz B0 B1;refine (l38_known W).mono ?_;rintro e w1 ⟨rfl,e1⟩;replace hE:=hE.trans e1;replace B0:=e1.block B0;replace B1:=e1.block B1;replace hsz:=blk_lt B1;clear e1;obtain⟨a0,a1,a2,-⟩:=cells3 B0;obtain⟨b0,b1,b2,b3,-⟩:=cells4 B1;go_wp2_with (go_at_call 11; refine Hid.out ?_);refine (l38_few (hI.ext hE)).mono ?_;rintro e w2 ⟨rfl,e2⟩;rw [HF.out];replace hE:=hE.trans e2;replace B0:=e2.block B0;replace B1:=e2.block B1;replace hsz:=blk_lt B1;clear a0 a1 a2 b0 b1 b2 b3;obtain⟨a0,a1,a2,-⟩:=cells3 B0;obtain⟨b0,b1,b2,b3,-⟩:=cells4 B1;clear e2;go_wp2_with (go_at_call 12; refine Hid.out ?_);refine boxesC1 ?_;intro W3 f3 hsz3 BS;have hE3:=hE.trans f3;refine (l38_checked (R:=fun _=>R) (hI.ext hE3) (one_raw (by have:=hE3.size; omega) BS (gx1.ext hE3) (gx2.ext hE3)) HF.out (fun i _=>HSX.out)).mono ?_;rintro e w3 ⟨rfl,e3⟩;rw [HC.out];replace e3:=f3.trans e3;replace hE:=hE.trans e3;replace B0:=e3.block B0;replace B1:=e3.block B1;replace hsz:=blk_lt B1;clear a0 a1 a2 b0 b1 b2 b3;obtain⟨a0,a1,a2,-⟩:=cells3 B0;obtain⟨b0,b1,b2,b3,-⟩:=cells4 B1;clear e3 f3 BS hE3 hsz3;go_wp2_with (go_at_call 13; refine Hid.out ?_);refine (l38_inside (hI.ext hE) _).mono ?_;rintro e w4 ⟨rfl,e4⟩;rw [HB.out];replace hE:=hE.trans e4;replace B0:=e4.block B0
  replace B1:=e4.block B1;replace hsz:=blk_lt B1;clear a0 a1 a2 b0 b1 b2 b3;obtain⟨a0,a1,a2,-⟩:=cells3 B0;obtain⟨b0,b1,b2,b3,-⟩:=cells4 B1;clear e4;go_wp2_with (go_at_call 21; refine Hid.out ?_);refine (r2_digitsN (hIx.ext hE) HSX.out).mono ?_;rintro e w5 ⟨rfl,e5⟩;rw [←hdz.out];replace hE:=hE.trans e5;replace B0:=e5.block B0;replace B1:=e5.block B1;replace hsz:=blk_lt B1;clear a0 a1 a2 b0 b1 b2 b3;obtain⟨a0,a1,a2,-⟩:=cells3 B0;obtain⟨b0,b1,b2,b3,-⟩:=cells4 B1;clear e5;go_wp2;go_ret;exact⟨rfl,hE⟩
theorem ch_eq {m n:Nat} {X:Nat→Nat→Rat} {y p:Nat→Rat} {b:Rat} (d:Md m n X y p) (hr:Reg n (nmat X p m)) {i j:Nat} (hi:i < m) (hj:j < n) :
  xS m n X (upd y i (y i+b)) p j - xS m n X y p j=b*(p i*gS m n X p i j) :=
 (d.inv2 hr).changes hi (fun k _=>by unfold upd; split <;> simp_all) (xS_nsol hr) (xS_nsol hr) hj
theorem Md.raised {m n:Nat} {X:Nat→Nat→Rat} {y p:Nat→Rat} {b:Rat} (d:Md m n X y p) (hy:HtL m 17 y) (hb:Ht 180 b) {i:Nat} (hi:i < m):Md m n X (upd y i (y i+b)) p :=
 ⟨d.m0,d.m7,d.n0,d.n4,d.pos,d.hX,fun k hk=>by
  unfold upd
  split
  ·exact ((hy i hi).add hb).mono (by omega)
  ·exact d.hy k hk,d.hp⟩
set_option maxRecDepth 100000 in
theorem changes_good {N lo hi:Nat} {w:World} {A1 A2 A3:Option Addr} {c1 c2 c3 m n:Nat} {X:Nat→Nat→Rat} {y p:Nat→Rat} {Z:Lin} {R:Raw} {u:Value} {b:Rat} (hI:LinV N lo hi w (.agg #[.slice A1 m c1,.slice A2 m c2,.slice A3 m c3]) Z) (hm:Z.m=m) (hf:few34 7 4 Z=true) (hc:code38 Z 1 (fun _=>R)=0)
  (h1:MtV N lo hi w (.slice A1 m c1) m n X) (h2:LsV N lo hi w (.slice A2 m c2) m y) (h3:LsV N lo hi w (.slice A3 m c3) m p) (hx:RawV N w u R) (hxr:RatV N w u b) (hsx:RawL R) (hdg:dgn R≤6) (hbh:Ht 180 b) (d:Md m n X y p) (hy17:HtL m 17 y) (hr:Reg n (nmat X p m)) (z:Int) (hz:inB m z=true) :
  Calls Tryz.prog 8 #[.agg #[.slice A1 m c1,.slice A2 m c2,.slice A3 m c3],.int .i64 z,u] w (RetV w (.bool true)):=by
 obtain⟨i,hiz⟩:∃ i,i=z.toNat:=⟨_,rfl⟩
 have him:i < m:=by rw [hiz]; exact (inB_true hz).2
 have hzi:z=(i:Int):=by rw [hiz]; exact (inB_true hz).1
 have HB:Hid (inB Z.m z=true):=by rw [Hid,hm]; exact hz
 have HBm:Hid (inB m z=true):=hz;have HF:=Lib.hid hf;have HC:=Lib.hid hc;have HD:=Lib.hid d;have HG:=Lib.hid hr;have HD2:=Lib.hid (d.raised hy17 hbh him);clear hiz;subst hzi;have HIZ:Hid (((i:Nat):Int).toNat=i):=Int.toNat_natCast i;have hI1:=h1;have hI2:=h2;have hI3:=h3;have hIx:=hx;have hIr:=hxr;have hN:=h1.le;have hm0:=d.m0;have hm7:=d.m7;have hn0:=d.n0;have hn4:=d.n4;have HSX:=Lib.hid hsx;have HCH:Hid (∀ j,j < n→xS m n X (upd y i (y i+b)) p j - xS m n X y p j=b*(p i*gS m n X p i j)):=fun j hj=>ch_eq d hr him hj
 have HZB:=Lib.hid (hbh.sz (by omega));have HZY:=Lib.hid ((hy17 i him).sz (by omega));have HZX:Hid (∀ j,j < n→Sz (xS m n X y p j)∧Sz (xS m n X (upd y i (y i+b)) p j)∧Sz (xS m n X (upd y i (y i+b)) p j - xS m n X y p j)∧Sz (p i*gS m n X p i j)):=fun j hj=>⟨(d.x_ht j hj).sz (by omega),(HD2.out.x_ht j hj).sz (by omega),((HD2.out.x_ht j hj).sub (d.x_ht j hj)).sz (by omega),((d.hp i him).mul (d.g_ht him j hj)).sz (by omega)⟩
 obtain⟨dz,hdz⟩:=hid_eq ((R.l1.length+R.l2.length:Nat):Int);have hd1:¬ 6 < dz:=by rw [hdz.out]; unfold dgn at hdg; omega
 have hd2:decide (6 < dz)=false:=decide_eq_false hd1;obtain⟨Q1,k1,l1,Q2,k2,l2,rfl,gx1,gx2⟩:=hx.parts;clear hz hf hc h1 h2 h3 d hr hm hx hxr hsx hdg hbh hy17;go_enter Tryz.func8,Tryz.ntmps8;go_wp2_with (go_at_call 10; refine Hid.out ?_);refine boxesC2 ?_;intro W hE hsz B0 B1;refine (l38_known W).mono ?_;rintro e w1 ⟨rfl,e1⟩;replace hE:=hE.trans e1;replace B0:=e1.block B0;replace B1:=e1.block B1;replace hsz:=blk_lt B1;clear e1;obtain⟨a0,a1,a2,-⟩:=cells3 B0;obtain⟨b0,b1,b2,b3,-⟩:=cells4 B1;go_wp2_with (go_at_call 11; refine Hid.out ?_);refine (l38_few (hI.ext hE)).mono ?_;rintro e w2 ⟨rfl,e2⟩;rw [HF.out];replace hE:=hE.trans e2;replace B0:=e2.block B0;replace B1:=e2.block B1;replace hsz:=blk_lt B1;clear a0 a1 a2 b0 b1 b2 b3;obtain⟨a0,a1,a2,-⟩:=cells3 B0;obtain⟨b0,b1,b2,b3,-⟩:=cells4 B1;clear e2;go_wp2_with (go_at_call 12; refine Hid.out ?_);refine boxesC1 ?_;intro W3 f3 hsz3 BS;have hE3:=hE.trans f3;refine (l38_checked (R:=fun _=>R) (hI.ext hE3) (one_raw (by have:=hE3.size; omega) BS (gx1.ext hE3) (gx2.ext hE3)) HF.out (fun i _=>HSX.out)).mono ?_;rintro e w3 ⟨rfl,e3⟩;rw [HC.out];replace e3:=f3.trans e3;replace hE:=hE.trans e3;replace B0:=e3.block B0;replace B1:=e3.block B1;replace hsz:=blk_lt B1;clear a0 a1 a2 b0 b1 b2 b3;obtain⟨a0,a1,a2,-⟩:=cells3 B0;obtain⟨b0,b1,b2,b3,-⟩:=cells4 B1;clear e3 f3 BS hE3 hsz3;go_wp2_with (go_at_call 13; refine Hid.out ?_);refine (l38_inside (hI.ext hE) _).mono ?_
 rintro e w4 ⟨rfl,e4⟩;rw [HB.out];replace hE:=hE.trans e4;replace B0:=e4.block B0;replace B1:=e4.block B1;replace hsz:=blk_lt B1;clear a0 a1 a2 b0 b1 b2 b3;obtain⟨a0,a1,a2,-⟩:=cells3 B0;obtain⟨b0,b1,b2,b3,-⟩:=cells4 B1;clear e4;go_wp2_with (go_at_call 21; refine Hid.out ?_);refine (r2_digitsN (hIx.ext hE) HSX.out).mono ?_;rintro e w5 ⟨rfl,e5⟩;rw [←hdz.out];replace hE:=hE.trans e5;replace B0:=e5.block B0;replace B1:=e5.block B1;replace hsz:=blk_lt B1;clear a0 a1 a2 b0 b1 b2 b3;obtain⟨a0,a1,a2,-⟩:=cells3 B0;obtain⟨b0,b1,b2,b3,-⟩:=cells4 B1;clear e5;go_wp2_with (go_at_call 43; refine Hid.out ?_);clear hd1 hd2;have hs5:=hE.size;refine (sn_External (hI1.ext hE) (hI2.ext hE) (hI3.ext hE) HD.out HG.out _ HBm.out).mono ?_;rw [HIZ.out];rintro e w6 ⟨AE,cE,rfl,hEx,e6⟩;replace hE:=hE.trans e6;replace B0:=e6.block B0;replace B1:=e6.block B1;replace hsz:=blk_lt B1;clear a0 a1 a2 b0 b1 b2 b3;obtain⟨a0,a1,a2,-⟩:=cells3 B0;obtain⟨b0,b1,b2,b3,-⟩:=cells4 B1;clear e6;obtain⟨e1,off1,rfl,-,-,hx1⟩:=(hI1.ext hE).addr hm0;obtain⟨A0,c0,p0,hc0,hm0',-⟩:=hx1 0 hm0;rw [Nat.add_zero] at p0;unfold maxLen at hm0';clear hx1;go_upto_region 9 with (fail);clear p0 hc0 hm0';refine boxes1 ?_;intro w7 e7 hsz7 B9;obtain⟨g9,hg9⟩:∃ g9,g9=w6.heap.size:=⟨_,rfl⟩
 have hg9a:w.heap.size+1 < g9:=by omega
 have hEx2:LsV N w.heap.size g9 w7 (.slice AE n cE) n (fun k=>p i*gS m n X p i k):=by rw [hg9]; exact LsR.wide (LsR.ext hEx e7) hs5 (Nat.le_refl _) e7.size
 rw [←hg9] at B9 ⊢;clear hEx hg9 hs5;replace hE:=hE.trans e7;replace B0:=e7.block B0;replace B1:=e7.block B1;replace hsz:=blk_lt B1;clear a0 a1 a2 b0 b1 b2 b3;obtain⟨a0,a1,a2,-⟩:=cells3 B0;obtain⟨b0,b1,b2,b3,-⟩:=cells4 B1;clear e7 hsz7;obtain⟨d0,d1,d2,-⟩:=cells3 B9;go_wp2_with (go_at_call 32; refine Hid.out ?_);refine (sl_clone (hI2.ext hE) hm0 (by omega)).mono ?_;rintro e w8 ⟨gy,cy,rfl,hgy,hcmy,hncy,hry,e8⟩;have hgy9:g9 < gy:=Nat.lt_of_lt_of_le (blk_lt B9) hgy;replace B9:=e8.block B9;replace hEx2:=LsR.ext hEx2 e8;replace hE:=hE.trans e8;replace B0:=e8.block B0;replace B1:=e8.block B1;replace hsz:=blk_lt B1;clear a0 a1 a2 b0 b1 b2 b3;obtain⟨a0,a1,a2,-⟩:=cells3 B0;obtain⟨b0,b1,b2,b3,-⟩:=cells4 B1;clear e8 d0 d1 d2 hgy;obtain⟨d0,d1,d2,f0,f1,f2⟩:=cells3 B9;unfold maxLen at hcmy;go_upto_region 10 with (fail);obtain⟨w9,E9,D9,U9⟩:=set31 B9 (.slice (some ⟨gy,0,none⟩) m cy);rw [E9];have C9:=U9.chg (NoU.mk B9 (by decide));replace hry:=hry.chg C9 (by omega) (.inr (by omega));replace hEx2:=LsR.chg hEx2 C9 (by omega) (.inl (Nat.le_refl _));replace B0:=C9.blk B0 (.inl (by omega));replace B1:=C9.blk B1 (.inl (by omega));replace hE:=C9.ext hE (by omega);clear a0 a1 a2 b0 b1 b2 b3 d0 d1 d2 f0 f1 f2 E9 U9 B9 C9;obtain⟨b0,b1,b2,b3,-⟩:=cells4 B1;obtain⟨d0,d1,d2,-⟩:=cells3 D9;obtain⟨zb,zA,zn,zc,zA2,zn2,zc2,t0,t1,t2,t3,t4,t5,t6,t7,hbz,gz1,gz2⟩:=hry.at_ him;have hRy:RatV N w9 (.agg #[.bool zb,.slice zA zn zc,.bool false,.slice zA2 zn2 zc2]) (y i):=RatV.mk hbz gz1 gz2
 have hRb:=hIr.ext hE;clear hbz gz1 gz2;refine region_inv [Mn.eq (.pointer (some ⟨g9,1,none⟩)),Mn.eq (.slice (some ⟨gy,0,none⟩) m cy),Mn.eq (.int .i64 (i:Int)),Mn.eq (.pointer (some ⟨g9,1,none⟩)),Mn.eq (.slice (some ⟨gy,0,none⟩) m cy),Mn.eq (.int .i64 (i:Int)),Mn.eq (.pointer (some ⟨gy,i*4,none⟩)),Mn.rat N (y i),Mn.rat N (b),Mn.rat N (y i+b),Mn.eq (.pointer (some ⟨gy,i*4,none⟩)),Mn.any] [some 61,some 62,some 63,some 64,some 65,some 66,some 67,some 68,some 69,some 70,some 71,none] [11] [true,true,true,true,true,true,true,true,true,true,true,false] 1 (by kernel_rfl) (by kernel_rfl) (by kernel_rfl) (by kernel_rfl) (by kernel_rfl) (by kernel_rfl) (by kernel_rfl) (by kernel_rfl) ?_ ?_
 ·intro i hi hl;have hi':i=0∨i=1∨i=2∨i=3∨i=4∨i=5∨i=6∨i=7∨i=8∨i=9∨i=10∨i=11:=by have h9:i < 12:=hi; omega
  clear hi
  rcases hi' with rfl | rfl | rfl | rfl | rfl | rfl | rfl | rfl | rfl | rfl | rfl | rfl
  ·clear hl;refine stp rfl ?_;intro ac wi eI hB hA K hK;have o9:=hB 9 (by kernel_rfl);simp only [List.getElem?_toArray,List.getElem?_cons_succ,List.getElem?_cons_zero] at o9;clear hB hA;go_simp;exact hK.out _ _ (Ext.refl _) rfl
  ·clear hl;refine stp rfl ?_;intro ac wi eI hB hA K hK;obtain⟨_,s61,rfl⟩:=hA 0 (by kernel_rfl) 61 rfl;clear hB hA;have cc0:=eI.cell d1;go_simp;exact hK.out _ _ (Ext.refl _) rfl
  ·clear hl;refine stp rfl ?_;intro ac wi eI hB hA K hK;have o1:=hB 1 (by kernel_rfl);simp only [List.getElem?_toArray,List.getElem?_cons_succ,List.getElem?_cons_zero] at o1;clear hB hA;go_simp;exact hK.out _ _ (Ext.refl _) rfl
  ·clear hl;refine stp rfl ?_;intro ac wi eI hB hA K hK;have o9:=hB 9 (by kernel_rfl);simp only [List.getElem?_toArray,List.getElem?_cons_succ,List.getElem?_cons_zero] at o9;clear hB hA;go_simp;exact hK.out _ _ (Ext.refl _) rfl
  ·clear hl;refine stp rfl ?_;intro ac wi eI hB hA K hK;obtain⟨_,s64,rfl⟩:=hA 3 (by kernel_rfl) 64 rfl;clear hB hA;have cc0:=eI.cell d1;go_simp;exact hK.out _ _ (Ext.refl _) rfl
  ·clear hl;refine stp rfl ?_;intro ac wi eI hB hA K hK;have o1:=hB 1 (by kernel_rfl);simp only [List.getElem?_toArray,List.getElem?_cons_succ,List.getElem?_cons_zero] at o1;clear hB hA;go_simp;exact hK.out _ _ (Ext.refl _) rfl
  ·clear hl;refine stp rfl ?_;intro ac wi eI hB hA K hK;obtain⟨_,s65,rfl⟩:=hA 4 (by kernel_rfl) 65 rfl;obtain⟨_,s66,rfl⟩:=hA 5 (by kernel_rfl) 66 rfl;clear hB hA;go_simp;exact hK.out _ _ (Ext.refl _) rfl
  ·clear hl;refine stp rfl ?_;intro ac wi eI hB hA K hK;obtain⟨_,s67,rfl⟩:=hA 6 (by kernel_rfl) 67 rfl;clear hB hA;have cc0:=eI.cell t0;have cc1:=eI.cell t1;have cc2:=eI.cell t2;have cc3:=eI.cell t3;go_simp;exact hK.out _ _ (Ext.refl _) (hRy.ext eI)
  ·clear hl;refine stp rfl ?_;intro ac wi eI hB hA K hK;have o5:=hB 5 (by kernel_rfl);simp only [List.getElem?_toArray,List.getElem?_cons_succ,List.getElem?_cons_zero] at o5;clear hB hA;have cc0:=eI.cell b0;have cc1:=eI.cell b1;have cc2:=eI.cell b2;have cc3:=eI.cell b3;go_simp;exact hK.out _ _ (Ext.refl _) (hRb.ext eI)
  ·clear hl;refine stp rfl ?_;intro ac wi eI hB hA K hK;obtain⟨x68,s68,j68⟩:=hA 7 (by kernel_rfl) 68 rfl;replace j68:Mn.p (Mn.rat N (y i)) x68 wi:=j68;obtain⟨x69,s69,j69⟩:=hA 8 (by kernel_rfl) 69 rfl;replace j69:Mn.p (Mn.rat N (b)) x69 wi:=j69;clear hB hA;go_simp;refine (l38_add j68 j69 HZY.out HZB.out).mono ?_;rintro e wj ⟨vj,rfl,hj,ej⟩;go_wp2_with fail;exact hK.out _ _ ej hj
  ·clear hl;refine stp rfl ?_;intro ac wi eI hB hA K hK;obtain⟨_,s62,rfl⟩:=hA 1 (by kernel_rfl) 62 rfl;obtain⟨_,s63,rfl⟩:=hA 2 (by kernel_rfl) 63 rfl;clear hB hA;go_simp;exact hK.out _ _ (Ext.refl _) rfl
  ·exact absurd hl (by decide)
 intro vals wz eZ hJ;have J61:vals 0=(.pointer (some ⟨g9,1,none⟩)):=hJ 0 (by decide) (by decide);have J62:vals 1=(.slice (some ⟨gy,0,none⟩) m cy):=hJ 1 (by decide) (by decide);have J63:vals 2=(.int .i64 (i:Int)):=hJ 2 (by decide) (by decide);have J64:vals 3=(.pointer (some ⟨g9,1,none⟩)):=hJ 3 (by decide) (by decide);have J65:vals 4=(.slice (some ⟨gy,0,none⟩) m cy):=hJ 4 (by decide) (by decide);have J66:vals 5=(.int .i64 (i:Int)):=hJ 5 (by decide) (by decide);have J67:vals 6=(.pointer (some ⟨gy,i*4,none⟩)):=hJ 6 (by decide) (by decide);have J68:Mn.p (Mn.rat N (y i)) (vals 7) wz:=hJ 7 (by decide) (by decide);have J69:Mn.p (Mn.rat N (b)) (vals 8) wz:=hJ 8 (by decide) (by decide);have J70:Mn.p (Mn.rat N (y i+b)) (vals 9) wz:=hJ 9 (by decide) (by decide);have J71:vals 10=(.pointer (some ⟨gy,i*4,none⟩)):=hJ 10 (by decide) (by decide);clear hJ;simp only [putAll,if_true,Bool.false_eq_true,if_false,Act.put,Nat.zero_add,Nat.reduceAdd,List.setIfInBounds_toArray,List.set_cons_zero,List.set_cons_succ,J61,J62,J63,J64,J65,J66,J67,J71];clear J61 J62 J63 J64 J65 J66 J67 J71
 generalize vals 7=z68 at J68 ⊢
 generalize vals 8=z69 at J69 ⊢
 generalize vals 9=z70 at J70 ⊢
 obtain⟨bz,Az,kz,cz,Az',kz',cz',rfl,hbz,gz1,gz2⟩:=RatV.parts J70;have hRz:=hry.ext eZ;replace t0:=eZ.cell t0;replace t1:=eZ.cell t1;replace t2:=eZ.cell t2;replace t3:=eZ.cell t3;replace t4:=hRz.frozen (i*4);replace t5:=hRz.frozen (i*4+1);replace t6:=hRz.frozen (i*4+2);replace t7:=hRz.frozen (i*4+3);refine stepL_late (i:=11) rfl (by kernel_rfl) (by kernel_rfl) (fun K hK=>?_);go_simp;refine hK.out _ _ ?_;clear hK K;try simp only [nr]
 refine stepL_done (by kernel_rfl) ?_ _;obtain⟨w10,E10,C10,hs10,hr10⟩:=hRz.set (i:=i) (q:=y i+b) (by omega) (by omega) hbz gz1 gz2;rw [E10];replace hr10:RowB N w10 gy cy m (upd y i (y i+b)):=hr10.less (by omega);replace D9:=C10.blk (eZ.block D9) (.inl (by omega));replace B0:=C10.blk (eZ.block B0) (.inl (by omega));replace B1:=C10.blk (eZ.block B1) (.inl (by omega));replace hEx2:=LsR.chg (LsR.ext hEx2 eZ) C10 (by omega) (.inl (by omega));replace hE:=C10.ext (hE.trans eZ) (by omega);clear t0 t1 t2 t3 t4 t5 t6 t7 b0 b1 b2 b3 d0 d1 d2 hRz hRb hRy E10 C10 eZ J70 hbz gz1 gz2 hry;obtain⟨a0,a1,a2,-⟩:=cells3 B0;go_wp2_with (go_at_call 15; refine Hid.out ?_);refine (l34_solve (hI1.ext hE) (hI2.ext hE) (hI3.ext hE) HD.out HG.out).mono ?_;rintro e w11 ⟨AX,cX,rfl,hXa,e11⟩;replace hE:=hE.trans e11;replace B1:=e11.block B1;replace D9:=e11.block D9;replace hr10:=hr10.ext e11;replace hEx2:=LsR.ext hEx2 e11;clear a0 a1 a2 e11 B0;obtain⟨d0,d1,d2,-⟩:=cells3 D9;go_wp2_with (go_at_call 15; refine Hid.out ?_);refine (l34_solve (MtV.all (hI1.ext hE)) (hr10.lsv (lo:=0) (hi:=w11.heap.size) hncy (by unfold maxLen; omega) (Nat.zero_le _) hr10.lt (Nat.le_refl _)) (LsV.all (hI3.ext hE)) HD2.out HG.out).mono ?_;rintro e w12 ⟨AY,cY,rfl,hXb,e12⟩;replace hE:=hE.trans e12;replace B1:=e12.block B1;replace hEx2:=LsR.ext hEx2 e12;replace hXa:=LsR.ext hXa e12;clear d0 d1 d2 e12 D9 hr10;obtain⟨xa,hxa⟩:=hid_eq (xS m n X y p);obtain⟨xb,hxb⟩:=hid_eq (xS m n X (upd y i (y i+b)) p)
 obtain⟨ge,hge⟩:=hid_eq (fun k=>p i*gS m n X p i k);have HQ:Hid (∀ j,j < n→xb j - xa j=b*ge j):=by rw [Hid,hxa.out,hxb.out,hge.out]; exact HCH.out
 have HZ:Hid (∀ j,j < n→Sz (xa j)∧Sz (xb j)∧Sz (xb j - xa j)∧Sz (ge j)):=by rw [Hid,hxa.out,hxb.out,hge.out]; exact HZX.out
 rw [←hxa.out] at hXa;rw [←hxb.out] at hXb;replace hEx2:LsV N w.heap.size g9 w12 (.slice AE n cE) n ge:=by rw [hge.out]; exact hEx2
 obtain⟨bA,oA,rfl,-,-,hxA⟩:=LsR.addr hXa hn0;obtain⟨bB,oB,rfl,-,-,hxB⟩:=LsR.addr hXb hn0;obtain⟨bE,oE,rfl,-,-,hxE⟩:=LsR.addr hEx2 hn0;have HXA:=Lib.hid hxA;have HXB:=Lib.hid hxB;have HXE:=Lib.hid hxE;clear hxA hxB hxE hXa hXb hEx2 HCH HZX;go_wp2
 go_loopw [84] (fun j wr=>∃ k:Nat,k≤n∧j=.int .i64 k∧Ext w12 wr) (fun j _=>n - (intOf j).toNat)
 case atStart=>exact⟨0,Nat.zero_le _,rfl,Ext.refl _⟩
 case round =>
  obtain⟨k,hk,rfl,eR⟩:=hrel
  by_cases hlt:k < n
  ·obtain⟨n1,A6,k6,c6,A12,k12,c12,p0,p1,p2,p3,hb1,g1,g2⟩:=((HXA.out k hlt).ext eR).open;obtain⟨n3,A13,k13,c13,A14,k14,c14,q0,q1,q2,q3,hb3,g3,g4⟩:=((HXB.out k hlt).ext eR).open;obtain⟨n5,A15,k15,c15,A16,k16,c16,s0,s1,s2,s3,hb5,g5,g6⟩:=((HXE.out k hlt).ext eR).open;have hRa:RatV N wr (.agg #[.bool n1,.slice A6 k6 c6,.bool false,.slice A12 k12 c12]) (xa k):=RatV.mk hb1 g1 g2;have hRc:RatV N wr (.agg #[.bool n3,.slice A13 k13 c13,.bool false,.slice A14 k14 c14]) (xb k):=RatV.mk hb3 g3 g4;have hRe:RatV N wr (.agg #[.bool n5,.slice A15 k15 c15,.bool false,.slice A16 k16 c16]) (ge k):=RatV.mk hb5 g5 g6;have hRb:=hIr.ext (hE.trans eR);obtain⟨b0,b1,b2,b3,-⟩:=cells4 (eR.block B1);obtain⟨z1,z2,z3,z4⟩:=HZ.out k hlt;have HZ1:=Lib.hid z1;have HZ2:=Lib.hid z2;have HZ3:=Lib.hid z3;have HZ4:=Lib.hid z4;have HEQ:=Lib.hid (HQ.out k hlt);clear g1 g2 g3 g4 g5 g6 hb1 hb3 hb5 z1 z2 z3 z4;go_upto_region 16 with (fail);refine region_inv [Mn.eq (.slice (some ⟨bB,oB,none⟩) n cY),Mn.eq (.int .i64 (k:Int)),Mn.eq (.pointer (some ⟨bB,oB+k*4,none⟩)),Mn.rat N (xb k),Mn.eq (.slice (some ⟨bA,oA,none⟩) n cX),Mn.eq (.int .i64 (k:Int)),Mn.eq (.pointer (some ⟨bA,oA+k*4,none⟩)),Mn.rat N (xa k),Mn.rat N (xb k - xa k),Mn.rat N (b),Mn.eq (.slice (some ⟨bE,oE,none⟩) n cE),Mn.eq (.int .i64 (k:Int)),Mn.eq (.pointer (some ⟨bE,oE+k*4,none⟩)),Mn.rat N (ge k),Mn.rat N (b*ge k),Mn.eq (.bool true),Mn.eq (.bool false)] [some 87,some 88,some 89,some 90,some 91,some 92,some 93,some 94,some 95,some 96,some 97,some 98,some 99,some 100,some 101,some 102,some 103] [] [true,true,true,true,true,true,true,true,true,true,true,true,true,true,true,true,true] 0 (by kernel_rfl) (by kernel_rfl) (by kernel_rfl) (by kernel_rfl) (by kernel_rfl) (by kernel_rfl) (by kernel_rfl) (by kernel_rfl) ?_ ?_
   ·intro i hi hl;have hi':i=0∨i=1∨i=2∨i=3∨i=4∨i=5∨i=6∨i=7∨i=8∨i=9∨i=10∨i=11∨i=12∨i=13∨i=14∨i=15∨i=16:=by have h9:i < 17:=hi; omega
    clear hi
    rcases hi' with rfl | rfl | rfl | rfl | rfl | rfl | rfl | rfl | rfl | rfl | rfl | rfl | rfl | rfl | rfl | rfl | rfl
    ·clear hl;refine stp rfl ?_;intro ac wi eI hB hA K hK;have o12:=hB 12 (by kernel_rfl);simp only [List.getElem?_toArray,List.getElem?_cons_succ,List.getElem?_cons_zero] at o12;clear hB hA;go_simp;exact hK.out _ _ (Ext.refl _) rfl
    ·clear hl;refine stp rfl ?_;intro ac wi eI hB hA K hK;have o14:=hB 14 (by kernel_rfl);simp only [List.getElem?_toArray,List.getElem?_cons_succ,List.getElem?_cons_zero] at o14;clear hB hA;go_simp;exact hK.out _ _ (Ext.refl _) rfl
    ·clear hl;refine stp rfl ?_;intro ac wi eI hB hA K hK;obtain⟨_,s87,rfl⟩:=hA 0 (by kernel_rfl) 87 rfl;obtain⟨_,s88,rfl⟩:=hA 1 (by kernel_rfl) 88 rfl;clear hB hA;go_simp;exact hK.out _ _ (Ext.refl _) rfl
    ·clear hl;refine stp rfl ?_;intro ac wi eI hB hA K hK;obtain⟨_,s89,rfl⟩:=hA 2 (by kernel_rfl) 89 rfl;clear hB hA;have cc0:=eI.cell q0;have cc1:=eI.cell q1;have cc2:=eI.cell q2;have cc3:=eI.cell q3;go_simp;exact hK.out _ _ (Ext.refl _) (hRc.ext eI)
    ·clear hl;refine stp rfl ?_;intro ac wi eI hB hA K hK;have o10:=hB 10 (by kernel_rfl);simp only [List.getElem?_toArray,List.getElem?_cons_succ,List.getElem?_cons_zero] at o10;clear hB hA;go_simp;exact hK.out _ _ (Ext.refl _) rfl
    ·clear hl;refine stp rfl ?_;intro ac wi eI hB hA K hK;have o14:=hB 14 (by kernel_rfl);simp only [List.getElem?_toArray,List.getElem?_cons_succ,List.getElem?_cons_zero] at o14;clear hB hA;go_simp;exact hK.out _ _ (Ext.refl _) rfl
    ·clear hl;refine stp rfl ?_;intro ac wi eI hB hA K hK;obtain⟨_,s91,rfl⟩:=hA 4 (by kernel_rfl) 91 rfl;obtain⟨_,s92,rfl⟩:=hA 5 (by kernel_rfl) 92 rfl;clear hB hA;go_simp;exact hK.out _ _ (Ext.refl _) rfl
    ·clear hl;refine stp rfl ?_;intro ac wi eI hB hA K hK;obtain⟨_,s93,rfl⟩:=hA 6 (by kernel_rfl) 93 rfl;clear hB hA;have cc0:=eI.cell p0;have cc1:=eI.cell p1;have cc2:=eI.cell p2;have cc3:=eI.cell p3;go_simp;exact hK.out _ _ (Ext.refl _) (hRa.ext eI)
    ·clear hl;refine stp rfl ?_;intro ac wi eI hB hA K hK;obtain⟨x90,s90,j90⟩:=hA 3 (by kernel_rfl) 90 rfl;replace j90:Mn.p (Mn.rat N (xb k)) x90 wi:=j90;obtain⟨x94,s94,j94⟩:=hA 7 (by kernel_rfl) 94 rfl;replace j94:Mn.p (Mn.rat N (xa k)) x94 wi:=j94;clear hB hA;go_simp;refine (l38_sub j90 j94 HZ2.out HZ1.out).mono ?_;rintro e wj ⟨vj,rfl,hj,ej⟩;go_wp2_with fail;exact hK.out _ _ ej hj
    ·clear hl;refine stp rfl ?_;intro ac wi eI hB hA K hK;have o5:=hB 5 (by kernel_rfl);simp only [List.getElem?_toArray,List.getElem?_cons_succ,List.getElem?_cons_zero] at o5;clear hB hA;have cc0:=eI.cell b0;have cc1:=eI.cell b1;have cc2:=eI.cell b2;have cc3:=eI.cell b3;go_simp;exact hK.out _ _ (Ext.refl _) (hRb.ext eI)
    ·clear hl;refine stp rfl ?_;intro ac wi eI hB hA K hK;have o7:=hB 7 (by kernel_rfl);simp only [List.getElem?_toArray,List.getElem?_cons_succ,List.getElem?_cons_zero] at o7;clear hB hA;go_simp;exact hK.out _ _ (Ext.refl _) rfl
    ·clear hl;refine stp rfl ?_;intro ac wi eI hB hA K hK;have o14:=hB 14 (by kernel_rfl);simp only [List.getElem?_toArray,List.getElem?_cons_succ,List.getElem?_cons_zero] at o14;clear hB hA;go_simp;exact hK.out _ _ (Ext.refl _) rfl
    ·clear hl;refine stp rfl ?_;intro ac wi eI hB hA K hK;obtain⟨_,s97,rfl⟩:=hA 10 (by kernel_rfl) 97 rfl;obtain⟨_,s98,rfl⟩:=hA 11 (by kernel_rfl) 98 rfl;clear hB hA;go_simp;exact hK.out _ _ (Ext.refl _) rfl
    ·clear hl;refine stp rfl ?_;intro ac wi eI hB hA K hK;obtain⟨_,s99,rfl⟩:=hA 12 (by kernel_rfl) 99 rfl;clear hB hA;have cc0:=eI.cell s0;have cc1:=eI.cell s1;have cc2:=eI.cell s2;have cc3:=eI.cell s3;go_simp;exact hK.out _ _ (Ext.refl _) (hRe.ext eI)
    ·clear hl;refine stp rfl ?_;intro ac wi eI hB hA K hK;obtain⟨x96,s96,j96⟩:=hA 9 (by kernel_rfl) 96 rfl;replace j96:Mn.p (Mn.rat N (b)) x96 wi:=j96;obtain⟨x100,s100,j100⟩:=hA 13 (by kernel_rfl) 100 rfl;replace j100:Mn.p (Mn.rat N (ge k)) x100 wi:=j100;clear hB hA;go_simp;refine (l38_mul j96 j100 HZB.out HZ4.out).mono ?_;rintro e wj ⟨vj,rfl,hj,ej⟩;go_wp2_with fail;exact hK.out _ _ ej hj
    ·clear hl;refine stp rfl ?_;intro ac wi eI hB hA K hK;obtain⟨x95,s95,j95⟩:=hA 8 (by kernel_rfl) 95 rfl;replace j95:Mn.p (Mn.rat N (xb k - xa k)) x95 wi:=j95;obtain⟨x101,s101,j101⟩:=hA 14 (by kernel_rfl) 101 rfl;replace j101:Mn.p (Mn.rat N (b*ge k)) x101 wi:=j101;clear hB hA;go_simp;refine (r2_same j95 j101 HZ3.out HEQ.out).mono ?_;rintro e wj ⟨rfl,ej⟩;go_wp2_with fail;exact hK.out _ _ ej rfl
    ·clear hl;refine stp rfl ?_;intro ac wi eI hB hA K hK;obtain⟨_,s102,rfl⟩:=hA 15 (by kernel_rfl) 102 rfl;clear hB hA;go_simp;exact hK.out _ _ (Ext.refl _) rfl
   intro vals wz eZ hJ;have J87:vals 0=(.slice (some ⟨bB,oB,none⟩) n cY):=hJ 0 (by decide) (by decide);have J88:vals 1=(.int .i64 (k:Int)):=hJ 1 (by decide) (by decide);have J89:vals 2=(.pointer (some ⟨bB,oB+k*4,none⟩)):=hJ 2 (by decide) (by decide);have J90:Mn.p (Mn.rat N (xb k)) (vals 3) wz:=hJ 3 (by decide) (by decide);have J91:vals 4=(.slice (some ⟨bA,oA,none⟩) n cX):=hJ 4 (by decide) (by decide);have J92:vals 5=(.int .i64 (k:Int)):=hJ 5 (by decide) (by decide);have J93:vals 6=(.pointer (some ⟨bA,oA+k*4,none⟩)):=hJ 6 (by decide) (by decide);have J94:Mn.p (Mn.rat N (xa k)) (vals 7) wz:=hJ 7 (by decide) (by decide);have J95:Mn.p (Mn.rat N (xb k - xa k)) (vals 8) wz:=hJ 8 (by decide) (by decide);have J96:Mn.p (Mn.rat N (b)) (vals 9) wz:=hJ 9 (by decide) (by decide);have J97:vals 10=(.slice (some ⟨bE,oE,none⟩) n cE):=hJ 10 (by decide) (by decide);have J98:vals 11=(.int .i64 (k:Int)):=hJ 11 (by decide) (by decide);have J99:vals 12=(.pointer (some ⟨bE,oE+k*4,none⟩)):=hJ 12 (by decide) (by decide);have J100:Mn.p (Mn.rat N (ge k)) (vals 13) wz:=hJ 13 (by decide) (by decide);have J101:Mn.p (Mn.rat N (b*ge k)) (vals 14) wz:=hJ 14 (by decide) (by decide);have J102:vals 15=(.bool true):=hJ 15 (by decide) (by decide);have J103:vals 16=(.bool false):=hJ 16 (by decide) (by decide);clear hJ;simp only [putAll,if_true,Bool.false_eq_true,if_false,Act.put,Nat.zero_add,Nat.reduceAdd,List.setIfInBounds_toArray,List.set_cons_zero,List.set_cons_succ,J87,J88,J89,J91,J92,J93,J97,J98,J99,J102,J103]
   clear J87 J88 J89 J91 J92 J93 J97 J98 J99 J102 J103
   generalize vals 3=z90 at J90 ⊢
   generalize vals 7=z94 at J94 ⊢
   generalize vals 8=z95 at J95 ⊢
   generalize vals 9=z96 at J96 ⊢
   generalize vals 13=z100 at J100 ⊢
   generalize vals 14=z101 at J101 ⊢
   refine stepL_done (by kernel_rfl) ?_ _;go_wp2;go_roundw
   case rel=>exact⟨k+1,by omega,by go_num,eR.trans eZ⟩
   case measure=>simp [intOf]; omega
  ·obtain rfl:k=n:=by omega
   go_wp2;go_ret;exact⟨rfl,hE.trans eR⟩
end Go.Proofs.YthkkknjcoidioaaGreat
