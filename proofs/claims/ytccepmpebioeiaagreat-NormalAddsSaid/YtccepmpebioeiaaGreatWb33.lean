import Derived.Test.YtccepmpebioeiaaGreatWb32
import Derived.Test.YtccepmpebioeiaaGreatWb26
set_option linter.all false
set_option maxHeartbeats 8000000
namespace Go.Proofs.YtccepmpebioeiaaGreat
open Go.RowKit
def nmat (X:Nat→Nat→Rat) (p:Nat→Rat) (s i j:Nat):Rat:=sum s (fun t=>p t*X t i*X t j)
def nrhs (X:Nat→Nat→Rat) (y p:Nat→Rat) (s i:Nat):Rat:=sum s (fun t=>p t*X t i*y t)
def RetBuilt (N:Nat) (w:World) (n:Nat) (M:Nat→Nat→Rat) (r:Nat→Rat) (e:Ending) (w':World):Prop :=
 ∃ h cap g,e=.returned (.agg #[.slice (some ⟨h,0,none⟩) n cap,.slice (some ⟨g,0,none⟩) n n])∧MtV N w.heap.size w'.heap.size w' (.slice (some ⟨h,0,none⟩) n cap) n n M∧LsV N w.heap.size w'.heap.size w' (.slice (some ⟨g,0,none⟩) n n) n r∧Ext w w'
theorem nmat_ht {m n k K s:Nat} {X:Nat→Nat→Rat} {p:Nat→Rat} (hx:HtM m n k X) (hp:HtL m k p) (hs:s≤m) (hK:m*(3*k+1)+1≤K):HtM n n K (nmat X p s):=fun i hi j hj =>
 sum_ht (n:=m) (k:=3*k) (fun t ht=>(((hp t ht).mul (hx t ht i hi)).mul (hx t ht j hj)).mono (by omega)) hs hK
theorem nrhs_ht {m n k K s:Nat} {X:Nat→Nat→Rat} {y p:Nat→Rat} (hx:HtM m n k X) (hy:HtL m k y) (hp:HtL m k p) (hs:s≤m) (hK:m*(3*k+1)+1≤K):HtL n K (nrhs X y p s):=fun i hi =>
 sum_ht (n:=m) (k:=3*k) (fun t ht=>(((hp t ht).mul (hx t ht i hi)).mul (hy t ht)).mono (by omega)) hs hK
theorem nmat_succ {n:Nat} (X:Nat→Nat→Rat) (p:Nat→Rat) (s:Nat) {i:Nat} (hi:i < n) (j:Nat):addM (p s) (X s) (nmat X p s) n i j=nmat X p (s+1) i j:=by
 unfold addM nmat; rw [if_pos hi,sum_succ]
theorem nrhs_succ {n:Nat} (X:Nat→Nat→Rat) (y p:Nat→Rat) (s:Nat) {i:Nat} (hi:i < n):addR (p s) (X s) (y s) (nrhs X y p s) n i=nrhs X y p (s+1) i:=by
 unfold addR nrhs; rw [if_pos hi,sum_succ]
theorem set0of2 {w:World} {g:Nat} {t:TypeId} {x0 x1:Value} (h:w.heap[g]?=some (.cells #[x0,x1] t (0,0))) (ht:NoU w g) (v:Value) :
  ∃ w',w.setCell ⟨g,0,none⟩ v=w'∧w'.heap[g]?=some (.cells #[v,x1] t (0,0))∧Chg g (g+1) w w'∧w'.heap.size=w.heap.size:=by
 have U:Upd g w (w.setCell ⟨g,0,none⟩ v):=(Upd.refl g w).set 0 v;exact⟨_,rfl,heap_set h 0 v,U.chg ht,U.size⟩
theorem set2of2 {w:World} {g:Nat} {t:TypeId} {x0 x1:Value} (h:w.heap[g]?=some (.cells #[x0,x1] t (0,0))) (ht:NoU w g) (v v':Value) :
  ∃ w',(w.setCell ⟨g,0,none⟩ v).setCell ⟨g,1,none⟩ v'=w'∧w'.heap[g]?=some (.cells #[v,v'] t (0,0))∧Chg g (g+1) w w'∧w'.heap.size=w.heap.size:=by
 have U:Upd g w ((w.setCell ⟨g,0,none⟩ v).setCell ⟨g,1,none⟩ v'):=((Upd.refl g w).set 0 v).set 1 v';exact⟨_,rfl,heap_set (heap_set h 0 v) 1 v',U.chg ht,U.size⟩
set_option maxRecDepth 100000 in
theorem n_built {N lo hi:Nat} {w:World} {v1 v2 v3:Value} {m n:Nat} {X:Nat→Nat→Rat} {y p:Nat→Rat} (h1:MtV N lo hi w v1 m n X) (h2:LsV N lo hi w v2 m y) (h3:LsV N lo hi w v3 m p) (hm0:0 < m) (hm:m < 1000000) (hn0:0 < n) (hn:n < 1000000)
  {k:Nat} (hkx:HtM m n k X) (hky:HtL m k y) (hkp:HtL m k p) (hK:m*(3*k+1)+3*k+2≤29000000000) :
  Calls Tryz.prog 59 #[.agg #[v1,v2,v3]] w (RetBuilt N w n (nmat X p m) (nrhs X y p m)):=by
 have HX:=Lib.hid hkx;have HY:=Lib.hid hky;have HP:=Lib.hid hkp;have HK:=Lib.hid hK;obtain⟨Rf,hRf⟩:=hid_eq (RetBuilt N w n (nmat X p m) (nrhs X y p m));rw [←hRf.out];have hN:=h1.le;obtain⟨A1,c1,rfl,hmc,hcm⟩:=h1.form;obtain⟨A2,c2,rfl,hmc2,hcm2⟩:=h2.form;obtain⟨A3,c3,rfl,hmc3,hcm3⟩:=h3.form;have hI1:=h1;have hI2:=h2;have hI3:=h3;obtain⟨b,off,rfl,-,-,hx⟩:=h1.addr hm0;obtain⟨A0,c0,o0,hc0,hm0',-⟩:=hx 0 (by omega);rw [Nat.add_zero] at o0;unfold maxLen at hm0' hcm hcm2 hcm3;clear h1 h2 h3 hx hkx hky hkp hK;go_enter Tryz.func59,Tryz.ntmps59;go_upto_region 1 with (fail);refine boxes2 ?_;intro W hE hsz B0 B1;obtain⟨a0,a1,a2,-⟩:=cells3 B0;replace o0:=hE.cell o0;go_wp2_with (go_at_call 79; refine Hid.out ?_);refine (n_zeros (N:=N) (by omega) n rfl hn).mono ?_;rintro e w1 ⟨g,rfl,hg1,hg2,hr,e1⟩;clear a0 a1 a2 o0;go_upto_region 3 with (fail);refine boxes1 ?_;intro w2 e2 hsz2 B2;have e3:=e1.trans e2;replace hr:=hr.ext e2;obtain⟨ge,hge⟩:∃ ge,ge=w1.heap.size:=⟨_,rfl⟩
 rw [←hge] at hg2 hsz2 B2 ⊢;clear e1 e2 hge;have hG0:GrowM N (ge+1) w2.heap.size w2 (.slice none 0 0) 0 n (fun _ _=>0):=GrowM.nil (by omega) (by omega) (Nat.le_refl _) _;go_wp2
 go_loopw [16] (fun i wr=>∃ k:Nat,k≤n∧i=.int .i64 k∧Ext W wr∧ge+1≤wr.heap.size∧RowB N wr g n n (fun _=>0)∧∃ A c,wr.heap[ge]?=some (.cells #[.slice A k c,.slice (some ⟨g,0,none⟩) n n] 97 (0,0))∧GrowM N (ge+1) wr.heap.size wr (.slice A k c) k n (fun _ _=>0)) (fun i _=>n - (intOf i).toNat)
 case atStart=>exact⟨0,Nat.zero_le _,rfl,e3,hsz2,hr,_,_,B2,hG0⟩
 case round =>
  clear e3 hr B2 hG0 hsz2;obtain⟨i,hin,rfl,hE2,hsz2,hr,A,c,B2,hG⟩:=hrel
  by_cases hlt:i < n
  ·obtain⟨d0,d1,d2,d3⟩:=cells2 B2;go_upto_region 5 with (fail);have eC:=(Ext.refl wr).drew;refine region_late (fun w'=>w'.cell? ⟨ge,0,none⟩=some (.slice A i c)) [7] (by kernel_rfl) (by exact eC.cell d0) (fun hHeld=>?_);refine sP 0 (h:=?_);try simp only [nr]
   refine sT 1 (h:=?_);try simp only [nr]
   refine sP 2 (h:=?_);try simp only [nr]
   refine stepL_only (i:=3) rfl (by kernel_rfl) (fun K hK=>?_);go_simp;refine (n_zeros (N:=N) (by have h8:=eC.size; have h9:N≤wr.heap.size:=(by omega); omega) n rfl hn).mono ?_;rintro e w5 ⟨g5,rfl,hg5,hgs5,hr5,e5⟩;have hg6:wr.heap.size≤g5:=Nat.le_trans eC.size hg5;replace eC:=eC.trans e5;go_wp2_with fail;clear hHeld;refine hK.out _ _ (by exact eC.cell d0) fun hHeld=>?_
   clear hK K;try simp only [nr]
   refine stepL_only (i:=4) rfl (by kernel_rfl) (fun K hK=>?_);go_simp
   first | refine boxes1 ?_ | refine boxesD1 ?_
   intro w4 e4 hsz4 BX;replace eC:=eC.trans e4;replace hr5:=hr5.ext e4;have hG4:=hG.ext eC;have hE4:=hE2.trans eC;clear hHeld;refine hK.out _ _ (by exact eC.cell d0) fun hHeld=>?_
   clear hK K;try simp only [nr]
   refine stepL_only (i:=5) rfl (by kernel_rfl) (fun K hK=>?_);refine step_append_row rfl _ _ 23 Tryz.underlying23 rfl (by rfl) hG4 (by rfl) hr5 hg6 (by unfold maxLen; omega) BX (by omega) ?_;rintro h' cap' w6 hG3 ⟨g',hg',c3',-⟩;have hE5:=c3'.ext hE4 (by omega);replace hG3:=hG3.congr (B:=fun _ _=>0) (fun i _ j _=>by unfold updM; split <;> rfl);have D5:=c3'.blk (eC.block B2) (.inl (by omega));have hr6:=(hr.ext eC).chg c3' (by omega) (.inl (by omega));have hs6:ge+1≤w6.heap.size:=by have:=c3'.size; have:=eC.size; omega
   replace d0:=c3'.cell (eC.cell d0) (.inl (show ge < _ by omega));replace eC:=Ext.refl w6;obtain⟨-,-,f0,f1⟩:=cells2 D5;clear hHeld;refine hK.out _ _ (by exact eC.cell d0) fun hHeld=>?_
   clear hK K;try simp only [nr]
   refine sP 6 (h:=?_);try simp only [nr]
   refine stepL_late (i:=7) rfl (by kernel_rfl) (by kernel_rfl) (fun K hK=>?_);go_simp;refine hK.out _ _ ?_;clear hK K;try simp only [nr]
   refine stepL_done (by kernel_rfl) ?_ _;clear hHeld;obtain⟨w7,E7,D7,C7,hs7⟩:=set0of2 D5 (NoU.mk D5 (by decide)) (.slice (some ⟨h',0,none⟩) (i+1) cap');rw [E7];have hE7:=C7.ext hE5 (by omega);have hr7:=hr6.chg C7 (by omega) (.inl (by omega));have hG7:=(hG3.chg C7 (by omega) (.inr (by omega))).wide (hi':=w7.heap.size) (by omega) (Nat.le_refl _);clear d0 d1 d2 d3 f0 f1 B2 hG hG4 hG3 D5 E7 C7 hr hr5 hr6 BX hE2 hE4 hE5 e4 e5;go_wp2;go_roundw
   case rel=>exact⟨i+1,by omega,by go_num,hE7,by omega,hr7,_,_,D7,hG7⟩
   case measure=>simp [intOf]; omega
  ·obtain rfl:n=i:=by omega
   obtain⟨h,cap,β,κ,hv,hcap,ho⟩:=hG.own hn0;rw [hv] at B2;have q0:EqO N W.heap.size (ge+1) wr.heap.size wr ge h cap n β κ g (nmat X p 0) (nrhs X y p 0):=⟨by omega,hg1,by omega,by omega,by omega,by omega,B2,ho,hr,hcap⟩
   replace B0:=hE2.block B0;replace B1:=hE2.block B1;replace hE2:=hE.trans hE2;clear hr hG ho hv B2;obtain⟨a0,a1,a2,-⟩:=cells3 B0;obtain⟨wq,hwq⟩:∃ wq,wq=wr:=⟨wr,rfl⟩
   subst hwq;clear hE;go_wp2;clear a0 a1 a2
   go_loopw [29] (fun i wr=>∃ k:Nat,k≤m∧i=.int .i64 k∧Chg W.heap.size wq.heap.size wq wr∧EqO N W.heap.size (ge+1) wq.heap.size wr ge h cap n β κ g (nmat X p k) (nrhs X y p k)) (fun i _=>m - (intOf i).toNat)
   case atStart=>exact⟨0,Nat.zero_le _,rfl,Chg.refl _ _ _,q0⟩
   case round =>
    clear q0;obtain⟨i,him,rfl,hC,q⟩:=hrel;have hhi:=hI1.2.1;have hB0:=hC.blk B0 (.inl (by omega));obtain⟨a0,a1,a2,-⟩:=cells3 hB0
    by_cases hlt2:i < m
    ·have hl1:=(hI1.ext hE2).chg hC (by omega) (.inl (by omega));have hl2:=(hI2.ext hE2).chg hC (by omega) (.inl (by omega));have hl3:=(hI3.ext hE2).chg hC (by omega) (.inl (by omega));obtain⟨b',off',hA,-,-,hx⟩:=hl1.addr (by omega);obtain⟨rfl,rfl⟩:b=b'∧off=off':=by injection hA with hA; injection hA with e1 e2; exact⟨e1,e2⟩
     obtain⟨A4,c4,o0,-,-,hrow⟩:=hx i hlt2;obtain⟨b2,off2,rfl,-,-,hx2⟩:=hl2.addr (by omega);obtain⟨n1,A5,k5,c5,A6,k6,c6,p0,p1,p2,p3,hb1,g1,g2⟩:=(hx2 i hlt2).open;obtain⟨b3,off3,rfl,-,-,hx3⟩:=hl3.addr (by omega);obtain⟨n2,A7,k7,c7,A8,k8,c8,r0,r1,r2,r3,hb2,g3,g4⟩:=(hx3 i hlt2).open;clear hx hx2 hx3 hA hl1 hl2 hl3;go_upto_region 10 with (fail);have eC:=(Ext.refl wr).drew;refine region_late (fun w'=>w'.cell? ⟨w.heap.size,1,none⟩=some (.slice (some ⟨b2,off2,none⟩) m c2)∧w'.cell? ⟨w.heap.size,2,none⟩=some (.slice (some ⟨b3,off3,none⟩) m c3)∧w'.cell? ⟨b2,off2+i*4,none⟩=some (.bool n1)∧w'.cell? ⟨b2,off2+i*4+1,none⟩=some (.slice A5 k5 c5)∧w'.cell? ⟨b2,off2+i*4+2,none⟩=some (.bool false)∧w'.cell? ⟨b2,off2+i*4+3,none⟩=some (.slice A6 k6 c6)∧w'.cell? ⟨b3,off3+i*4,none⟩=some (.bool n2)∧w'.cell? ⟨b3,off3+i*4+1,none⟩=some (.slice A7 k7 c7)∧w'.cell? ⟨b3,off3+i*4+2,none⟩=some (.bool false)∧w'.cell? ⟨b3,off3+i*4+3,none⟩=some (.slice A8 k8 c8)) [11] (by kernel_rfl) (by exact⟨eC.cell a1,eC.cell a2,eC.cell p0,eC.cell p1,eC.cell p2,eC.cell p3,eC.cell r0,eC.cell r1,eC.cell r2,eC.cell r3⟩) (fun hHeld=>?_);refine sP 0 (h:=?_);try simp only [nr]
     refine sP 1 (h:=?_);try simp only [nr]
     refine sT 2 (h:=?_);try simp only [nr]
     refine sP 3 (h:=?_);try simp only [nr]
     refine sP 4 (h:=?_);try simp only [nr]
     refine sT 5 (h:=?_);try simp only [nr]
     refine sP 6 (h:=?_);try simp only [nr]
     refine sT 7 (h:=?_);try simp only [nr]
     refine sP 8 (h:=?_);try simp only [nr]
     refine sP 9 (h:=?_);try simp only [nr]
     refine sT 10 (h:=?_);try simp only [nr]
     refine stepL_late (i:=11) rfl (by kernel_rfl) (by kernel_rfl) (fun K hK=>?_);go_simp;refine (n_add (q.ext eC) (hrow.ext eC) (by omega) ((RatV.mk hb1 g1 g2).ext eC) ((RatV.mk hb2 g3 g4).ext eC) hn (K:=m*(3*k+1)+1) (k:=k) (nmat_ht HX.out HP.out him (Nat.le_refl _)) (nrhs_ht HX.out HY.out HP.out him (Nat.le_refl _)) (HX.out i hlt2) (HY.out i hlt2) (HP.out i hlt2) (by have:=HK.out; omega)).mono ?_;rintro e w5 ⟨rfl,q5,C5⟩;have hC5:=(hC.trans (eC.chg _ _)).trans C5;replace q5:=q5.congr (fun i' h1 j _=>nmat_succ X p i h1 j) (fun i' h1=>nrhs_succ X y p i h1);go_wp2_with fail;refine hK.out _ _ ?_;clear hK K;try simp only [nr]
     refine stepL_done (by kernel_rfl) ?_ _;clear hHeld;clear q o0 a0 a1 a2 p0 p1 p2 p3 r0 r1 r2 r3 g1 g2 g3 g4 hb1 hb2 hrow hB0 hC C5;go_wp2;go_roundw
     case rel=>exact⟨i+1,by omega,by go_num,hC5,q5⟩
     case measure=>simp [intOf]; omega
    ·obtain rfl:m=i:=by omega
     replace B1:=hC.blk B1 (.inl (by omega));obtain⟨d0,d1,-⟩:=cells2 q.rec_;obtain⟨f0,f1,f2,f3⟩:=cells2 B1;clear a0 a1 a2;go_wp2;obtain⟨w7,E7,D7,C7,hs7⟩:=set2of2 B1 (NoU.mk B1 (by decide)) (.slice (some ⟨h,0,none⟩) n cap) (.slice (some ⟨g,0,none⟩) n n);rw [E7];obtain⟨x0,x1,-⟩:=cells2 D7;have hs8:=hC.size;have hE7:Ext w w7:=C7.ext (hC.ext hE2 (by omega)) (by omega);have hM7:=(q.own.mtv q.own.mle hcap).chg C7 (by omega) (.inr (by omega));have hl7:=(q.row.chg C7 (by omega) (.inr (by omega))).lsv (c:=n) (lo:=w.heap.size) (hi:=w7.heap.size) (Nat.le_refl _) (by unfold maxLen; omega) (by omega) (by omega) (Nat.le_refl _);refine bodyPost_ret (v:=.agg #[.slice (some ⟨h,0,none⟩) n cap,.slice (some ⟨g,0,none⟩) n n]) ?_ rfl ?_
     ·simp [results,x0,x1,go_sem]
     rw [hRf.out];exact⟨h,cap,g,rfl,MtR.wide hM7 (by omega) (by omega) (Nat.le_refl _),hl7,hE7⟩
end Go.Proofs.YtccepmpebioeiaaGreat
namespace Go.Proofs.YtccepmpebioeiaaGreat
theorem rank_reg {n:Nat} {K M:Nat→Nat→Rat} {p:List Nat} (h:Rref n n K M p) (hl:p.length=n):Reg n K:=by
 intro x hx c hc;have h1:=Comb.null (n:=n) h.there hx c hc;have hp:=inc_all h.inc h.low hl
 have h2:sum n (fun d=>M c d*x d)=sum n (fun d=>dlt c d*x d):=sum_congr fun d hd=>by
  have h3:=h.unit d (by omega) c hc;rw [hp d hd] at h3;rw [h3]
 rw [h2,sum_dlt hc] at h1;exact h1
theorem reg_rank {n:Nat} {K M:Nat→Nat→Rat} {p:List Nat} (h:Rref n n K M p) (hK:Reg n K):p.length=n:=by
 have h1:=h.len
 rcases Nat.lt_or_ge p.length n with h2 | h2
 ·obtain⟨c,hc,hg⟩:=inc_gap h.inc h2;have h3:=hK _ (nul_null h hc) c hc;rw [nul_self hg] at h3;exact absurd h3 (by decide)
 ·omega
theorem rank_iff (n:Nat) (K:Nat→Nat→Rat):(rref n K n).2.length=n↔Reg n K:=⟨rank_reg (rref_ok n K n),reg_rank (rref_ok n K n)⟩
theorem inv_iff (n:Nat) (K:Nat→Nat→Rat):(rref n (besideI n K) n).2.length=n↔Reg n K:=by
 constructor
 ·intro h x hx c hc;obtain⟨-,h2⟩:=inv_ok (rref_ok n (besideI n K) n) h
  have e:sum n (fun i=>(rref n (besideI n K) n).1 c (n+i)*sum n (fun d=>K i d*x d))=x c:=by
   have e1:sum n (fun i=>(rref n (besideI n K) n).1 c (n+i)*sum n (fun d=>K i d*x d))=sum n (fun d=>mm n (fun a b=>(rref n (besideI n K) n).1 a (n+b)) K c d*x d):=by
    rw [show sum n (fun i=>(rref n (besideI n K) n).1 c (n+i)*sum n (fun d=>K i d*x d))=sum n (fun i=>sum n (fun d=>(rref n (besideI n K) n).1 c (n+i)*K i d*x d)) from sum_congr fun i _=>by rw [←sum_mul]; exact sum_congr fun d _=>by grind,sum_comm];exact sum_congr fun d _=>by unfold mm; rw [sum_mul_right]
   rw [e1,show sum n (fun d=>mm n (fun a b=>(rref n (besideI n K) n).1 a (n+b)) K c d*x d)=sum n (fun d=>dlt c d*x d) from sum_congr fun d hd=>by rw [h2 c hc d hd]];exact sum_dlt hc x
  rw [←e];exact sum_eq_zero fun i hi=>by rw [hx i hi]; grind
 ·intro h; exact inv_len (rref_ok n (besideI n K) n) h
theorem reg_solve {n:Nat} {K:Nat→Nat→Rat} (hK:Reg n K) (b:Nat→Rat):(rref n (aug n K b) (n+1)).2.contains n=false∧∀ i,i < n→sum n (fun c=>K i c*sol n (rref n (aug n K b) (n+1)).1 (rref n (aug n K b) (n+1)).2 c)=b i:=by
 have hR:=rref_ok n (aug n K b) (n+1)
 have hno:∀ s,s < (rref n (aug n K b) (n+1)).2.length→(rref n (aug n K b) (n+1)).2[s]?.getD 0≠n:=by
  intro s hs he;obtain⟨y,h1,h2⟩:=solve_no hR hs he;obtain⟨h3,-⟩:=inv_ok (rref_ok n (besideI n K) n) ((inv_iff n K).2 hK)
  have hy:∀ c,c < n→y c=0:=by
   intro c hc
   have e:sum n (fun d=>sum n (fun i=>y i*K i d)*(rref n (besideI n K) n).1 d (n+c))=y c:=by
    have e1:sum n (fun d=>sum n (fun i=>y i*K i d)*(rref n (besideI n K) n).1 d (n+c))=sum n (fun i=>y i*mm n K (fun a b=>(rref n (besideI n K) n).1 a (n+b)) i c):=by
     rw [show sum n (fun d=>sum n (fun i=>y i*K i d)*(rref n (besideI n K) n).1 d (n+c))=sum n (fun d=>sum n (fun i=>y i*(K i d*(rref n (besideI n K) n).1 d (n+c)))) from sum_congr fun d _=>by rw [←sum_mul_right]; exact sum_congr fun i _=>by grind,sum_comm];exact sum_congr fun i _=>by unfold mm; rw [sum_mul]
    rw [e1,show sum n (fun i=>y i*mm n K (fun a b=>(rref n (besideI n K) n).1 a (n+b)) i c)=sum n (fun i=>y i*dlt i c) from sum_congr fun i hi=>by rw [h3 i hi c hc]];exact sum_dlt' hc y
   rw [←e];exact sum_eq_zero fun d hd=>by rw [h1 d hd]; grind
  rw [sum_eq_zero (fun i hi=>by rw [hy i hi]; grind)] at h2;exact absurd h2 (by decide)
 refine⟨?_,solve_ok hR hno⟩;cases hc:(rref n (aug n K b) (n+1)).2.contains n with
 | false=>rfl
 | true =>
  rw [List.contains_iff_mem] at hc;obtain⟨s,hs,he⟩:=List.getElem_of_mem hc;exact absurd (by rw [List.getElem?_eq_getElem hs]; simpa using he) (hno s hs)
def bord (n:Nat) (K C:Nat→Nat→Rat) (i j:Nat):Rat:=if i < n then (if j < n then K i j else C (j - n) i) else (if j < n then C (i - n) j else 0)
theorem full_len {m n:Nat} {A:Nat→Nat→Rat} {P:Nat→Rat} (hP:∀ i,i < m→0 < P i):Reg n (nm m A P)↔(rref m A n).2.length=n:=by
 have hR:=rref_ok m A n
 constructor
 ·intro hK
  have hle:(rref m A n).2.length≤n:=by
   rcases Nat.lt_or_ge n (rref m A n).2.length with h9 | h9
   ·have h8:=inc_ge hR.inc n h9;have h7:=hR.low n h9;omega
   ·exact h9
  rcases Nat.lt_or_ge (rref m A n).2.length n with h2 | h2
  ·obtain⟨c,hc,hg⟩:=inc_gap hR.inc h2;have h4:=nul_null hR hc
   have h3:=hK (nul (rref m A n).1 (rref m A n).2 c) (fun a ha=>by
    rw [nm_av]
    exact sum_eq_zero fun k hk=>by
     have:av n A (nul (rref m A n).1 (rref m A n).2 c) k=0:=h4 k hk
     rw [this]; grind) c hc
   rw [nul_self hg] at h3;exact absurd h3 (by decide)
  ·omega
 ·intro hl;have hb:=bas_reg hR hP;have hp:=inc_all hR.inc hR.low hl;rw [hl] at hb;intro x hx c hc;refine hb x (fun i hi=>?_) c hc;rw [←hx i hi];refine sum_congr fun d hd=>?_
  congr 1
  exact sum_congr fun k _=>by unfold bas; rw [hp i hi,hp d hd]
def gq (n:Nat) (A Q:Nat→Nat→Rat) (i j:Nat):Rat:=sum n (fun s=>A i s*sum n (fun t=>Q s t*A j t))
theorem full_model {m n:Nat} {A Q:Nat→Nat→Rat} {P:Nat→Rat} (hP:∀ i,i < m→0 < P i) (h1:∀ i,i < n→∀ c,c < n→mm n (nm m A P) Q i c=dlt i c) (h2:∀ i,i < n→∀ c,c < n→mm n Q (nm m A P) i c=dlt i c) :
  Model m n A (rref m A n).1 Q P (rref m A n).2∧(rref m A n).2.length=n∧∀ i j,gf A Q (rref m A n).2 i j=gq n A Q i j:=by
 have hR:=rref_ok m A n
 have hK:Reg n (nm m A P):=by
  intro x hx c hc
  have e:sum n (fun i=>Q c i*sum n (fun d=>nm m A P i d*x d))=x c:=by
   rw [show sum n (fun i=>Q c i*sum n (fun d=>nm m A P i d*x d))=sum n (fun i=>sum n (fun d=>Q c i*nm m A P i d*x d)) from sum_congr fun i _=>by rw [←sum_mul]; exact sum_congr fun d _=>by grind,sum_comm];rw [show sum n (fun d=>sum n (fun i=>Q c i*nm m A P i d*x d))=sum n (fun d=>dlt c d*x d) from sum_congr fun d hd=>by rw [←h2 c hc d hd]; unfold mm; rw [sum_mul_right]];exact sum_dlt hc x
  rw [←e];exact sum_eq_zero fun i hi=>by rw [hx i hi]; grind
 have hl:=(full_len hP).1 hK;have hp:=inc_all hR.inc hR.low hl;have hb:∀ i,i < n→∀ j,j < n→nm m (bas A (rref m A n).2) P i j=nm m A P i j:=fun i hi j hj=>sum_congr fun k _=>by unfold bas; rw [hp i hi,hp j hj]
 refine⟨⟨hR,hP,fun i hi c hc=>?_,fun i hi c hc=>?_⟩,hl,fun i j=>?_⟩
 ·rw [hl] at hi hc ⊢;rw [←h1 i hi c hc];exact mm_congr (fun k hk=>hb i hi k hk) (fun _ _=>rfl)
 ·rw [hl] at hi hc ⊢;rw [←h2 i hi c hc];exact mm_congr (fun _ _=>rfl) (fun k hk=>hb k hk c hc)
 ·unfold gf fits gq;rw [hl]
  exact sum_congr fun s hs=>by
   unfold bas;rw [hp s hs]
   congr 1
   exact sum_congr fun t ht=>by rw [hp t ht]
def rdn (n:Nat) (A Q:Nat→Nat→Rat) (P:Nat→Rat) (i:Nat):Rat:=1 - P i*gq n A Q i i
theorem rdn_hd {m n:Nat} {A Q:Nat→Nat→Rat} {P:Nat→Rat} {p:List Nat} (h:∀ i j,gf A Q p i j=gq n A Q i j) (i:Nat):rdn n A Q P i=1 - hd A Q P p i:=by
 unfold rdn hd;rw [h];have:m=m:=rfl
 grind
structure Inv2 (m n:Nat) (A Q:Nat→Nat→Rat) (P:Nat→Rat):Prop where
 pos:∀ i,i < m→0 < P i
 kq:∀ i,i < n→∀ c,c < n→mm n (nm m A P) Q i c=dlt i c
 qk:∀ i,i < n→∀ c,c < n→mm n Q (nm m A P) i c=dlt i c
theorem Inv2.range {m n:Nat} {A Q:Nat→Nat→Rat} {P:Nat→Rat} (h:Inv2 m n A Q P) {i:Nat} (hi:i < m):0≤rdn n A Q P i∧rdn n A Q P i≤1:=by
 obtain⟨hM,-,hg⟩:=full_model h.pos h.kq h.qk;have:=hM.diag hi;rw [rdn_hd (m:=m) hg]
 constructor <;> grind
theorem Inv2.zero {m n:Nat} {A Q:Nat→Nat→Rat} {P:Nat→Rat} (h:Inv2 (m+1) n A Q P) {i:Nat} (hi:i < m+1):rdn n A Q P i=0↔¬ Reg n (nm m (fun j=>A (skip i j)) (fun j=>P (skip i j))):=by
 obtain⟨hM,hl,hg⟩:=full_model h.pos h.kq h.qk;have hP':∀ j,j < m→0 < P (skip i j):=fun j hj=>h.pos _ (skip_lt hj)
 have hR:Rref m n (fun j c=>A (skip i j) c) _ _:=rref_ok m (fun j=>A (skip i j)) n;rw [full_len hP',rdn_hd (m:=m) hg]
 have hle:(rref m (fun j=>A (skip i j)) n).2.length≤n:=by
  rcases Nat.lt_or_ge n (rref m (fun j=>A (skip i j)) n).2.length with h9 | h9
  ·have h8:=inc_ge hR.inc n h9;have h7:=hR.low n h9;omega
  ·exact h9
 constructor
 ·intro e hx;have:=one_falls hM hi hR (by grind);omega
 ·intro e;have:=falls_one hM hi hR (by omega)
  grind
theorem sum_cs2 {m:Nat} {u a b:Nat→Rat} (hu:∀ k,k < m→0≤u k) (hB:0 < sum m (fun k=>u k*(b k*b k))) :
  sum m (fun k=>u k*(a k*b k))*sum m (fun k=>u k*(a k*b k))≤sum m (fun k=>u k*(a k*a k))*sum m (fun k=>u k*(b k*b k)):=by
 obtain⟨B,hBe⟩:∃ B,B=sum m (fun k=>u k*(b k*b k)):=⟨_,rfl⟩
 obtain⟨C,hCe⟩:∃ C,C=sum m (fun k=>u k*(a k*b k)):=⟨_,rfl⟩
 have h1:0≤sum m (fun k=>u k*((B*a k - C*b k)*(B*a k - C*b k))):=sum_nonneg fun k hk=>Rat.mul_nonneg (hu k hk) (sq_nonneg _)
 have h2:sum m (fun k=>u k*((B*a k - C*b k)*(B*a k - C*b k)))=B*B*sum m (fun k=>u k*(a k*a k)) - 2*B*C*sum m (fun k=>u k*(a k*b k))+C*C*sum m (fun k=>u k*(b k*b k)):=by
  rw [←sum_mul,←sum_mul,←sum_mul,←sum_sub,←sum_add];exact sum_congr fun k _=>by grind
 rw [←hBe,←hCe] at h2 ⊢;rw [←hBe] at hB;have h3:0≤B*(B*sum m (fun k=>u k*(a k*a k)) - C*C):=by rw [h2] at h1; grind
 rcases Rat.le_total (a:=C*C) (b:=sum m (fun k=>u k*(a k*a k))*B) with h | h
 ·exact h
 ·by_cases e:C*C=sum m (fun k=>u k*(a k*a k))*B
  ·rw [e]; exact Rat.le_refl
  ·have h4:0 < C*C - sum m (fun k=>u k*(a k*a k))*B:=by grind
   have h5:=Rat.mul_pos hB h4
   grind
theorem Inv2.cs {m n:Nat} {A Q:Nat→Nat→Rat} {P:Nat→Rat} (h:Inv2 m n A Q P) {i k:Nat} (hi:i < m) (hk:k < m) (hne:i≠k) (hri:rdn n A Q P i≠0) :
  P k*(gq n A Q k i*gq n A Q k i)*P i≤rdn n A Q P i*rdn n A Q P k:=by
 obtain⟨hM,hl,hg⟩:=full_model h.pos h.kq h.qk
 let e:Nat→Nat→Rat:=fun a j=>dlt a j - gq n A Q j a*P a
 have hsym:∀ a b,gq n A Q a b=gq n A Q b a:=fun a b=>by rw [←hg,←hg]; exact hM.symm a b
 have hidem:∀ a b,a < m→sum m (fun j=>gq n A Q a j*P j*gq n A Q j b)=gq n A Q a b:=fun a b ha=>by
  have:=hM.idem a b ha;simp only [hg] at this;exact this
 have key:∀ a b,a < m→b < m→sum m (fun j=>P j*(e a j*e b j))=P a*dlt a b - P a*P b*gq n A Q a b:=by
  intro a b ha hb
  have h1:sum m (fun j=>P j*(e a j*e b j))=sum m (fun j=>dlt a j*(P j*dlt b j)) - sum m (fun j=>dlt a j*(P j*gq n A Q j b*P b)) - sum m (fun j=>dlt b j*(P j*gq n A Q j a*P a))+P a*P b*sum m (fun j=>gq n A Q a j*P j*gq n A Q j b):=by
   rw [←sum_mul,←sum_sub,←sum_sub,←sum_add]
   exact sum_congr fun j _=>by
    show P j*((dlt a j - gq n A Q j a*P a)*(dlt b j - gq n A Q j b*P b))=_
    rw [hsym a j]; grind
  rw [h1,sum_dlt ha,sum_dlt ha,sum_dlt hb,hidem a b ha,hsym b a];have:dlt b a=dlt a b:=by unfold dlt; by_cases e:a=b <;> simp [e,eq_comm]
  rw [this]; grind
 have hpi:=h.pos i hi;have hpk:=h.pos k hk;have e1:=key i i hi hi;have e2:=key k k hk hk;have e3:=key k i hk hi;rw [dlt_same] at e1 e2;rw [dlt_ne (fun e=>hne e.symm)] at e3;have hr:=(h.range hi).1
 have hB:0 < sum m (fun j=>P j*(e i j*e i j)):=by
  rw [e1];have:P i*1 - P i*P i*gq n A Q i i=P i*rdn n A Q P i:=by unfold rdn; grind
  rw [this];exact Rat.mul_pos hpi (by grind)
 have hc:=sum_cs2 (u:=P) (a:=e k) (b:=e i) (m:=m) (fun j hj=>Rat.le_of_lt (h.pos j hj)) hB;rw [e1,e2,e3] at hc;have f1:(P k*1 - P k*P k*gq n A Q k k)*(P i*1 - P i*P i*gq n A Q i i)=P k*P i*(rdn n A Q P i*rdn n A Q P k):=by unfold rdn; grind
 have f2:(P k*0 - P k*P i*gq n A Q k i)*(P k*0 - P k*P i*gq n A Q k i)=P k*P i*(P k*(gq n A Q k i*gq n A Q k i)*P i):=by grind
 rw [f1,f2] at hc;have hpp:=Rat.mul_pos hpk hpi
 rcases Rat.le_total (a:=P k*(gq n A Q k i*gq n A Q k i)*P i) (b:=rdn n A Q P i*rdn n A Q P k) with h9 | h9
 ·exact h9
 ·by_cases e:P k*(gq n A Q k i*gq n A Q k i)*P i=rdn n A Q P i*rdn n A Q P k
  ·rw [e]; exact Rat.le_refl
  ·have h4:0 < P k*(gq n A Q k i*gq n A Q k i)*P i - rdn n A Q P i*rdn n A Q P k:=by grind
   have h5:=Rat.mul_pos hpp h4
   grind
theorem Inv2.fix {m n:Nat} {A Q:Nat→Nat→Rat} {P:Nat→Rat} (h:Inv2 m n A Q P) (x:Nat→Rat) {i:Nat} (hi:i < m):sum m (fun j=>gq n A Q i j*P j*av n A x j)=av n A x i:=by
 obtain⟨hM,hl,hg⟩:=full_model h.pos h.kq h.qk;rw [←hM.fix x i hi];exact sum_congr fun j _=>by rw [←hg]
def ext (n:Nat) (A Q:Nat→Nat→Rat) (P:Nat→Rat) (i j:Nat):Rat:=P i*sum n (fun t=>Q j t*A i t)
theorem Inv2.ext_nm {m n:Nat} {A Q:Nat→Nat→Rat} {P:Nat→Rat} (h:Inv2 m n A Q P) {i a:Nat} (ha:a < n):sum n (fun b=>nm m A P a b*ext n A Q P i b)=P i*A i a:=by
 unfold ext
 have e:sum n (fun b=>nm m A P a b*(P i*sum n (fun t=>Q b t*A i t)))=P i*sum n (fun t=>mm n (nm m A P) Q a t*A i t):=by
  rw [show sum n (fun b=>nm m A P a b*(P i*sum n (fun t=>Q b t*A i t)))=sum n (fun b=>sum n (fun t=>P i*(nm m A P a b*Q b t*A i t))) from sum_congr fun b _=>by
   rw [show nm m A P a b*(P i*sum n (fun t=>Q b t*A i t))=(P i*nm m A P a b)*sum n (fun t=>Q b t*A i t) from by grind,←sum_mul]
   exact sum_congr fun t _=>by grind,sum_comm]
  rw [←sum_mul];exact sum_congr fun t _=>by unfold mm; rw [sum_mul,←sum_mul_right]
 rw [e,show sum n (fun t=>mm n (nm m A P) Q a t*A i t)=sum n (fun t=>dlt a t*A i t) from sum_congr fun t ht=>by rw [h.kq a ha t ht],sum_dlt ha]
theorem Inv2.form {m n:Nat} {A Q:Nat→Nat→Rat} {P:Nat→Rat} (h:Inv2 m n A Q P) {i:Nat}:sum n (fun j=>ext n A Q P i j*sum n (fun t=>nm m A P j t*ext n A Q P i t))=P i*(1 - rdn n A Q P i):=by
 rw [show sum n (fun j=>ext n A Q P i j*sum n (fun t=>nm m A P j t*ext n A Q P i t))=sum n (fun j=>P i*P i*(A i j*sum n (fun t=>Q j t*A i t))) from sum_congr fun j hj=>by rw [h.ext_nm hj]; unfold ext; grind,sum_mul];unfold rdn gq
 grind
def cellSt (F:Nat→Nat→Nat→Rat) (m i s j a b:Nat):Rat :=
 if a < i then F m a b else if a=i then (if b < j then F (s+1) a b else F s a b) else F 0 a b
theorem cellSt_set (F:Nat→Nat→Nat→Rat) (m i s j a b:Nat) :
  cellSt F m i s (j+1) a b=if a=i then (if b=j then F (s+1) i j else cellSt F m i s j i b) else cellSt F m i s j a b:=by
 unfold cellSt
 by_cases e:a=i
 ·subst e
  by_cases e2:b=j
  ·subst e2; simp
  ·by_cases e3:b < j
   ·simp [e2,e3,Nat.lt_succ_of_lt e3]
   ·simp [e2,e3,show ¬ b < j+1 by omega]
 ·simp [e]
theorem cellSt_row (F:Nat→Nat→Nat→Rat) (m i s a:Nat) {n b:Nat} (hb:b < n):cellSt F m i s n a b=cellSt F m i (s+1) 0 a b:=by
 unfold cellSt; simp [hb]
theorem cellSt_next (F:Nat→Nat→Nat→Rat) (m i a b:Nat):cellSt F m i m 0 a b=cellSt F m (i+1) 0 0 a b:=by
 unfold cellSt
 by_cases e:a=i
 ·subst e; simp
 ·by_cases e2:a < i
  ·simp [e2,Nat.lt_succ_of_lt e2]
  ·by_cases e3:a=i+1
   ·subst e3; simp [e,e2]
   ·simp [e,e2,e3,show ¬ a < i+1 by omega]
theorem cellSt_zero (F:Nat→Nat→Nat→Rat) (m a b:Nat):cellSt F m 0 0 0 a b=F 0 a b:=by
 unfold cellSt; by_cases e:a=0 <;> simp [e]
theorem cellSt_end (F:Nat→Nat→Nat→Rat) (m n a b:Nat) (ha:a < n):cellSt F m n 0 0 a b=F m a b:=by
 unfold cellSt; simp [ha]
theorem cellSt_at (F:Nat→Nat→Nat→Rat) (m i s j:Nat):cellSt F m i s j i j=F s i j:=by
 unfold cellSt; simp
section
variable {m n i j:Nat} {A:Nat→Nat→Rat} {P L P' L':Nat→Rat}
end
end Go.Proofs.YtccepmpebioeiaaGreat
