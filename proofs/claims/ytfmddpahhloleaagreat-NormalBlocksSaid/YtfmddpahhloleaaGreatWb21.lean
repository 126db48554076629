import Derived.Test.YtfmddpahhloleaaGreatWb19
import Derived.Test.YtfmddpahhloleaaGreatWb20
set_option linter.all false
set_option maxHeartbeats 8000000
set_option maxRecDepth 100000
namespace Go.Proofs.YtfmddpahhloleaaGreat
open Go.RowKit
variable {w:World} {N n lo hi k g i m c j K:Nat} {v s:Value} {q:Rat} {A:Option Addr}
def xE (X:Nat->Nat->Rat) (p:Nat->Rat) (s i j:Nat):Rat:=sum s (fun t=>p t*X t i*X t j)
def yx (X:Nat->Nat->Rat) (y p:Nat->Rat) (s i:Nat):Rat:=sum s (fun t=>p t*X t i*y t)
def YX (N:Nat) (w:World) (n:Nat) (M:Nat->Nat->Rat) (r:Nat->Rat) (e:Ending) (w':World):Prop :=
 ∃ h cap g,e=.returned (.agg #[.slice (some ⟨h,0,none⟩) n cap,.slice (some ⟨g,0,none⟩) n n])/\MtV N w.heap.size w'.heap.size w' (.slice (some ⟨h,0,none⟩) n cap) n n M/\LsV N w.heap.size w'.heap.size w' (.slice (some ⟨g,0,none⟩) n n) n r/\Ext w w'
theorem ww {s:Nat} {X:Nat->Nat->Rat} {p:Nat->Rat} (hx:HtM m n k X) (hp:HtL m k p) (hs:s<=m) (hK:m*(3*k+1)+1<=K):HtM n n K (xE X p s):=fun i hi j hj =>
 y5 (n:=m) (k:=3*k) (fun t ht=>(((hp t ht).mul (hx t ht i hi)).mul (hx t ht j hj)).mono (by omega)) hs hK
theorem QI {s:Nat} {X:Nat->Nat->Rat} {y p:Nat->Rat} (hx:HtM m n k X) (hy:HtL m k y) (hp:HtL m k p) (hs:s<=m) (hK:m*(3*k+1)+1<=K):HtL n K (yx X y p s):=fun i hi =>
 y5 (n:=m) (k:=3*k) (fun t ht=>(((hp t ht).mul (hx t ht i hi)).mul (hy t ht)).mono (by omega)) hs hK
theorem XH (X:Nat->Nat->Rat) (p:Nat->Rat) (s:Nat) (hi:i < n) (j:Nat):Jf (p s) (X s) (xE X p s) n i j=xE X p (s+1) i j:=by
 unfold Jf xE; rw [if_pos hi,qP]
theorem XF (X:Nat->Nat->Rat) (y p:Nat->Rat) (s:Nat) (hi:i < n):Y6 (p s) (X s) (y s) (yx X y p s) n i=yx X y p (s+1) i:=by
 unfold Y6 yx; rw [if_pos hi,qP]
theorem WA {t:TypeId} {x0 x1:Value} (h:w.heap[g]?=some (.cells #[x0,x1] t (0,0))) (ht:NoU w g) (v:Value) :
  ∃ w',w.setCell ⟨g,0,none⟩ v=w'/\w'.heap[g]?=some (.cells #[v,x1] t (0,0))/\Chg g (g+1) w w'/\w'.heap.size=w.heap.size:=by
 have U:Upd g w (w.setCell ⟨g,0,none⟩ v):=(Upd.refl g w).set 0 v;exact⟨_,rfl,heap_set h 0 v,U.chg ht,U.size⟩
theorem Wy {t:TypeId} {x0 x1:Value} (h:w.heap[g]?=some (.cells #[x0,x1] t (0,0))) (ht:NoU w g) (v v':Value) :
  ∃ w',(w.setCell ⟨g,0,none⟩ v).setCell ⟨g,1,none⟩ v'=w'/\w'.heap[g]?=some (.cells #[v,v'] t (0,0))/\Chg g (g+1) w w'/\w'.heap.size=w.heap.size:=by
 have U:Upd g w ((w.setCell ⟨g,0,none⟩ v).setCell ⟨g,1,none⟩ v'):=((Upd.refl g w).set 0 v).set 1 v';exact⟨_,rfl,heap_set (heap_set h 0 v) 1 v',U.chg ht,U.size⟩
theorem JB {v1 v2 v3:Value} {X:Nat->Nat->Rat} {y p:Nat->Rat} (h1:MtV N lo hi w v1 m n X) (h2:LsV N lo hi w v2 m y) (h3:LsV N lo hi w v3 m p) (hm0:0 < m) (hm:m < 1000000) (hn0:0 < n) (hn:n < 1000000)
 (hkx:HtM m n k X) (hky:HtL m k y) (hkp:HtL m k p) (hK:m*(3*k+1)+3*k+2<=29000000000) :
  Calls Tryz.prog 53 #[.agg #[v1,v2,v3]] w (YX N w n (xE X p m) (yx X y p m)):=by
 have HX:=q_h hkx;have HY:=q_h hky;have HP:=q_h hkp;have HK:=q_h hK;obtain⟨Rf,hRf⟩:=qc (YX N w n (xE X p m) (yx X y p m));rw [<-hRf.out];have hN:=h1.le;obtain⟨A1,c1,rfl,hmc,hcm⟩:=h1.form;obtain⟨A2,c2,rfl,hmc2,hcm2⟩:=h2.form;obtain⟨A3,c3,rfl,hmc3,hcm3⟩:=h3.form;have hI1:=h1;have hI2:=h2;have hI3:=h3;obtain⟨b,off,rfl,-,-,hx⟩:=h1.addr hm0;obtain⟨A0,c0,o0,hc0,hm0',-⟩:=hx 0 (by omega);rw [Nat.add_zero] at o0;unfold maxLen at hm0' hcm hcm2 hcm3;clear h1 h2 h3 hx hkx hky hkp hK;go_enter Tryz.func53,Tryz.ntmps53;go_upto_region 1 with (fail);refine kG ?_;intro W hE hsz B0 B1;obtain⟨a0,a1,a2,-⟩:=cells3 B0;replace o0:=hE.cell o0;go_wp2_with (go_at_call 119; refine q_o ?_);refine (QK (N:=N) (by omega) n rfl hn).mono ?_;rintro e w1 ⟨g,rfl,hg1,hg2,hr,e1⟩;clear a0 a1 a2 o0;go_upto_region 3 with (fail);refine qo ?_;intro w2 e2 hsz2 B2;have e3:=e1.trans e2;replace hr:=hr.ext e2;obtain⟨ge,hge⟩:∃ ge,ge=w1.heap.size:=⟨_,rfl⟩
 rw [<-hge] at hg2 hsz2 B2 ⊢;clear e1 e2 hge;have hG0:zI N (ge+1) w2.heap.size w2 (.slice none 0 0) 0 n (fun _ _=>0):=zI.nil (by omega) (by omega) (q_r) _;go_wp2
 go_loopw [16] (fun i wr=>∃ k:Nat,k<=n/\i=.int .i64 k/\Ext W wr/\ge+1<=wr.heap.size/\zC N wr g n n (fun _=>0)/\∃ A c,wr.heap[ge]?=some (.cells #[.slice A k c,.slice (some ⟨g,0,none⟩) n n] 102 (0,0))/\zI N (ge+1) wr.heap.size wr (.slice A k c) k n (fun _ _=>0)) (fun i _=>n - (intOf i).toNat)
 case atStart=>exact⟨0,Nat.zero_le _,rfl,e3,hsz2,hr,_,_,B2,hG0⟩
 case round =>
  clear e3 hr B2 hG0 hsz2;obtain⟨i,hin,rfl,hE2,hsz2,hr,A,c,B2,hG⟩:=hrel
  by_cases hlt:i < n
  ·obtain⟨d0,d1,d2,d3⟩:=cells2 B2;go_upto_region 5 with (fail);have eC:=(Ext.refl wr).drew;refine qm (fun w'=>w'.cell? ⟨ge,0,none⟩=some (.slice A i c)) [7] (by kernel_rfl) (by exact eC.cell d0) (fun hHeld=>?_);refine sP 0 (h:=?_);try simp only [nr]
   refine sT 1 (h:=?_);try simp only [nr]
   refine sP 2 (h:=?_);try simp only [nr]
   refine qj (i:=3) rfl (by kernel_rfl) (fun K hK=>?_);go_simp;refine (QK (N:=N) (by have h8:=eC.size; have h9:N<=wr.heap.size:=(by omega); omega) n rfl hn).mono ?_;rintro e w5 ⟨g5,rfl,hg5,hgs5,hr5,e5⟩;have hg6:wr.heap.size<=g5:=q_l eC.size hg5;replace eC:=eC.trans e5;go_wp2_with fail;clear hHeld;refine hK.out _ _ (by exact eC.cell d0) fun hHeld=>?_
   clear hK K;try simp only [nr]
   refine qj (i:=4) rfl (by kernel_rfl) (fun K hK=>?_);go_simp
   first | refine qo ?_ | refine yB ?_
   intro w4 e4 hsz4 BX;replace eC:=eC.trans e4;replace hr5:=hr5.ext e4;have hG4:=hG.ext eC;have hE4:=hE2.trans eC;clear hHeld;refine hK.out _ _ (by exact eC.cell d0) fun hHeld=>?_
   clear hK K;try simp only [nr]
   refine qj (i:=5) rfl (by kernel_rfl) (fun K hK=>?_);refine Qv rfl _ _ 23 Tryz.underlying23 rfl (by rfl) hG4 (by rfl) hr5 hg6 (by unfold maxLen; omega) BX (by omega) ?_;rintro h' cap' w6 hG3 ⟨g',hg',c3',-⟩;have hE5:=c3'.ext hE4 (by omega);replace hG3:=hG3.congr (B:=fun _ _=>0) (fun i _ j _=>by unfold xK; split <;> rfl);have D5:=c3'.blk (eC.block B2) (.inl (by omega));have hr6:=(hr.ext eC).chg c3' (by omega) (.inl (by omega));have hs6:ge+1<=w6.heap.size:=by have:=c3'.size; have:=eC.size; omega
   replace d0:=c3'.cell (eC.cell d0) (.inl (show ge < _ by omega));replace eC:=Ext.refl w6;obtain⟨-,-,f0,f1⟩:=cells2 D5;clear hHeld;refine hK.out _ _ (by exact eC.cell d0) fun hHeld=>?_
   clear hK K;try simp only [nr]
   refine sP 6 (h:=?_);try simp only [nr]
   refine ql (i:=7) rfl (by kernel_rfl) (by kernel_rfl) (fun K hK=>?_);go_simp;refine hK.out _ _ ?_;clear hK K;try simp only [nr]
   refine qh (by kernel_rfl) ?_ _;clear hHeld;obtain⟨w7,E7,D7,C7,hs7⟩:=WA D5 (NoU.mk D5 (by decide)) (.slice (some ⟨h',0,none⟩) (i+1) cap');rw [E7];have hE7:=C7.ext hE5 (by omega);have hr7:=hr6.chg C7 (by omega) (.inl (by omega));have hG7:=(hG3.chg C7 (by omega) (.inr (by omega))).wide (hi':=w7.heap.size) (by omega) (q_r);clear d0 d1 d2 d3 f0 f1 B2 hG hG4 hG3 D5 E7 C7 hr hr5 hr6 BX hE2 hE4 hE5 e4 e5;go_wp2;go_roundw
   case rel=>exact⟨i+1,by omega,by go_num,hE7,by omega,hr7,_,_,D7,hG7⟩
   case measure=>simp [intOf]; omega
  ·obtain rfl:n=i:=by omega
   obtain⟨h,cap,β,κ,hv,hcap,ho⟩:=hG.own hn0;rw [hv] at B2;have q0:EqO N W.heap.size (ge+1) wr.heap.size wr ge h cap n β κ g (xE X p 0) (yx X y p 0):=⟨by omega,hg1,by omega,by omega,by omega,by omega,B2,ho,hr,hcap⟩
   replace B0:=hE2.block B0;replace B1:=hE2.block B1;replace hE2:=hE.trans hE2;clear hr hG ho hv B2;obtain⟨a0,a1,a2,-⟩:=cells3 B0;obtain⟨wq,hwq⟩:∃ wq,wq=wr:=⟨wr,rfl⟩
   subst hwq;clear hE;go_wp2;clear a0 a1 a2
   go_loopw [29] (fun i wr=>∃ k:Nat,k<=m/\i=.int .i64 k/\Chg W.heap.size wq.heap.size wq wr/\EqO N W.heap.size (ge+1) wq.heap.size wr ge h cap n β κ g (xE X p k) (yx X y p k)) (fun i _=>m - (intOf i).toNat)
   case atStart=>exact⟨0,Nat.zero_le _,rfl,Chg.refl _ _ _,q0⟩
   case round =>
    clear q0;obtain⟨i,him,rfl,hC,q⟩:=hrel;have hhi:=hI1.2.1;have hB0:=hC.blk B0 (.inl (by omega));obtain⟨a0,a1,a2,-⟩:=cells3 hB0
    by_cases hlt2:i < m
    ·have hl1:=(hI1.ext hE2).chg hC (by omega) (.inl (by omega));have hl2:=(hI2.ext hE2).chg hC (by omega) (.inl (by omega));have hl3:=(hI3.ext hE2).chg hC (by omega) (.inl (by omega));obtain⟨b',off',hA,-,-,hx⟩:=hl1.addr (by omega);obtain⟨rfl,rfl⟩:b=b'/\off=off':=by injection hA with hA; injection hA with e1 e2; exact⟨e1,e2⟩
     obtain⟨A4,c4,o0,-,-,hrow⟩:=hx i hlt2;obtain⟨b2,off2,rfl,-,-,hx2⟩:=hl2.addr (by omega);obtain⟨n1,A5,k5,c5,A6,k6,c6,p0,p1,p2,p3,hb1,g1,g2⟩:=(hx2 i hlt2).open;obtain⟨b3,off3,rfl,-,-,hx3⟩:=hl3.addr (by omega);obtain⟨n2,A7,k7,c7,A8,k8,c8,r0,r1,r2,r3,hb2,g3,g4⟩:=(hx3 i hlt2).open;clear hx hx2 hx3 hA hl1 hl2 hl3;go_upto_region 10 with (fail);have eC:=(Ext.refl wr).drew;refine qm (fun w'=>w'.cell? ⟨w.heap.size,1,none⟩=some (.slice (some ⟨b2,off2,none⟩) m c2)/\w'.cell? ⟨w.heap.size,2,none⟩=some (.slice (some ⟨b3,off3,none⟩) m c3)/\w'.cell? ⟨b2,off2+i*4,none⟩=some (.bool n1)/\w'.cell? ⟨b2,off2+i*4+1,none⟩=some (.slice A5 k5 c5)/\w'.cell? ⟨b2,off2+i*4+2,none⟩=some (.bool false)/\w'.cell? ⟨b2,off2+i*4+3,none⟩=some (.slice A6 k6 c6)/\w'.cell? ⟨b3,off3+i*4,none⟩=some (.bool n2)/\w'.cell? ⟨b3,off3+i*4+1,none⟩=some (.slice A7 k7 c7)/\w'.cell? ⟨b3,off3+i*4+2,none⟩=some (.bool false)/\w'.cell? ⟨b3,off3+i*4+3,none⟩=some (.slice A8 k8 c8)) [11] (by kernel_rfl) (by exact⟨eC.cell a1,eC.cell a2,eC.cell p0,eC.cell p1,eC.cell p2,eC.cell p3,eC.cell r0,eC.cell r1,eC.cell r2,eC.cell r3⟩) (fun hHeld=>?_);refine sP 0 (h:=?_);try simp only [nr]
     refine sP 1 (h:=?_);try simp only [nr]
     refine sT 2 (h:=?_);try simp only [nr]
     refine sP 3 (h:=?_);try simp only [nr]
     refine sP 4 (h:=?_);try simp only [nr]
     refine sT 5 (h:=?_);try simp only [nr]
     refine sP 6 (h:=?_);try simp only [nr]
     refine sT 7 (h:=?_);try simp only [nr]
     refine sP 8 (h:=?_);try simp only [nr]
     refine sP 9 (h:=?_);try simp only [nr]
     refine sT 10 (h:=?_);try simp only [nr]
     refine ql (i:=11) rfl (by kernel_rfl) (by kernel_rfl) (fun K hK=>?_);go_simp;refine (q58 (q.ext eC) (hrow.ext eC) (by omega) ((qY.mk hb1 g1 g2).ext eC) ((qY.mk hb2 g3 g4).ext eC) hn (K:=m*(3*k+1)+1) (k:=k) (ww HX.out HP.out him (q_r)) (QI HX.out HY.out HP.out him (q_r)) (HX.out i hlt2) (HY.out i hlt2) (HP.out i hlt2) (by have:=HK.out; omega)).mono ?_;rintro e w5 ⟨rfl,q5,C5⟩;have hC5:=(hC.trans (eC.chg _ _)).trans C5;replace q5:=q5.congr (fun i' h1 j _=>XH X p i h1 j) (fun i' h1=>XF X y p i h1);go_wp2_with fail;refine hK.out _ _ ?_;clear hK K;try simp only [nr]
     refine qh (by kernel_rfl) ?_ _;clear hHeld;clear q o0 a0 a1 a2 p0 p1 p2 p3 r0 r1 r2 r3 g1 g2 g3 g4 hb1 hb2 hrow hB0 hC C5;go_wp2;go_roundw
     case rel=>exact⟨i+1,by omega,by go_num,hC5,q5⟩
     case measure=>simp [intOf]; omega
    ·obtain rfl:m=i:=by omega
     replace B1:=hC.blk B1 (.inl (by omega));obtain⟨d0,d1,-⟩:=cells2 q.rec_;obtain⟨f0,f1,f2,f3⟩:=cells2 B1;clear a0 a1 a2;go_wp2;obtain⟨w7,E7,D7,C7,hs7⟩:=Wy B1 (NoU.mk B1 (by decide)) (.slice (some ⟨h,0,none⟩) n cap) (.slice (some ⟨g,0,none⟩) n n);rw [E7];obtain⟨x0,x1,-⟩:=cells2 D7;have hs8:=hC.size;have hE7:Ext w w7:=C7.ext (hC.ext hE2 (by omega)) (by omega);have hM7:=(q.own.mtv q.own.mle hcap).chg C7 (by omega) (.inr (by omega));have hl7:=(q.row.chg C7 (by omega) (.inr (by omega))).lsv (c:=n) (lo:=w.heap.size) (hi:=w7.heap.size) (q_r) (by unfold maxLen; omega) (by omega) (by omega) (q_r);refine bodyPost_ret (v:=.agg #[.slice (some ⟨h,0,none⟩) n cap,.slice (some ⟨g,0,none⟩) n n]) ?_ rfl ?_
     ·simp [results,x0,x1,go_sem]
     rw [hRf.out];exact⟨h,cap,g,rfl,MtR.wide hM7 (by omega) (by omega) (q_r),hl7,hE7⟩
end Go.Proofs.YtfmddpahhloleaaGreat
namespace Go.Proofs.YtfmddpahhloleaaGreat
variable {w:World} {N n lo hi k g i m c j K:Nat} {v s:Value} {q:Rat} {A:Option Addr}
theorem q1H {K M:Nat->Nat->Rat} {p:List Nat} (h:Z7 n n K M p) (hl:p.length=n):Reg n K:=by
 intro x hx c hc;have h1:=Xa.null (n:=n) h.there hx c hc;have hp:=KL h.inc h.low hl
 have h2:sum n (fun d=>M c d*x d)=sum n (fun d=>dlt c d*x d):=qf fun d hd=>by
  have h3:=h.unit d (by omega) c hc;rw [hp d hd] at h3;rw [h3]
 rw [h2,qR hc] at h1;exact h1
theorem q1F {K M:Nat->Nat->Rat} {p:List Nat} (h:Z7 n n K M p) (hK:Reg n K):p.length=n:=by
 have h1:=h.len
 rcases Nat.lt_or_ge p.length n with h2 | h2
 ·obtain⟨c,hc,hg⟩:=KJ h.inc h2;have h3:=hK _ (Qi h hc) c hc;rw [Qh hg] at h3;exact absurd h3 (by decide)
 ·omega
theorem q1I (n:Nat) (K:Nat->Nat->Rat):(qH n K n).2.length=n↔Reg n K:=⟨q1H (zN n K n),q1F (zN n K n)⟩
theorem q4i (n:Nat) (K:Nat->Nat->Rat):(qH n (zf n K) n).2.length=n↔Reg n K:=by
 constructor
 ·intro h x hx c hc;obtain⟨-,h2⟩:=YD (zN n (zf n K) n) h
  have e:sum n (fun i=>(qH n (zf n K) n).1 c (n+i)*sum n (fun d=>K i d*x d))=x c:=by
   have e1:sum n (fun i=>(qH n (zf n K) n).1 c (n+i)*sum n (fun d=>K i d*x d))=sum n (fun d=>mm n (fun a b=>(qH n (zf n K) n).1 a (n+b)) K c d*x d):=by
    rw [show sum n (fun i=>(qH n (zf n K) n).1 c (n+i)*sum n (fun d=>K i d*x d))=sum n (fun i=>sum n (fun d=>(qH n (zf n K) n).1 c (n+i)*K i d*x d)) from qf fun i _=>by rw [<-qI]; exact qf fun d _=>by grind,qN];exact qf fun d _=>by unfold mm; rw [qA]
   rw [e1,show sum n (fun d=>mm n (fun a b=>(qH n (zf n K) n).1 a (n+b)) K c d*x d)=sum n (fun d=>dlt c d*x d) from qf fun d hd=>by rw [h2 c hc d hd]];exact qR hc x
  rw [<-e];exact qp fun i hi=>by rw [hx i hi]; grind
 ·intro h; exact JK (zN n (zf n K) n) h
theorem Xr {K:Nat->Nat->Rat} (hK:Reg n K) (b:Nat->Rat):(qH n (aug n K b) (n+1)).2.contains n=false/\∀ i,i < n->sum n (fun c=>K i c*sol n (qH n (aug n K b) (n+1)).1 (qH n (aug n K b) (n+1)).2 c)=b i:=by
 have hR:=zN n (aug n K b) (n+1)
 have hno:∀ s,s < (qH n (aug n K b) (n+1)).2.length->(qH n (aug n K b) (n+1)).2[s]?.getD 0≠n:=by
  intro s hs he;obtain⟨y,h1,h2⟩:=q1w hR hs he;obtain⟨h3,-⟩:=YD (zN n (zf n K) n) ((q4i n K).2 hK)
  have hy:∀ c,c < n->y c=0:=by
   intro c hc
   have e:sum n (fun d=>sum n (fun i=>y i*K i d)*(qH n (zf n K) n).1 d (n+c))=y c:=by
    have e1:sum n (fun d=>sum n (fun i=>y i*K i d)*(qH n (zf n K) n).1 d (n+c))=sum n (fun i=>y i*mm n K (fun a b=>(qH n (zf n K) n).1 a (n+b)) i c):=by
     rw [show sum n (fun d=>sum n (fun i=>y i*K i d)*(qH n (zf n K) n).1 d (n+c))=sum n (fun d=>sum n (fun i=>y i*(K i d*(qH n (zf n K) n).1 d (n+c)))) from qf fun d _=>by rw [<-qA]; exact qf fun i _=>by grind,qN];exact qf fun i _=>by unfold mm; rw [qI]
    rw [e1,show sum n (fun i=>y i*mm n K (fun a b=>(qH n (zf n K) n).1 a (n+b)) i c)=sum n (fun i=>y i*dlt i c) from qf fun i hi=>by rw [h3 i hi c hc]];exact jP hc y
   rw [<-e];exact qp fun d hd=>by rw [h1 d hd]; grind
  rw [qp (fun i hi=>by rw [hy i hi]; grind)] at h2;exact absurd h2 (by decide)
 refine⟨?_,q1v hR hno⟩;cases hc:(qH n (aug n K b) (n+1)).2.contains n with
 | false=>rfl
 | true =>
  rw [List.contains_iff_mem] at hc;obtain⟨s,hs,he⟩:=List.getElem_of_mem hc;exact absurd (by rw [List.getElem?_eq_getElem hs]; simpa using he) (hno s hs)
theorem Qs (n k:Nat) (f:Nat->Rat):sum (n+k) f=sum n f+sum k (fun j=>f (n+j)):=by
 induction k with
 | zero=>show sum n f=sum n f+0; grind
 | succ k ih=>show sum (n+k) f+f (n+k)=_; rw [ih,qP]; grind
def q0T (n:Nat) (K C:Nat->Nat->Rat) (i j:Nat):Rat:=if i < n then (if j < n then K i j else C (j - n) i) else (if j < n then C (i - n) j else 0)
theorem KW {A:Nat->Nat->Rat} {P:Nat->Rat} (hP:∀ i,i < m->0 < P i):Reg n (nm m A P)↔(qH m A n).2.length=n:=by
 have hR:=zN m A n
 constructor
 ·intro hK
  have hle:(qH m A n).2.length<=n:=by
   rcases Nat.lt_or_ge n (qH m A n).2.length with h9 | h9
   ·have h8:=XQ hR.inc n h9;have h7:=hR.low n h9;omega
   ·exact h9
  rcases Nat.lt_or_ge (qH m A n).2.length n with h2 | h2
  ·obtain⟨c,hc,hg⟩:=KJ hR.inc h2;have h4:=Qi hR hc
   have h3:=hK (nul (qH m A n).1 (qH m A n).2 c) (fun a ha=>by
    rw [q04]
    exact qp fun k hk=>by
     have:av n A (nul (qH m A n).1 (qH m A n).2 c) k=0:=h4 k hk
     rw [this]; grind) c hc
   rw [Qh hg] at h3;exact absurd h3 (by decide)
  ·omega
 ·intro hl;have hb:=q4A hR hP;have hp:=KL hR.inc hR.low hl;rw [hl] at hb;intro x hx c hc;refine hb x (fun i hi=>?_) c hc;rw [<-hx i hi];refine qf fun d hd=>?_
  congr 1
  exact qf fun k _=>by unfold bas; rw [hp i hi,hp d hd]
def gq (n:Nat) (A Q:Nat->Nat->Rat) (i j:Nat):Rat:=sum n (fun s=>A i s*sum n (fun t=>Q s t*A j t))
theorem xR {A Q:Nat->Nat->Rat} {P:Nat->Rat} (hP:∀ i,i < m->0 < P i) (h1:∀ i,i < n->∀ c,c < n->mm n (nm m A P) Q i c=dlt i c) (h2:∀ i,i < n->∀ c,c < n->mm n Q (nm m A P) i c=dlt i c) :
  Model m n A (qH m A n).1 Q P (qH m A n).2/\(qH m A n).2.length=n/\∀ i j,gf A Q (qH m A n).2 i j=gq n A Q i j:=by
 have hR:=zN m A n
 have hK:Reg n (nm m A P):=by
  intro x hx c hc
  have e:sum n (fun i=>Q c i*sum n (fun d=>nm m A P i d*x d))=x c:=by
   rw [show sum n (fun i=>Q c i*sum n (fun d=>nm m A P i d*x d))=sum n (fun i=>sum n (fun d=>Q c i*nm m A P i d*x d)) from qf fun i _=>by rw [<-qI]; exact qf fun d _=>by grind,qN];rw [show sum n (fun d=>sum n (fun i=>Q c i*nm m A P i d*x d))=sum n (fun d=>dlt c d*x d) from qf fun d hd=>by rw [<-h2 c hc d hd]; unfold mm; rw [qA]];exact qR hc x
  rw [<-e];exact qp fun i hi=>by rw [hx i hi]; grind
 have hl:=(KW hP).1 hK;have hp:=KL hR.inc hR.low hl;have hb:∀ i,i < n->∀ j,j < n->nm m (bas A (qH m A n).2) P i j=nm m A P i j:=fun i hi j hj=>qf fun k _=>by unfold bas; rw [hp i hi,hp j hj]
 refine⟨⟨hR,hP,fun i hi c hc=>?_,fun i hi c hc=>?_⟩,hl,fun i j=>?_⟩
 ·rw [hl] at hi hc ⊢;rw [<-h1 i hi c hc];exact kE (fun k hk=>hb i hi k hk) (fun _ _=>rfl)
 ·rw [hl] at hi hc ⊢;rw [<-h2 i hi c hc];exact kE (fun _ _=>rfl) (fun k hk=>hb k hk c hc)
 ·unfold gf fits gq;rw [hl]
  exact qf fun s hs=>by
   unfold bas;rw [hp s hs]
   congr 1
   exact qf fun t ht=>by rw [hp t ht]
def rdn (n:Nat) (A Q:Nat->Nat->Rat) (P:Nat->Rat) (i:Nat):Rat:=1 - P i*gq n A Q i i
theorem q38 {m:Nat} {A Q:Nat->Nat->Rat} {P:Nat->Rat} {p:List Nat} (h:∀ i j,gf A Q p i j=gq n A Q i j) (i:Nat):rdn n A Q P i=1 - hd A Q P p i:=by
 unfold rdn hd;rw [h];have:m=m:=rfl
 grind
structure YY (m n:Nat) (A Q:Nat->Nat->Rat) (P:Nat->Rat):Prop where
 pos:∀ i,i < m->0 < P i
 kq:∀ i,i < n->∀ c,c < n->mm n (nm m A P) Q i c=dlt i c
 qk:∀ i,i < n->∀ c,c < n->mm n Q (nm m A P) i c=dlt i c
theorem YY.range {A Q:Nat->Nat->Rat} {P:Nat->Rat} (h:YY m n A Q P) (hi:i < m):0<=rdn n A Q P i/\rdn n A Q P i<=1:=by
 obtain⟨hM,-,hg⟩:=xR h.pos h.kq h.qk;have:=hM.diag hi;rw [q38 (m:=m) hg]
 constructor <;> grind
theorem YY.zero {A Q:Nat->Nat->Rat} {P:Nat->Rat} (h:YY (m+1) n A Q P) (hi:i < m+1):rdn n A Q P i=0↔¬ Reg n (nm m (fun j=>A (skip i j)) (fun j=>P (skip i j))):=by
 obtain⟨hM,hl,hg⟩:=xR h.pos h.kq h.qk;have hP':∀ j,j < m->0 < P (skip i j):=fun j hj=>h.pos _ (Qw hj)
 have hR:Z7 m n (fun j c=>A (skip i j) c) _ _:=zN m (fun j=>A (skip i j)) n;rw [KW hP',q38 (m:=m) hg]
 have hle:(qH m (fun j=>A (skip i j)) n).2.length<=n:=by
  rcases Nat.lt_or_ge n (qH m (fun j=>A (skip i j)) n).2.length with h9 | h9
  ·have h8:=XQ hR.inc n h9;have h7:=hR.low n h9;omega
  ·exact h9
 constructor
 ·intro e hx;have:=q00 hM hi hR (by grind);omega
 ·intro e;have:=q0B hM hi hR (by omega)
  grind
theorem q3F {u a b:Nat->Rat} (hu:∀ k,k < m->0<=u k) (hB:0 < sum m (fun k=>u k*(b k*b k))) :
  sum m (fun k=>u k*(a k*b k))*sum m (fun k=>u k*(a k*b k))<=sum m (fun k=>u k*(a k*a k))*sum m (fun k=>u k*(b k*b k)):=by
 obtain⟨B,hBe⟩:∃ B,B=sum m (fun k=>u k*(b k*b k)):=⟨_,rfl⟩
 obtain⟨C,hCe⟩:∃ C,C=sum m (fun k=>u k*(a k*b k)):=⟨_,rfl⟩
 have h1:0<=sum m (fun k=>u k*((B*a k - C*b k)*(B*a k - C*b k))):=xN fun k hk=>Rat.mul_nonneg (hu k hk) (jA _)
 have h2:sum m (fun k=>u k*((B*a k - C*b k)*(B*a k - C*b k)))=B*B*sum m (fun k=>u k*(a k*a k)) - 2*B*C*sum m (fun k=>u k*(a k*b k))+C*C*sum m (fun k=>u k*(b k*b k)):=by
  rw [<-qI,<-qI,<-qI,<-xA,<-vT];exact qf fun k _=>by grind
 rw [<-hBe,<-hCe] at h2 ⊢;rw [<-hBe] at hB;have h3:0<=B*(B*sum m (fun k=>u k*(a k*a k)) - C*C):=by rw [h2] at h1; grind
 rcases Rat.le_total (a:=C*C) (b:=sum m (fun k=>u k*(a k*a k))*B) with h | h
 ·exact h
 ·by_cases e:C*C=sum m (fun k=>u k*(a k*a k))*B
  ·rw [e]; exact Rat.le_refl
  ·have h4:0 < C*C - sum m (fun k=>u k*(a k*a k))*B:=by grind
   have h5:=Rat.mul_pos hB h4
   grind
theorem YY.cs {A Q:Nat->Nat->Rat} {P:Nat->Rat} (h:YY m n A Q P) (hi:i < m) (hk:k < m) (hne:i≠k) (hri:rdn n A Q P i≠0) :
  P k*(gq n A Q k i*gq n A Q k i)*P i<=rdn n A Q P i*rdn n A Q P k:=by
 obtain⟨hM,hl,hg⟩:=xR h.pos h.kq h.qk
 let e:Nat->Nat->Rat:=fun a j=>dlt a j - gq n A Q j a*P a
 have hsym:∀ a b,gq n A Q a b=gq n A Q b a:=fun a b=>by rw [<-hg,<-hg]; exact hM.symm a b
 have hidem:∀ a b,a < m->sum m (fun j=>gq n A Q a j*P j*gq n A Q j b)=gq n A Q a b:=fun a b ha=>by
  have:=hM.idem a b ha;simp only [hg] at this;exact this
 have key:∀ a b,a < m->b < m->sum m (fun j=>P j*(e a j*e b j))=P a*dlt a b - P a*P b*gq n A Q a b:=by
  intro a b ha hb
  have h1:sum m (fun j=>P j*(e a j*e b j))=sum m (fun j=>dlt a j*(P j*dlt b j)) - sum m (fun j=>dlt a j*(P j*gq n A Q j b*P b)) - sum m (fun j=>dlt b j*(P j*gq n A Q j a*P a))+P a*P b*sum m (fun j=>gq n A Q a j*P j*gq n A Q j b):=by
   rw [<-qI,<-xA,<-xA,<-vT]
   exact qf fun j _=>by
    show P j*((dlt a j - gq n A Q j a*P a)*(dlt b j - gq n A Q j b*P b))=_
    rw [hsym a j]; grind
  rw [h1,qR ha,qR ha,qR hb,hidem a b ha,hsym b a];have:dlt b a=dlt a b:=by unfold dlt; by_cases e:a=b <;> simp [e,eq_comm]
  rw [this]; grind
 have hpi:=h.pos i hi;have hpk:=h.pos k hk;have e1:=key i i hi hi;have e2:=key k k hk hk;have e3:=key k i hk hi;rw [kw] at e1 e2;rw [zZ (fun e=>hne e.symm)] at e3;have hr:=(h.range hi).1
 have hB:0 < sum m (fun j=>P j*(e i j*e i j)):=by
  rw [e1];have:P i*1 - P i*P i*gq n A Q i i=P i*rdn n A Q P i:=by unfold rdn; grind
  rw [this];exact Rat.mul_pos hpi (by grind)
 have hc:=q3F (u:=P) (a:=e k) (b:=e i) (m:=m) (fun j hj=>Rat.le_of_lt (h.pos j hj)) hB;rw [e1,e2,e3] at hc;have f1:(P k*1 - P k*P k*gq n A Q k k)*(P i*1 - P i*P i*gq n A Q i i)=P k*P i*(rdn n A Q P i*rdn n A Q P k):=by unfold rdn; grind
 have f2:(P k*0 - P k*P i*gq n A Q k i)*(P k*0 - P k*P i*gq n A Q k i)=P k*P i*(P k*(gq n A Q k i*gq n A Q k i)*P i):=by grind
 rw [f1,f2] at hc;have hpp:=Rat.mul_pos hpk hpi
 rcases Rat.le_total (a:=P k*(gq n A Q k i*gq n A Q k i)*P i) (b:=rdn n A Q P i*rdn n A Q P k) with h9 | h9
 ·exact h9
 ·by_cases e:P k*(gq n A Q k i*gq n A Q k i)*P i=rdn n A Q P i*rdn n A Q P k
  ·rw [e]; exact Rat.le_refl
  ·have h4:0 < P k*(gq n A Q k i*gq n A Q k i)*P i - rdn n A Q P i*rdn n A Q P k:=by grind
   have h5:=Rat.mul_pos hpp h4
   grind
theorem YY.reg {A Q:Nat->Nat->Rat} {P:Nat->Rat} (h:YY m n A Q P):Reg n (nm m A P):=(KW h.pos).2 (xR h.pos h.kq h.qk).2.1
theorem YY.fix {A Q:Nat->Nat->Rat} {P:Nat->Rat} (h:YY m n A Q P) (x:Nat->Rat) (hi:i < m):sum m (fun j=>gq n A Q i j*P j*av n A x j)=av n A x i:=by
 obtain⟨hM,hl,hg⟩:=xR h.pos h.kq h.qk;rw [<-hM.fix x i hi];exact qf fun j _=>by rw [<-hg]
def ext (n:Nat) (A Q:Nat->Nat->Rat) (P:Nat->Rat) (i j:Nat):Rat:=P i*sum n (fun t=>Q j t*A i t)
theorem YY.ext_nm {A Q:Nat->Nat->Rat} {P:Nat->Rat} (h:YY m n A Q P) {a:Nat} (ha:a < n):sum n (fun b=>nm m A P a b*ext n A Q P i b)=P i*A i a:=by
 unfold ext
 have e:sum n (fun b=>nm m A P a b*(P i*sum n (fun t=>Q b t*A i t)))=P i*sum n (fun t=>mm n (nm m A P) Q a t*A i t):=by
  rw [show sum n (fun b=>nm m A P a b*(P i*sum n (fun t=>Q b t*A i t)))=sum n (fun b=>sum n (fun t=>P i*(nm m A P a b*Q b t*A i t))) from qf fun b _=>by
   rw [show nm m A P a b*(P i*sum n (fun t=>Q b t*A i t))=(P i*nm m A P a b)*sum n (fun t=>Q b t*A i t) from by grind,<-qI]
   exact qf fun t _=>by grind,qN]
  rw [<-qI];exact qf fun t _=>by unfold mm; rw [qI,<-qA]
 rw [e,show sum n (fun t=>mm n (nm m A P) Q a t*A i t)=sum n (fun t=>dlt a t*A i t) from qf fun t ht=>by rw [h.kq a ha t ht],qR ha]
theorem YY.form {A Q:Nat->Nat->Rat} {P:Nat->Rat} (h:YY m n A Q P):sum n (fun j=>ext n A Q P i j*sum n (fun t=>nm m A P j t*ext n A Q P i t))=P i*(1 - rdn n A Q P i):=by
 rw [show sum n (fun j=>ext n A Q P i j*sum n (fun t=>nm m A P j t*ext n A Q P i t))=sum n (fun j=>P i*P i*(A i j*sum n (fun t=>Q j t*A i t))) from qf fun j hj=>by rw [h.ext_nm hj]; unfold ext; grind,qI];unfold rdn gq
 grind
end Go.Proofs.YtfmddpahhloleaaGreat
namespace Go.Proofs.YtfmddpahhloleaaGreat
open Go.RowKit
variable {w:World} {N n lo hi k g i m c j K:Nat} {v s:Value} {q:Rat} {A:Option Addr}
def Q7 (m n:Nat) (X:Nat->Nat->Rat) (y p:Nat->Rat):Lin:=⟨m,fun _=>n,fun i j=>raw (X i j),m,fun i=>raw (y i),m,fun i=>raw (p i)⟩
theorem q41 (h:0 < q):0 < q.num:=by
 rcases Int.lt_trichotomy q.num 0 with h1 | h1 | h1
 ·exact absurd h (by rw [Rat.lt_iff]; simp; omega)
 ·rw [Rat.num_eq_zero.1 h1] at h; exact absurd h (Rat.lt_irrefl)
 ·exact h1
theorem xU {X:Nat->Nat->Rat} {y p:Nat->Rat} (hm0:0 < m) (hm:m<=64) (hn0:0 < n) (hn:n<=24) (hp:∀ i,i < m->0 < p i):codeOf (Q7 m n X y p)=0:=by
 have h1:jK (Q7 m n X y p)=true:=by
  unfold jK q0R Q7;simp only [Bool.and_eq_true];exact⟨qg.2 (fun i _=>qg.2 (fun j _=>kN _)),qg.2 (fun i _=>kN _),qg.2 (fun i _=>kN _)⟩
 have h2:zW (Q7 m n X y p)=true:=by
  unfold zW Q7;simp only [Bool.and_eq_true,decide_eq_true_eq]; omega
 have h3:vJ (Q7 m n X y p)=true:=by
  unfold vJ JV Q7;simp only [Bool.and_eq_true,decide_eq_true_eq];exact⟨qg.2 (fun i _=>by simp),trivial,trivial⟩
 have h4:allB m (fun i=>QF (raw (p i)))=true:=qg.2 (fun i hi=>by
  rw [jR,decide_eq_true_eq]; exact q41 (hp i hi))
 unfold codeOf;rw [if_neg (by rw [h1]; simp),if_neg (by rw [h2]; simp),if_neg (by rw [h3]; simp)]
 show (if allB m (fun i=>QF (raw (p i)))=false then (2:Int) else 0)=0
 rw [if_neg (by rw [h4]; simp)]
theorem QN {lo2 hi2 lo3 hi3:Nat} {v1 v2 v3:Value} {X:Nat->Nat->Rat} {y p:Nat->Rat} (h1:MtV N lo hi w v1 m n X) (h2:LsV N lo2 hi2 w v2 m y) (h3:LsV N lo3 hi3 w v3 m p) :
  q1p N 0 w.heap.size w (.agg #[v1,v2,v3]) (Q7 m n X y p) :=
 ⟨v1,v2,v3,rfl,MtR.wide h1 (Nat.zero_le _) h1.2.1 (q_r),LsR.wide h2 (Nat.zero_le _) h2.2.1 (q_r),LsR.wide h3 (Nat.zero_le _) h3.2.1 (q_r)⟩
theorem yT {X:Nat->Nat->Rat} {y p:Nat->Rat} (hkx:HtM m n k X) (hky:HtL m k y) (hkp:HtL m k p) (hk:k<=29000000000):q1h (Q7 m n X y p) :=
 ⟨fun i hi j hj=>((hkx i hi j hj).sz hk).raw,fun i hi=>((hky i hi).sz hk).raw,fun i hi=>((hkp i hi).sz hk).raw⟩
theorem Kw (hN:N<=w.heap.size) (m n:Nat) {M' N':Int} (hM':M'=(m:Int)) (hN':N'=(n:Int)) (hm:m < 1000000) (hn:n < 1000000) (X:Nat->Nat->Rat) {gb:Nat}
  (hf:∀ i,i < m->∀ j,j < n->∀ w',Ext w w'->Calls Tryz.prog 190 #[.int .i64 (i:Int),.int .i64 (j:Int),.pointer (some ⟨gb,0,none⟩)] w' (jm N w' (X i j))) :
  Calls Tryz.prog 136 #[.int .i64 M',.int .i64 N',.func (.func 190) #[] #[.pointer (some ⟨gb,0,none⟩)]] w (kU N w m n X):=by
 subst hM' hN';have HF:=q_h hf;clear hf;go_enter Tryz.func136,Tryz.ntmps136;go_wp2_with (at_make; refine q_o ?_);refine qV rfl _ _ rfl .i64 .i64 _ _ m rfl rfl rfl rfl hm ?_;intro w1 cs B0 hcs e1;have ho:zu N w.heap.size w1.heap.size w1 w.heap.size m 0 n (fun _=>0) (fun _=>0) X:=zu.start hN (q_r) B0 hcs X (qG B0) (q_r);have hs1:w.heap.size < w1.heap.size:=qG B0;clear B0;have HCS:=q_h hcs;clear hcs;go_wp2
 go_loopw [14] (fun i wr=>∃ k:Nat,k<=m/\i=.int .i64 k/\Ext w wr/\∃ β κ,zu N w.heap.size wr.heap.size wr w.heap.size m k n β κ X) (fun i _=>m - (intOf i).toNat)
 case atStart=>exact⟨0,Nat.zero_le _,rfl,e1,_,_,ho⟩
 case round =>
  clear ho e1;obtain⟨k,hk,rfl,hE,β,κ,ho⟩:=hrel;have hsr:w.heap.size < wr.heap.size:=by have:=ho.hhi; omega
  by_cases hlt:k < m
  ·go_wp2_with (at_make; refine q_o ?_);refine qK rfl _ _ rfl .i64 .i64 _ _ n rfl rfl rfl rfl hn ?_;intro w2 cs2 B2 hcs2 e2;have ho2:=ho.ext e2;have hR:zC N w2 wr.heap.size n 0 (X k):=⟨by omega,Nat.zero_le _,⟨cs2,B2,hcs2⟩,fun j hj=>by omega⟩
   obtain⟨u0,z0⟩:=ho2.hthere hlt;have z1:=ho2.hfrozen k;have hs2:wr.heap.size < w2.heap.size:=qG B2;have HCS2:=q_h hcs2;clear B2 hcs2 ho;go_upto_region 6 with (fail);obtain⟨w3,E3,C3,hs3,y0,ho3⟩:=ho2.setHead (Nat.le_refl k) hlt (.slice (some ⟨wr.heap.size,0,none⟩) n n);rw [E3];replace hE:=C3.ext (hE.trans e2) (q_r);replace hR:=hR.chg C3 (by omega) (by omega);have hs4:wr.heap.size < w3.heap.size:=by omega
   generalize hgr:wr.heap.size=gr at *
   clear hgr E3 C3 hs3 ho2 z0 z1 e2 hs2;have Y0:=y0;go_wp2
   go_loopw [27] (fun i ws=>∃ j:Nat,j<=n/\i=.int .i64 j/\Ext w ws/\gr < ws.heap.size/\ws.cell? ⟨w.heap.size,k,none⟩=some (.slice (some ⟨gr,0,none⟩) n n)/\zu N w.heap.size gr ws w.heap.size m k n β κ X/\zC N ws gr n j (X k)) (fun i _=>n - (intOf i).toNat)
   case atStart=>exact⟨0,Nat.zero_le _,rfl,hE,hs4,y0,ho3,hR⟩
   case round =>
    clear hE y0 ho3 hR hs4 Y0;obtain⟨j,hj,rfl,hE,hs4,y0,ho3,hR⟩:=hrel
    by_cases hlt':j < n
    ·go_upto_region 9 with (fail);have eC:=(Ext.refl wr).drew;refine qm (fun w'=>w'.cell? ⟨w.heap.size,k,none⟩=some (.slice (some ⟨gr,0,none⟩) n n)) [10] (by kernel_rfl) (by exact eC.cell y0) (fun hHeld=>?_);refine sP 0 (h:=?_);try simp only [nr]
     refine sP 1 (h:=?_);try simp only [nr]
     refine sP 2 (h:=?_);try simp only [nr]
     refine sT 3 (h:=?_);try simp only [nr]
     refine sP 4 (h:=?_);try simp only [nr]
     refine sP 5 (h:=?_);try simp only [nr]
     refine sP 6 (h:=?_);try simp only [nr]
     refine sP 7 (h:=?_);try simp only [nr]
     refine qj (i:=8) rfl (by kernel_rfl) (fun K hK=>?_);go_simp;refine (HF.out k hlt j hlt' _ (hE.trans eC)).mono ?_;intro e w5 hh;obtain⟨b9,A9,k9,c9,A10,k10,c10,rfl,hb9,g9,g10,e5⟩:=hh.form;replace eC:=eC.trans e5;have hR5:=hR.ext eC;obtain⟨x0,v0⟩:=hR5.there (o:=j*4) (by omega);obtain⟨x1,v1⟩:=hR5.there (o:=j*4+1) (by omega);obtain⟨x2,v2⟩:=hR5.there (o:=j*4+2) (by omega);obtain⟨x3,v3⟩:=hR5.there (o:=j*4+3) (by omega);have f0:=hR5.frozen (j*4);have f1:=hR5.frozen (j*4+1);have f2:=hR5.frozen (j*4+2);have f3:=hR5.frozen (j*4+3);go_wp2_with fail;clear hHeld;refine hK.out _ _ (by exact eC.cell y0) fun hHeld=>?_
     clear hK K;try simp only [nr]
     refine sP 9 (h:=?_);try simp only [nr]
     refine ql (i:=10) rfl (by kernel_rfl) (by kernel_rfl) (fun K hK=>?_);go_simp;refine hK.out _ _ ?_;clear hK K;try simp only [nr]
     refine qh (by kernel_rfl) ?_ _;clear hHeld;obtain⟨w6,E6,C6,hs6,hr6⟩:=hR5.set (i:=j) (q:=X k j) hlt' (q_r) hb9 g9 g10;rw [E6];replace hE:=C6.ext (hE.trans eC) (by omega);replace ho3:=(ho3.ext eC).chg C6 (by omega) (.inl (q_r));replace y0:=C6.cell (p:=⟨w.heap.size,k,none⟩) (eC.cell y0) (.inl (by simp only; omega));have hr7:=(hr6.less (n':=j+1) (by omega)).congr (y:=X k) (fun c hc=>by unfold upd; split; (rename_i e; rw [e]); rfl);have hs7:gr < w6.heap.size:=by have:=eC.size; omega
     clear E6 C6 hs6 hr6 hR hR5 v0 v1 v2 v3 f0 f1 f2 f3;go_wp2;go_roundw
     case rel=>exact⟨j+1,by omega,by go_num,hE,hs7,y0,ho3,hr7⟩
     case measure=>simp [intOf]; omega
    ·obtain rfl:j=n:=by omega
     have ho4:=(ho3.more hlt y0 hR (q_r) (by unfold maxLen; omega)).congr (B:=X) (fun i _ c _=>by unfold xK; split; (rename_i e; rw [e]); rfl);go_wp2;go_roundw
     case rel=>exact⟨k+1,by omega,by go_num,hE,_,_,ho4⟩
     case measure=>simp [intOf]; omega
  ·obtain rfl:k=m:=by omega
   go_wp2;go_ret;exact⟨_,_,β,κ,rfl,by unfold maxLen; omega,ho,hE⟩
theorem Kz (hN:N<=w.heap.size) (m n:Nat) {M' N':Int} (hM':M'=(m:Int)) (hN':N'=(n:Int)) (hm:m < 1000000) (hn:n < 1000000) (X:Nat->Nat->Rat) {gb:Nat}
  (hf:∀ i,i < m->∀ j,j < n->∀ w',Ext w w'->Calls Tryz.prog 222 #[.int .i64 (i:Int),.int .i64 (j:Int),.pointer (some ⟨gb,0,none⟩)] w' (jm N w' (X i j))) :
  Calls Tryz.prog 136 #[.int .i64 M',.int .i64 N',.func (.func 222) #[] #[.pointer (some ⟨gb,0,none⟩)]] w (kU N w m n X):=by
 subst hM' hN';have HF:=q_h hf;clear hf;go_enter Tryz.func136,Tryz.ntmps136;go_wp2_with (at_make; refine q_o ?_);refine qV rfl _ _ rfl .i64 .i64 _ _ m rfl rfl rfl rfl hm ?_;intro w1 cs B0 hcs e1;have ho:zu N w.heap.size w1.heap.size w1 w.heap.size m 0 n (fun _=>0) (fun _=>0) X:=zu.start hN (q_r) B0 hcs X (qG B0) (q_r);have hs1:w.heap.size < w1.heap.size:=qG B0;clear B0;have HCS:=q_h hcs;clear hcs;go_wp2
 go_loopw [14] (fun i wr=>∃ k:Nat,k<=m/\i=.int .i64 k/\Ext w wr/\∃ β κ,zu N w.heap.size wr.heap.size wr w.heap.size m k n β κ X) (fun i _=>m - (intOf i).toNat)
 case atStart=>exact⟨0,Nat.zero_le _,rfl,e1,_,_,ho⟩
 case round =>
  clear ho e1;obtain⟨k,hk,rfl,hE,β,κ,ho⟩:=hrel;have hsr:w.heap.size < wr.heap.size:=by have:=ho.hhi; omega
  by_cases hlt:k < m
  ·go_wp2_with (at_make; refine q_o ?_);refine qK rfl _ _ rfl .i64 .i64 _ _ n rfl rfl rfl rfl hn ?_;intro w2 cs2 B2 hcs2 e2;have ho2:=ho.ext e2;have hR:zC N w2 wr.heap.size n 0 (X k):=⟨by omega,Nat.zero_le _,⟨cs2,B2,hcs2⟩,fun j hj=>by omega⟩
   obtain⟨u0,z0⟩:=ho2.hthere hlt;have z1:=ho2.hfrozen k;have hs2:wr.heap.size < w2.heap.size:=qG B2;have HCS2:=q_h hcs2;clear B2 hcs2 ho;go_upto_region 6 with (fail);obtain⟨w3,E3,C3,hs3,y0,ho3⟩:=ho2.setHead (Nat.le_refl k) hlt (.slice (some ⟨wr.heap.size,0,none⟩) n n);rw [E3];replace hE:=C3.ext (hE.trans e2) (q_r);replace hR:=hR.chg C3 (by omega) (by omega);have hs4:wr.heap.size < w3.heap.size:=by omega
   generalize hgr:wr.heap.size=gr at *
   clear hgr E3 C3 hs3 ho2 z0 z1 e2 hs2;have Y0:=y0;go_wp2
   go_loopw [27] (fun i ws=>∃ j:Nat,j<=n/\i=.int .i64 j/\Ext w ws/\gr < ws.heap.size/\ws.cell? ⟨w.heap.size,k,none⟩=some (.slice (some ⟨gr,0,none⟩) n n)/\zu N w.heap.size gr ws w.heap.size m k n β κ X/\zC N ws gr n j (X k)) (fun i _=>n - (intOf i).toNat)
   case atStart=>exact⟨0,Nat.zero_le _,rfl,hE,hs4,y0,ho3,hR⟩
   case round =>
    clear hE y0 ho3 hR hs4 Y0;obtain⟨j,hj,rfl,hE,hs4,y0,ho3,hR⟩:=hrel
    by_cases hlt':j < n
    ·go_upto_region 9 with (fail);have eC:=(Ext.refl wr).drew;refine qm (fun w'=>w'.cell? ⟨w.heap.size,k,none⟩=some (.slice (some ⟨gr,0,none⟩) n n)) [10] (by kernel_rfl) (by exact eC.cell y0) (fun hHeld=>?_);refine sP 0 (h:=?_);try simp only [nr]
     refine sP 1 (h:=?_);try simp only [nr]
     refine sP 2 (h:=?_);try simp only [nr]
     refine sT 3 (h:=?_);try simp only [nr]
     refine sP 4 (h:=?_);try simp only [nr]
     refine sP 5 (h:=?_);try simp only [nr]
     refine sP 6 (h:=?_);try simp only [nr]
     refine sP 7 (h:=?_);try simp only [nr]
     refine qj (i:=8) rfl (by kernel_rfl) (fun K hK=>?_);go_simp;refine (HF.out k hlt j hlt' _ (hE.trans eC)).mono ?_;intro e w5 hh;obtain⟨b9,A9,k9,c9,A10,k10,c10,rfl,hb9,g9,g10,e5⟩:=hh.form;replace eC:=eC.trans e5;have hR5:=hR.ext eC;obtain⟨x0,v0⟩:=hR5.there (o:=j*4) (by omega);obtain⟨x1,v1⟩:=hR5.there (o:=j*4+1) (by omega);obtain⟨x2,v2⟩:=hR5.there (o:=j*4+2) (by omega);obtain⟨x3,v3⟩:=hR5.there (o:=j*4+3) (by omega);have f0:=hR5.frozen (j*4);have f1:=hR5.frozen (j*4+1);have f2:=hR5.frozen (j*4+2);have f3:=hR5.frozen (j*4+3);go_wp2_with fail;clear hHeld;refine hK.out _ _ (by exact eC.cell y0) fun hHeld=>?_
     clear hK K;try simp only [nr]
     refine sP 9 (h:=?_);try simp only [nr]
     refine ql (i:=10) rfl (by kernel_rfl) (by kernel_rfl) (fun K hK=>?_);go_simp;refine hK.out _ _ ?_;clear hK K;try simp only [nr]
     refine qh (by kernel_rfl) ?_ _;clear hHeld;obtain⟨w6,E6,C6,hs6,hr6⟩:=hR5.set (i:=j) (q:=X k j) hlt' (q_r) hb9 g9 g10;rw [E6];replace hE:=C6.ext (hE.trans eC) (by omega);replace ho3:=(ho3.ext eC).chg C6 (by omega) (.inl (q_r));replace y0:=C6.cell (p:=⟨w.heap.size,k,none⟩) (eC.cell y0) (.inl (by simp only; omega));have hr7:=(hr6.less (n':=j+1) (by omega)).congr (y:=X k) (fun c hc=>by unfold upd; split; (rename_i e; rw [e]); rfl);have hs7:gr < w6.heap.size:=by have:=eC.size; omega
     clear E6 C6 hs6 hr6 hR hR5 v0 v1 v2 v3 f0 f1 f2 f3;go_wp2;go_roundw
     case rel=>exact⟨j+1,by omega,by go_num,hE,hs7,y0,ho3,hr7⟩
     case measure=>simp [intOf]; omega
    ·obtain rfl:j=n:=by omega
     have ho4:=(ho3.more hlt y0 hR (q_r) (by unfold maxLen; omega)).congr (B:=X) (fun i _ c _=>by unfold xK; split; (rename_i e; rw [e]); rfl);go_wp2;go_roundw
     case rel=>exact⟨k+1,by omega,by go_num,hE,_,_,ho4⟩
     case measure=>simp [intOf]; omega
  ·obtain rfl:k=m:=by omega
   go_wp2;go_ret;exact⟨_,_,β,κ,rfl,by unfold maxLen; omega,ho,hE⟩
theorem q0e {gb:Nat} {X:Nat->Nat->Rat} (hb:w.cell? ⟨gb,0,none⟩=some (.slice A m c)) (h:MtV N lo hi w (.slice A m c) m n X) (hi':i < n) (hj:j < m) (hm:m < 1000000) (hn:n < 1000000) :
  Calls Tryz.prog 190 #[.int .i64 (i:Int),.int .i64 (j:Int),.pointer (some ⟨gb,0,none⟩)] w (jm N w (X j i)):=by
 have hN:=h.le;obtain⟨b,off,rfl,-,-,hx⟩:=h.addr (by omega);obtain⟨A1,c1,p0,-,-,hl⟩:=hx j hj;obtain⟨b2,off2,rfl,-,-,hx⟩:=hl.addr (by omega);obtain⟨n1,A3,k3,c3,A4,k4,c4,q0,q1,q2,q3,hb1,g1,g2⟩:=(hx i hi').open;have l0:=cell_lt hb;have l1:=cell_lt p0;have l2:=cell_lt q0;simp only at l0 l1 l2;obtain⟨q,hq⟩:=qc (X j i);rw [<-hq.out] at hb1 g1 g2 ⊢;clear hx hl h;go_enter Tryz.func190,Tryz.ntmps190;go_wp2;have eA:=(Ext.refl w).alloc (Obj.cells #[Value.bool n1,Value.slice A3 k3 c3,Value.bool false,Value.slice A4 k4 c4] 58);exact Ql rfl rfl rfl eA (kW.mk (heap_alloc_new w _) hb1 (g1.ext eA) (g2.ext eA))
theorem Yv {X:Nat->Nat->Rat} (h:MtV N lo hi w v m n X) (hm0:0 < m) (hm:m < 1000000) (hn:n < 1000000) :
  Calls Tryz.prog 141 #[v] w (kU N w n m (fun i j=>X j i)):=by
 have hN:=h.le;obtain⟨A,c,rfl,hmc,hcm⟩:=h.form;have hI:=h;obtain⟨Z,hZ⟩:=qc (fun i j=>X j i);have HZ:Hid (∀ i j,X j i=Z i j):=fun i j=>by rw [hZ.out]
 rw [<-hZ.out];obtain⟨b,off,rfl,-,-,hx⟩:=h.addr hm0;obtain⟨A1,c1,p0,hnc,hcm1,-⟩:=hx 0 hm0;rw [Nat.add_zero] at p0;have l0:=cell_lt p0;simp only at l0;clear h hx;go_enter Tryz.func141,Tryz.ntmps141;go_upto_region 1 with (fail);refine qo ?_;intro W hE hsz B0;obtain⟨a0,-⟩:=qW B0;replace p0:=hE.cell p0;have eC:=(Ext.refl W).drew;refine qm (fun w'=>w'.cell? ⟨w.heap.size,0,none⟩=some (.slice (some ⟨b,off,none⟩) m c)/\w'.cell? ⟨b,off,none⟩=some (.slice A1 n c1)) [] (by kernel_rfl) (by exact⟨eC.cell a0,eC.cell p0⟩) (fun hHeld=>?_);refine sT 0 (h:=?_);try simp only [nr]
 refine sP 1 (h:=?_);try simp only [nr]
 refine sT 2 (h:=?_);try simp only [nr]
 refine sP 3 (h:=?_);try simp only [nr]
 refine sT 4 (h:=?_);try simp only [nr]
 refine sP 5 (h:=?_);try simp only [nr]
 refine sP 6 (h:=?_);try simp only [nr]
 refine qj (i:=7) rfl (by kernel_rfl) (fun K hK=>?_);go_simp;refine (Kw (N:=N) (by have:=hE.size; show N<=W.heap.size; omega) n m rfl rfl hn hm Z (fun i hi' j hj w' e=>by rw [<-HZ.out i j]; exact q0e ((eC.trans e).cell a0) (hI.ext (hE.trans (eC.trans e))) hi' hj hm hn)).mono ?_;rintro e w2 ⟨h2,cap2,β2,κ2,rfl,hcap2,ho2,e2⟩;replace eC:=eC.trans e2;go_wp2_with fail;clear hHeld;refine hK.out _ _ (by exact⟨eC.cell a0,eC.cell p0⟩) fun hHeld=>?_
 clear hK K;try simp only [nr]
 refine sP 8 (h:=?_);try simp only [nr]
 refine qh (by kernel_rfl) ?_ _;clear hHeld;go_wp2;go_ret;exact⟨h2,cap2,β2,κ2,rfl,hcap2,ho2.wide (by have:=hE.size; show w.heap.size<=W.heap.size; omega) hN (q_r) (q_r),hE.trans eC⟩
def QZ (N:Nat) (w:World) (m n:Nat) (A:Nat->Nat->Rat) (e:Ending) (w':World):Prop:=∃ h cap β κ,e=.returned (.tuple #[.slice (some ⟨h,0,none⟩) m cap,.int .i64 0])/\cap<=maxLen/\zu N w.heap.size w'.heap.size w' h cap m n β κ A/\Ext w w'
theorem JD {X:Nat->Nat->Rat} (h:MtV N lo hi w v m n X) (hm0:0 < m) (hm:m<=64) (hn0:0 < n) (hn:n<=64) (hs:∀ i,i < m->∀ j,j < n->Sz (X i j)) :
  Calls Tryz.prog 101 #[v] w (QZ N w n m (fun i j=>X j i)):=by
 obtain⟨A,c,rfl,hmc,hcm⟩:=h.form;have hI:=h;have HS:=q_h hs;obtain⟨Z,hZ⟩:=qc (fun i j=>X j i);rw [<-hZ.out];clear h hs hcm;go_enter Tryz.func101,Tryz.ntmps101;go_wp2_with (go_at_call 166; refine q_o ?_);refine (yA hI hm0 hm hn0 hn HS.out).mono ?_;rintro e w1 ⟨rfl,hE⟩;go_wp2_with (go_at_call 141; refine q_o ?_);refine (Yv (hI.ext hE) hm0 (by omega) (by omega)).mono ?_;rw [<-hZ.out];rintro e w2 ⟨h2,cap2,β2,κ2,rfl,hcap2,ho2,e2⟩;have hs1:=hE.size;have hN:=hI.le;go_wp2;go_ret2;exact⟨h2,cap2,β2,κ2,rfl,hcap2,ho2.wide hs1 hN (q_r) (q_r),hE.trans e2⟩
theorem q0h {gb:Nat} {x:Nat->Rat} (hb:w.cell? ⟨gb,0,none⟩=some (.slice A n c)) (h:LsV N lo hi w (.slice A n c) n x) (hi':i < n) (hj:j < 1000000) (hn:n < 1000000) :
  Calls Tryz.prog 222 #[.int .i64 (i:Int),.int .i64 (j:Int),.pointer (some ⟨gb,0,none⟩)] w (jm N w (x i)):=by
 have hN:=h.le;obtain⟨b2,off2,rfl,-,-,hx⟩:=h.addr (by omega);obtain⟨n1,A3,k3,c3,A4,k4,c4,q0,q1,q2,q3,hb1,g1,g2⟩:=(hx i hi').open;have l0:=cell_lt hb;have l2:=cell_lt q0;simp only at l0 l2;obtain⟨q,hq⟩:=qc (x i);rw [<-hq.out] at hb1 g1 g2 ⊢;clear hx h;go_enter Tryz.func222,Tryz.ntmps222;go_wp2;have eA:=(Ext.refl w).alloc (Obj.cells #[Value.bool n1,Value.slice A3 k3 c3,Value.bool false,Value.slice A4 k4 c4] 58);exact Ql rfl rfl rfl eA (kW.mk (heap_alloc_new w _) hb1 (g1.ext eA) (g2.ext eA))
theorem q27 {x:Nat->Rat} (h:LsV N lo hi w v n x) (hn:n < 1000000) :
  Calls Tryz.prog 186 #[v] w (kU N w n 1 (fun i _=>x i)):=by
 have hN:=h.le;obtain⟨A,c,rfl,hmc,hcm⟩:=h.form;have hI:=h;clear h;go_enter Tryz.func186,Tryz.ntmps186;go_wp2_with (go_at_call 136; refine q_o ?_);refine qJ ?_;intro W hE hsz B0;obtain⟨a0,-⟩:=qW B0;refine (Kz (N:=N) (by have:=hE.size; omega) n 1 rfl rfl hn (by omega) (fun i _=>x i) (fun i hi' j hj w' e=>q0h (e.cell a0) (hI.ext (hE.trans e)) hi' (by omega) hn)).mono ?_;rintro e w2 ⟨h2,cap2,β2,κ2,rfl,hcap2,ho2,e2⟩;have hs1:=hE.size;go_wp2;go_ret;exact⟨h2,cap2,β2,κ2,rfl,hcap2,ho2.wide hs1 hN (q_r) (q_r),hE.trans e2⟩
theorem q21 {gb:Nat} (hb:w.cell? ⟨gb,0,none⟩=some (.slice A m c)) (hc:c<=maxLen) (hm:m<=c) :
  Calls Tryz.prog 185 #[.pointer (some ⟨gb,0,none⟩)] w (zL w (.int .i64 (m:Int))):=by
 unfold maxLen at hc;go_enter Tryz.func185,Tryz.ntmps185;go_wp2;go_ret;exact⟨rfl,Ext.refl w⟩
theorem q4c {lo' hi':Nat} {u:Value} {gb:Nat} {X:Nat->Nat->Rat} {x:Nat->Rat} (hb:w.cell? ⟨gb,0,none⟩=some (.slice A m c)) (h:MtV N lo hi w (.slice A m c) m n X) (h':LsV N lo' hi' w u m x) (hm0:0 < m) (hm:m<=64) (hn0:0 < n) (hn:n<=64) (hs:∀ i,i < m->∀ j,j < n->Sz (X i j)) (hs':∀ i,i < m->Sz (x i)) :
  Calls Tryz.prog 175 #[.slice A m c,u,.func (.func 185) #[] #[.pointer (some ⟨gb,0,none⟩)]] w (zL w (.int .i64 0)):=by
 obtain⟨A1,c1,rfl,hn1,hm1⟩:=h'.form;obtain⟨_,_,hv,hmc,hcm⟩:=h.form;injection hv with e1 e2 e3
 subst e1 e3;clear e2;have HMC:=q_h hmc;have HCM:=q_h hcm;clear hmc hcm;unfold maxLen at hm1;have hI:=h;have hI':=h';have HS:=q_h hs;have HS':=q_h hs';have t1:((m:Int) != (m:Int))=false:=by simp
 clear h h' hs hs';go_enter Tryz.func175,Tryz.ntmps175;go_wp2_with (go_at_call 166; refine q_o ?_);refine (yA hI hm0 hm hn0 hn HS.out).mono ?_;rintro e w1 ⟨rfl,e1⟩;go_wp2_with (go_at_call 209; refine q_o ?_);refine (jF (hI'.ext e1) HS'.out).mono ?_;rintro e w2 ⟨rfl,e2⟩;go_wp2_with (go_at_call 185; refine q_o ?_);refine (q21 ((e1.trans e2).cell hb) HCM.out HMC.out).mono ?_;rintro e w3 ⟨rfl,e3⟩;go_wp2;go_ret;exact⟨rfl,(e1.trans e2).trans e3⟩
theorem Wl (m n:Nat) (Y:Nat->Nat->Rat) :
  ((∃ i,(qH m Y n).2.length<=i/\i < m/\(qH m Y n).1 i n≠0)->(qH m Y (n+1)).2.contains n=true) /\
  ((∀ i,(qH m Y n).2.length<=i->i < m->(qH m Y n).1 i n=0)->qH m Y (n+1)=qH m Y n/\(qH m Y (n+1)).2.contains n=false):=by
 have hl:=(zN m Y n).len
 constructor
 ·rintro⟨i,h1,h2,h3⟩;obtain⟨s1,s2,s3,s4⟩:=jB (qH m Y n).1 m n (m - (qH m Y n).2.length) (qH m Y n).2.length (q_r) hl
  have ha:Zf (qH m Y n).1 m n (m - (qH m Y n).2.length) (qH m Y n).2.length < m:=by
   rcases Nat.lt_or_ge (Zf (qH m Y n).1 m n (m - (qH m Y n).2.length) (qH m Y n).2.length) m with h | h
   ·exact h
   ·exact absurd (s3 i h1 (by omega)) h3
  rw [Xp ha rfl]
  simp
 ·intro h;have e:=Xq (X:=Y) (Xi hl h);refine⟨e,?_⟩;rw [e];cases hc:(qH m Y n).2.contains n with
  | false=>rfl
  | true =>
   rw [List.contains_iff_mem] at hc;obtain⟨s,hs,he⟩:=List.getElem_of_mem hc;have:=(zN m Y n).low s hs;rw [List.getElem?_eq_getElem hs] at this;simp only [Option.getD_some] at this;omega
def yC (N:Nat) (w:World) (n:Nat) (ok:Bool) (x:Nat->Rat) (e:Ending) (w':World):Prop :=
 Ext w w'/\((ok=false/\e=.returned (.tuple #[.slice none 0 0,.int .i64 6]))\/(ok=true/\∃ A c,e=.returned (.tuple #[.slice A n c,.int .i64 0])/\LsV N w.heap.size w'.heap.size w' (.slice A n c) n x))
def Mn.own (N lo m n:Nat) (X:Nat->Nat->Rat):Mn:=⟨fun v w=>∃ h cap β κ hi,v=.slice (some ⟨h,0,none⟩) m cap/\cap<=maxLen/\zu N lo hi w h cap m n β κ X,fun e h=>by
  obtain⟨h,cap,β,κ,hi,h0,h1,h2⟩:=h
  exact⟨h,cap,β,κ,hi,h0,h1,h2.ext e⟩⟩
theorem q3n {q:Nat} {X:Nat->Nat->Rat} {y:Nat->Rat} (hq:HtM m n q X) (hq':HtL m q y):HtM m (n+1) q (aug n X y):=fun i hi c hc=>by
 unfold aug; split
 ·exact hq i hi c (by assumption)
 ·exact hq' i hi
theorem q4b {lo' hi':Nat} {v':Value} {X:Nat->Nat->Rat} {y:Nat->Rat} (h:MtV N lo hi w v m n X) (h':LsV N lo' hi' w v' m y) (hm0:0 < m) (hm:m<=64) (hn0:0 < n) (hn:n<=64)
  {q P:Nat} (hq:HtM m n q X) (hq':HtL m q y) (hP:m<=P\/n<=P) (hK:5*(5 ^ P*q)<=29000000000) :
  Calls Tryz.prog 129 #[v,v'] w (yC N w n (!(qH m (aug n X y) (n+1)).2.contains n) (sol n (qH m (aug n X y) (n+1)).1 (qH m (aug n X y) (n+1)).2)):=by
 have hI:=h;have hI':=h';have hN:=h.le;have hqq:q<=5 ^ P*q:=Nat.le_mul_of_pos_left _ (Nat.pow_pos (by omega));have HSX:Hid (∀ i,i < m->∀ j,j < n->Sz (X i j)):=fun i hi j hj=>(hq i hi j hj).sz (by omega)
 have HSY:Hid (∀ i,i < m->Sz (y i)):=fun i hi=>(hq' i hi).sz (by omega)
 have HE:Hid (∀ w1 lo1 hi1 h1 cap1 β1 κ1 cc,zu N lo1 hi1 w1 h1 cap1 m (n+1) β1 κ1 (aug n X y)->Calls Tryz.prog 138 #[.slice (some ⟨h1,0,none⟩) m cc,.int .i64 (n:Int)] w1 (q1f N lo1 hi1 w1 h1 cap1 m (n+1) (qH m (aug n X y) n).1 (qH m (aug n X y) n).2)) :=
  fun w1 lo1 hi1 h1 cap1 β1 κ1 cc o=>Kv o (by omega) (by omega) n rfl (by omega) (q3n hq hq') hP hK
 have hR:=zN m (aug n X y) n;have hRh:HtM m (n+1) (5 ^ P*q) (qH m (aug n X y) n).1:=yN (q3n hq hq') (by omega) hP;have hEnd:=Wl m n (aug n X y);obtain⟨Rf,hRf⟩:=qc (yC N w n (!(qH m (aug n X y) (n+1)).2.contains n) (sol n (qH m (aug n X y) (n+1)).1 (qH m (aug n X y) (n+1)).2));rw [<-hRf.out];obtain⟨M,hM⟩:=qc (qH m (aug n X y) n).1;obtain⟨p,hp⟩:=qc (qH m (aug n X y) n).2
 have HBAD:Hid ((∃ i,p.length<=i/\i < m/\M i n≠0)->Rf=yC N w n false (fun _=>0)):=fun h9=>by
  rw [hM.out,hp.out] at h9;have h8:=hEnd.1 h9;rw [hRf.out,h8]
  funext e w'
  refine propext ⟨fun ⟨a,b⟩=>⟨a,?_⟩,fun ⟨a,b⟩=>⟨a,?_⟩⟩
  ·rcases b with b | ⟨b,-⟩
   ·exact .inl b
   ·cases b
  ·rcases b with b | ⟨b,-⟩
   ·exact .inl b
   ·cases b
 have HGOOD:Hid ((∀ i,p.length<=i->i < m->M i n=0)->Rf=yC N w n true (sol n M p)):=fun h9=>by
  rw [hM.out,hp.out] at h9;obtain⟨h8,h7⟩:=hEnd.2 h9;rw [hRf.out,h7,h8,hM.out,hp.out]; rfl
 rw [<-hM.out,<-hp.out] at HE hR;rw [<-hM.out] at hRh;have HR:=q_h hR;have HRH:Hid (∀ i,i < m->Sz (M i n)):=fun i hi=>(hRh i hi n (by omega)).sz (by omega)
 obtain⟨np,hnp⟩:=qc p.length;have hnpm:np<=m:=by rw [hnp.out]; exact hR.len
 rw [<-hnp.out] at HBAD HGOOD;obtain⟨A,c,rfl,hmc,hcm⟩:=h.form;obtain⟨A0,c0,rfl,hmc0,hcm0⟩:=h'.form;unfold maxLen at hcm hcm0;obtain⟨b,off,rfl,-,-,hx⟩:=h.addr hm0;obtain⟨A1,c1,pp0,hnc,hcm1,-⟩:=hx 0 hm0;rw [Nat.add_zero] at pp0;unfold maxLen at hcm1;obtain⟨Y,hY⟩:=qc (aug n X y);rw [<-hY.out] at HE;clear h h' hx hR hRh hq hq' hP hK hqq hEnd;go_enter Tryz.func129,Tryz.ntmps129;go_wp2_with (go_at_call 175; refine q_o ?_);refine qJ ?_;intro W hE hsz B0;obtain⟨a0,-⟩:=qW B0;refine (q4c a0 (hI.ext hE) (hI'.ext hE) hm0 hm hn0 hn HSX.out HSY.out).mono ?_;rintro e w1 ⟨rfl,e1⟩;replace hE:=hE.trans e1;replace B0:=e1.block B0;have hl0:=qG B0;clear a0 e1 hsz;obtain⟨a0,-⟩:=qW B0;have p0:=hE.cell pp0;go_upto_region 5 with (fail);refine Je [Mn.eq (.slice (some ⟨b,off,none⟩) m c),Mn.eq (.slice A0 m c0),Mn.mt N m 1 (fun i _=>y i),Mn.own N w.heap.size m (n+1) Y,Mn.own N w.heap.size m (n+1) Y] (sM [27,28,29,30,8]) [] (rQ 5 0) 0 (by kernel_rfl) ?_ ?_
 ·show ∀ i,i < 5->_
  iterate 5 refine fs ?_ ?_
  ·exact fz
  all_goals intro hl; clear hl; refine stp rfl ?_; intro ac wi eI hB hA K hK
  have o2:=oOf (hB 2) rfl;have cc0:=eI.cell a0
  rotate_left
  have o1:=oOf (hB 1) rfl
  rotate_left
  obtain⟨x28,s28,j28⟩:=hA 1 28;obtain rfl:x28=(.slice A0 m c0):=j28;clear hB hA
  ·go_simp;refine (q27 (hI'.ext (hE.trans eI)) (by omega)).mono ?_;intro e wj hh;obtain⟨Aj,cj,rfl,hj,ej⟩:=hh.mt;go_wp2_with fail;exact hK.out _ _ ej (MtR.wide hj (Nat.zero_le _) (q_r) (q_r))
  obtain⟨x27,s27,j27⟩:=hA 0 27;obtain rfl:x27=(.slice (some ⟨b,off,none⟩) m c):=j27;obtain⟨x29,s29,j29⟩:=hA 2 29;replace j29:Mn.p (Mn.mt N m 1 (fun i _=>y i)) x29 wi:=j29;clear hB hA
  ·go_simp;refine (Yx (hI.ext (hE.trans eI)) j29 hm0 (by omega) (by omega) (by omega)).mono ?_;rintro e wj ⟨hb,capb,βb,κb,rfl,hcb,hob,ej⟩;go_wp2_with fail
   have hob2:zu N w.heap.size wj.heap.size wj hb capb m (n+1) βb κb Y:=by
    rw [hY.out];exact hob.wide (by have:=hE.size; have:=eI.size; omega) hN (q_r) (q_r)
   exact hK.out _ _ ej ⟨_,_,_,_,_,rfl,hcb,hob2⟩
  obtain⟨x30,s30,j30⟩:=hA 3 30;replace j30:Mn.p (Mn.own N w.heap.size m (n+1) Y) x30 wi:=j30;clear hB hA
  ·go_simp;exact q_k hK j30
  all_goals clear hB hA; go_simp; exact q_k hK rfl
 intro vals wz eZ hJ;have J29:Mn.p (Mn.mt N m 1 (fun i _=>y i)) (vals 2) wz:=hJ 2 (by decide) (by decide);have J30:Mn.p (Mn.own N w.heap.size m (n+1) Y) (vals 3) wz:=hJ 3 (by decide) (by decide);have J8:Mn.p (Mn.own N w.heap.size m (n+1) Y) (vals 4) wz:=hJ 4 (by decide) (by decide);clear hJ;simp only [pr,Nat.reduceAdd]
 generalize vals 2=z29 at J29 ⊢
 generalize vals 3=z30 at J30 ⊢
 generalize vals 4=z8 at J8 ⊢
 refine qh (by kernel_rfl) ?_ _;obtain⟨hb,capb,βb,κb,hib,rfl,hcb,ho⟩:=J8;replace hE:=hE.trans eZ;clear J29 J30 eZ a0 p0;have hcb':=hcb;unfold maxLen at hcb';have hhw:=ho.his;go_wp2_with (go_at_call 138; refine q_o ?_);refine (HE.out _ _ _ _ _ _ _ _ ho).mono ?_;rintro e w2 ⟨β,κ,A',c',rfl,ho2,hi2,hC2⟩;rw [<-hnp.out] at hi2 ⊢;have hE2:=hC2.ext hE (q_r);have hs2:=hE2.size;have hsz2:=hC2.size;clear ho hC2 hE HE
 obtain⟨_,_,e9,hnc',hcc'⟩:∃ A c,(Value.slice A' np c')=.slice A np c/\np<=c/\c<=maxLen:=by
  obtain⟨a,b,d,e,f⟩:=hi2.form;rw [<-hnp.out] at d e;exact⟨a,b,d,e,f⟩
 injection e9 with e9 _ e8
 subst e9 e8;unfold maxLen at hcc';have hmcb:=ho2.mle;go_upto_region 7 with (fail)
 go_cut [37,38,39] (fun pv pl pz wx=>∃ of:Nat,(np < m->of=np)/\pv=.slice (some ⟨hb,of,none⟩) (m - np) (capb - np)/\pl=.int .i64 ((m - np:Nat):Int)/\pz=.int .i64 0/\w2=wx)
 case first =>
  by_cases hqc:np=capb
  ·go_wp2
   go_meet
   have h0:m - np=0:=by omega
   have h00:capb - np=0:=by omega
   rw [h0,h00];exact⟨_,fun h=>by omega,rfl,rfl,rfl,rfl⟩
  ·go_wp2
   go_meet
   exact⟨_,fun h=>rfl,rfl,rfl,rfl,rfl⟩
 case rest =>
 obtain⟨of,hof,rfl,rfl,rfl,rfl⟩:=hcut;clear hnc' hcc';go_wp2
 go_loopw [39] (fun i wr=>∃ k:Nat,k<=m - np/\i=.int .i64 k/\Ext w2 wr/\Hid (∀ i,np<=i->i < np+k->M i n=0)) (fun i _=>(m - np) - (intOf i).toNat)
 case atStart=>exact⟨0,Nat.zero_le _,rfl,Ext.refl _,fun i h1 h2=>by omega⟩
 case round =>
  obtain⟨k,hk,rfl,hEr,HZ⟩:=hrel;have hsr:=hEr.size
  by_cases hlt:k < m - np
  ·have hk2:np+k < m:=by omega
   obtain rfl:np=of:=(hof (by omega)).symm;have hor:=ho2.ext hEr;have r0:=hor.hcell hk2;obtain⟨n1,A3,k3,c3,A4,k4,c4,t0,t1,t2,t3,-,-,-,-,hb3,g3,g4⟩:=(hor.row (np+k) hk2).at_ (i:=n) (by omega);have hnn:(n:Int) < (n:Int)+1:=by omega
   obtain⟨s1,hs1⟩:=qc (M (np+k) n).num.sign;have hκ:=hor.cap (np+k) hk2;unfold maxLen at hκ;clear hor;go_wp2_with (go_at_call 124; refine q_o ?_);refine (yY (qY.mk hb3 g3 g4) (HRH.out _ hk2)).mono ?_;rintro e w5 ⟨rfl,e5⟩;rw [<-hs1.out];replace hEr:=hEr.trans e5;clear t0 t1 t2 t3 e5 g3 g4 hb3 hnn r0
   by_cases hz:s1=0
   ·have HZN:Hid (M (np+k) n=0):=by
     have h9:=hs1.out;rw [hz] at h9;have h8:(M (np+k) n).num=0:=Int.sign_eq_zero_iff_zero.1 h9.symm;exact Rat.num_eq_zero.1 h8
    clear hs1;subst hz;go_wp2;go_roundw
    case rel=>exact⟨k+1,by omega,by go_num,hEr,fun i h1 h2=>by
      by_cases h3:i=np+k
      ·rw [h3]; exact HZN.out
      ·exact HZ.out i h1 (by omega)⟩
    case measure=>simp [intOf]; omega
   ·have HB:Hid (Rf=yC N w n false (fun _=>0)):=HBAD.out ⟨np+k,by omega,hk2,fun h9=>hz (by rw [hs1.out,h9]; rfl)⟩;have hz1:(s1 != 0)=true:=by simpa using hz
    clear hs1 hz;go_wp2;rw [HB.out];exact⟨hE2.trans hEr,.inl ⟨rfl,rfl⟩⟩
  ·have HG:Hid (Rf=yC N w n true (sol n M p)):=HGOOD.out (fun i h1 h2=>HZ.out i h1 (by omega));clear HGOOD HBAD hRf HRH HZ;replace ho2:=ho2.ext hEr;replace hi2:=hi2.ext hEr;have hE3:=hE2.trans hEr;have hs3:=hE3.size;go_wp2_with (at_make; refine q_o ?_);refine qK rfl _ _ rfl .i64 .i64 _ _ n rfl rfl rfl rfl (by omega) ?_;intro w3 cs2 B2 hcs2 e2;have hR:zC N w3 wr.heap.size n 0 (fun _=>0):=⟨by omega,Nat.zero_le _,⟨cs2,B2,hcs2⟩,fun j hj=>by omega⟩
   have hs4:wr.heap.size < w3.heap.size:=qG B2;obtain⟨gx,hgx⟩:∃ gx,gx=wr.heap.size:=⟨_,rfl⟩
   rw [<-hgx] at hR hs4 ⊢;have hgx1:w.heap.size<=gx:=by omega
   have hgx2:w2.heap.size<=gx:=by omega
   have hgx3:hib<=gx:=by have:=ho2.his; omega
   replace hE3:=hE3.trans e2;replace ho2:=ho2.ext e2;replace hi2:=hi2.ext e2;clear B2 hcs2 cs2 hgx e2 hEr hE2;go_wp2
   go_loopw [54,13] (fun i _ ws=>∃ j:Nat,j<=n/\i=.int .i64 j/\Ext w ws/\Chg gx (gx+1) w3 ws/\zC N ws gx n j (fun _=>0)) (fun i _ _=>n - (intOf i).toNat)
   case atStart=>exact⟨0,Nat.zero_le _,rfl,hE3,Chg.refl _ _ _,hR⟩
   case round =>
    clear hE3 hR;obtain⟨j,hj,rfl,hE3,hCx,hR⟩:=hrel;have hsx:=hCx.size
    by_cases hltj:j < n
    ·go_wp2_with (go_at_call 109; refine q_o ?_);refine (f_whole (N:=N) (by have:=hE3.size; omega) 0 (by omega) (by omega)).mono ?_;intro e w5 hh;obtain⟨b9,A9,k9,c9,A10,k10,c10,rfl,hb9,g9,g10,e5⟩:=hh.form;have hR5:=hR.ext e5;obtain⟨x0,v0⟩:=hR5.there (o:=j*4) (by omega);obtain⟨x1,v1⟩:=hR5.there (o:=j*4+1) (by omega);obtain⟨x2,v2⟩:=hR5.there (o:=j*4+2) (by omega);obtain⟨x3,v3⟩:=hR5.there (o:=j*4+3) (by omega);have f0:=hR5.frozen (j*4);have f1:=hR5.frozen (j*4+1);have f2:=hR5.frozen (j*4+2);have f3:=hR5.frozen (j*4+3);go_upto_region 18 with (fail);obtain⟨w6,E6,C6,hs6,hr6⟩:=hR5.set (i:=j) (q:=0) hltj (q_r) hb9 g9 g10;rw [E6];have hE6:=C6.ext (hE3.trans e5) hgx1;have hC6:=(hCx.trans (e5.chg _ _)).trans C6;have hr7:=(hr6.less (n':=j+1) (by omega)).congr (y:=fun _=>0) (fun c hc=>by unfold upd; split <;> rfl);clear E6 C6 hs6 hr6 hR hR5 v0 v1 v2 v3 f0 f1 f2 f3 hE3 hCx e5 hh;go_wp2;go_roundw
     case rel=>exact⟨j+1,by omega,by go_num,hE6,hC6,hr7⟩
     case measure=>simp [intOf]; omega
    ·obtain rfl:n=j:=by omega
     have hRow:=hR.congr (y:=Zc n M p 0) (fun c _=>by unfold Zc; rfl);have HNP:Hid (∀ s k,s < k->k < p.length->p[s]?.getD 0 < p[k]?.getD 0):=HR.out.inc;have HNN:Hid (∀ s,s < p.length->p[s]?.getD 0 < n):=HR.out.low;clear hR;go_wp2
     go_loopw [64,14,15] (fun i _ _ ws=>∃ k:Nat,k<=np/\i=.int .i64 k/\Ext w ws/\Chg gx (gx+1) w3 ws/\zC N ws gx n n (Zc n M p k)) (fun i _ _ _=>np - (intOf i).toNat)
     case atStart=>exact⟨0,Nat.zero_le _,rfl,hE3,hCx,hRow⟩
     case round =>
      clear hE3 hCx hRow;obtain⟨k,hk,rfl,hE3,hCx,hRow⟩:=hrel;have hsx:=hCx.size
      by_cases hltk:k < np
      ·have hkp:k < p.length:=by rw [<-hnp.out]; exact hltk
       have hic:=hi2.chg hCx (.inl hgx2);have hoc:=ho2.chg hCx (by omega) (.inl hgx3);obtain⟨bp,op,z,rfl,y0,HZ⟩:=hic.at_ hkp;have hzn:z < n:=by rw [HZ.out]; exact HNN.out k hkp
       have hkm:k < m:=by omega
       have hnn:(n:Int) < (n:Int)+1:=by omega
       have r0:=hoc.hcell (i:=k) (by omega);obtain⟨n1,A3,k3,c3,A4,k4,c4,t0,t1,t2,t3,t4,t5,t6,t7,hb3,g3,g4⟩:=(hoc.row k (by omega)).at_ (i:=n) (by omega);obtain⟨zb,zA,zn,zc,zA2,zn2,zc2,u0,u1,u2,u3,u4,u5,u6,u7,-⟩:=hRow.at_ hzn
       have HS:Hid (∀ c,Zc n M p (k+1) c=upd (Zc n M p k) z (M k n) c):=fun c=>by
        rw [HZ.out]; exact V6 (fun s hs=>by have:=HNP.out s k hs hkp; omega) c
       have hκ:=hoc.cap k hkm;unfold maxLen at hκ;clear hkp hic hoc;go_upto_region 23 with (fail);obtain⟨w7,E7,C7,hs7,hr7⟩:=hRow.set (i:=z) (q:=M k n) (by have:=hRow.2.1; omega) (by omega) hb3 g3 g4;rw [E7];have hE7:=C7.ext hE3 hgx1;have hC7:=hCx.trans C7;have hr8:=(hr7.less (n':=n) (by omega)).congr (y:=Zc n M p (k+1)) (fun c _=>(HS.out c).symm);clear E7 C7 hs7 hr7 hRow t0 t1 t2 t3 t4 t5 t6 t7 u0 u1 u2 u3 u4 u5 u6 u7 r0 y0 hE3 hCx;go_wp2;go_roundw
       case rel=>exact⟨k+1,by omega,by go_num,hE7,hC7,hr8⟩
       case measure=>simp [intOf]; omega
      ·obtain rfl:np=k:=by omega
       go_wp2;rw [HG.out];refine⟨hE3,.inr ⟨rfl,_,_,rfl,?_⟩⟩;have hl:=hRow.lsv (c:=n) (lo:=w.heap.size) (hi:=_) (q_r) (by unfold maxLen; omega) hgx1 hRow.lt (q_r);exact hl.congr (fun c _=>by unfold Zc sol; rw [<-hnp.out])
theorem q5c {X:Nat->Nat->Rat} (h:MtV N lo hi w v m n X) (hm0:0 < m) (hm:m<=64) (hn0:0 < n) (hn:n<=64)
  {q P:Nat} (hq:HtM m n q X) (hP:m<=P\/n<=P) (hK:5*(5 ^ P*q)<=29000000000) :
  Calls Tryz.prog 128 #[v] w (zL w (.tuple #[.int .i64 (((qH m X n).2.length:Nat):Int),.int .i64 0])):=by
 obtain⟨r,hr⟩:=qc (qH m X n).2.length;rw [<-hr.out];have HC:Hid (Calls Tryz.prog 184 #[v] w (Y8 N w m n (qH m X n).1 (qH m X n).2)):=q0f h hm0 hm hn0 hn hq hP hK;obtain⟨A,c,rfl,hmc,hcm⟩:=h.form;clear h hq hP hK;go_enter Tryz.func128,Tryz.ntmps128;go_wp2_with (go_at_call 184; refine q_o ?_);refine HC.out.mono ?_;rintro e w1 ⟨h,cap,β,κ,A',c',rfl,hcap,ho,hi',hE⟩;rw [<-hr.out];clear hi' ho;go_wp2
 first | go_ret2 | skip
 exact⟨rfl,hE⟩
def VM (N:Nat) (w:World) (n r:Nat) (x:Nat->Rat) (e:Ending) (w':World):Prop :=
 Ext w w'/\((r < n/\e=.returned (.tuple #[.slice none 0 0,.int .i64 14]))\/(¬ r < n/\∃ A c,e=.returned (.tuple #[.slice A n c,.int .i64 0])/\LsV N w.heap.size w'.heap.size w' (.slice A n c) n x))
def nsv (n:Nat) (K:Nat->Nat->Rat) (b:Nat->Rat):Nat->Rat:=sol n (qH n (aug n K b) (n+1)).1 (qH n (aug n K b) (n+1)).2
theorem q2k {K:Nat->Nat->Rat} (h:¬ (qH n K n).2.length < n):Reg n K :=
 (q1I n K).1 (by have:=(zN n K n).len; omega)
theorem Yp {lo' hi':Nat} {v':Value} {K:Nat->Nat->Rat} {b:Nat->Rat} (h:MtV N lo hi w v n n K) (h':LsV N lo' hi' w v' n b) (hn0:0 < n) (hn:n<=64)
  {q P:Nat} (hq:HtM n n q K) (hq':HtL n q b) (hP:n<=P) (hK:5*(5 ^ P*q)<=29000000000) :
  Calls Tryz.prog 56 #[v,v'] w (VM N w n (qH n K n).2.length (nsv n K b)):=by
 have HC:Hid (Calls Tryz.prog 128 #[v] w (zL w (.tuple #[.int .i64 (((qH n K n).2.length:Nat):Int),.int .i64 0]))):=q5c h hn0 hn hn0 hn hq (.inl hP) hK
 have HR:Hid (¬ (qH n K n).2.length < n->(!(qH n (aug n K b) (n+1)).2.contains n)=true):=fun h9=>by
  rw [(Xr (q2k h9) b).1]; rfl
 have HSV:Hid (∀ w1,MtV N lo hi w1 v n n K->LsV N lo' hi' w1 v' n b->Calls Tryz.prog 129 #[v,v'] w1 (yC N w1 n (!(qH n (aug n K b) (n+1)).2.contains n) (nsv n K b))) :=
  fun w1 g1 g2=>q4b g1 g2 hn0 hn hn0 hn hq hq' (.inl hP) hK
 obtain⟨r,hr⟩:=qc (qH n K n).2.length;rw [<-hr.out] at HC HR ⊢;obtain⟨ok,hok⟩:=qc (!(qH n (aug n K b) (n+1)).2.contains n);rw [<-hok.out] at HR HSV;obtain⟨x,hx⟩:=qc (nsv n K b);rw [<-hx.out] at HSV ⊢;obtain⟨Rf,hRf⟩:=qc (VM N w n r x);rw [<-hRf.out];have hI:=h;have hI':=h';obtain⟨A,c,rfl,hmc,hcm⟩:=h.form;obtain⟨A',c',rfl,hmc',hcm'⟩:=h'.form;clear h h' hq hq' hP hK;go_enter Tryz.func56,Tryz.ntmps56;go_wp2_with (go_at_call 128; refine q_o ?_);refine HC.out.mono ?_;rintro e w1 ⟨rfl,e1⟩;have hIe:=hI.ext e1;have hIe':=hI'.ext e1
 by_cases hlt:r < n
 ·go_wp2
  first | go_ret2 | skip
  rw [hRf.out];exact⟨e1,.inl ⟨hlt,rfl⟩⟩
 ·have HT:Hid (ok=true):=HR.out hlt;go_wp2_with (go_at_call 129; refine q_o ?_);refine (HSV.out w1 hIe hIe').mono ?_;rw [HT.out];rintro e w2 ⟨e2,⟨h9,-⟩ | ⟨-,A2,c2,rfl,h2⟩⟩
  ·cases h9
  ·have hs:=e1.size;have h3:LsV N w.heap.size w2.heap.size w2 (.slice A2 n c2) n x:=LsR.wide h2 hs (q_r) (q_r);clear h2;go_wp2
   first | go_ret2 | skip
   rw [hRf.out];exact⟨e1.trans e2,.inr ⟨hlt,_,_,rfl,h3⟩⟩
theorem q47 {lo2 hi2 lo3 hi3:Nat} {v1 v2 v3:Value} {X:Nat->Nat->Rat} {y p:Nat->Rat} (h1:MtV N lo hi w v1 m n X) (h2:LsV N lo2 hi2 w v2 m y) (h3:LsV N lo3 hi3 w v3 m p) (hm0:0 < m) (hm:m<=64) (hn0:0 < n) (hn:n<=24) (hp:∀ i,i < m->0 < p i)
  {P:Nat} (hkx:HtM m n k X) (hky:HtL m k y) (hkp:HtL m k p) (hK:m*(3*k+1)+3*k+2<=29000000000) (hP:n<=P) (hK2:5*(5 ^ P*(m*(3*k+1)+1))<=29000000000) :
  Calls Tryz.prog 13 #[.agg #[v1,v2,v3]] w (VM N w n (qH n (xE X p m) n).2.length (nsv n (xE X p m) (yx X y p m))):=by
 have HX:=q_h hkx;have HY:=q_h hky;have HP:=q_h hkp;have HK:=q_h hK;have HC:Hid (codeOf (Q7 m n X y p)=0):=xU hm0 hm hn0 hn hp
 have HSV:Hid (∀ w1 lo1 hi1 lo2 hi2 u1 u2,MtV N lo1 hi1 w1 u1 n n (xE X p m)->LsV N lo2 hi2 w1 u2 n (yx X y p m)->Calls Tryz.prog 56 #[u1,u2] w1 (VM N w1 n (qH n (xE X p m) n).2.length (nsv n (xE X p m) (yx X y p m)))) :=
  fun w1 lo1 hi1 lo2 hi2 u1 u2 g1 g2=>Yp g1 g2 hn0 (by omega) (ww hkx hkp (q_r) (q_r)) (QI hkx hky hkp (q_r) (q_r)) hP hK2
 obtain⟨r,hr⟩:=qc (qH n (xE X p m) n).2.length;rw [<-hr.out] at HSV ⊢;obtain⟨x,hx⟩:=qc (nsv n (xE X p m) (yx X y p m));rw [<-hx.out] at HSV ⊢;obtain⟨Rf,hRf⟩:=qc (VM N w n r x);rw [<-hRf.out];have hN:=h1.le;obtain⟨A1,c1,rfl,hmc,hcm⟩:=h1.form;obtain⟨A2,c2,rfl,hmc2,hcm2⟩:=h2.form;obtain⟨A3,c3,rfl,hmc3,hcm3⟩:=h3.form;have hI1:=h1;have hI2:=h2;have hI3:=h3;clear h1 h2 h3 hkx hky hkp hK hp hP hK2;go_enter Tryz.func13,Tryz.ntmps13;go_upto_region 1 with (fail);refine qo ?_;intro W hE hsz B0;obtain⟨a0,a1,a2,-⟩:=cells3 B0;go_wp2_with (go_at_call 52; refine q_o ?_);refine (QL (QN (hI1.ext hE) (hI2.ext hE) (hI3.ext hE)) (yT HX.out HY.out HP.out (by have:=HK.out; omega)) (fun i hi=>(HP.out i hi).sz (by have:=HK.out; omega))).mono ?_;rintro e w1 ⟨rfl,e1⟩;rw [HC.out];replace hE:=hE.trans e1;replace B0:=e1.block B0;clear a0 a1 a2;obtain⟨a0,a1,a2,-⟩:=cells3 B0;go_wp2_with (go_at_call 53; refine q_o ?_);refine (JB (lo:=0) (hi:=w1.heap.size) (MtR.wide (hI1.ext hE) (Nat.zero_le _) (hI1.ext hE).2.1 (q_r)) (LsR.wide (hI2.ext hE) (Nat.zero_le _) (hI2.ext hE).2.1 (q_r)) (LsR.wide (hI3.ext hE) (Nat.zero_le _) (hI3.ext hE).2.1 (q_r)) hm0 (by omega) hn0 (by omega) HX.out HY.out HP.out HK.out).mono ?_;rintro e w2 ⟨h,cap,g,rfl,hM,hr2,e2⟩;replace hE:=hE.trans e2;clear a0 a1 a2;go_upto_region 5 with (fail);refine qo ?_;intro w3 e3 hsz3 B3;replace hE:=hE.trans e3;replace hM:=hM.ext e3
 replace hr2:=hr2.ext e3;obtain⟨d0,d1,-⟩:=cells2 B3;clear B3 e3;go_wp2_with (go_at_call 56; refine q_o ?_);refine (HSV.out _ _ _ _ _ _ _ hM hr2).mono ?_;have hs3:=hE.size;rintro e w4 ⟨e4,⟨h9,rfl⟩ | ⟨h9,A4,c4,rfl,h4⟩⟩
 ·go_wp2
  first | go_ret2 | skip
  rw [hRf.out];exact⟨hE.trans e4,.inl ⟨h9,rfl⟩⟩
 ·have h5:LsV N w.heap.size w4.heap.size w4 (.slice A4 n c4) n x:=LsR.wide h4 hs3 (q_r) (q_r);clear h4;go_wp2
  first | go_ret2 | skip
  rw [hRf.out];exact⟨hE.trans e4,.inr ⟨h9,_,_,rfl,h5⟩⟩
theorem xH {f:Nat->Int} {cs:Array Value} {t:TypeId} (hN:N<=w.heap.size) (hB:w.heap[g]?=some (.cells cs t (0,0))) (hc:∀ i,i < k->cs[i]?=some (.int .i64 (f i))) (hk:k < 1000) (hf:∀ i,i < k->-1000<=f i/\f i<=1000) :
  Calls Tryz.prog 48 #[.slice (some ⟨g,0,none⟩) k k] w (q2R N w k (fun i=>((f i:Int):Rat))):=by
 have HC:Hid (∀ wr,Ext w wr->∀ i,i < k->wr.cell? ⟨g,i,none⟩=some (.int .i64 (f i))):=fun wr e i hi=>e.cell (by rw [qx hB,hc i hi])
 have HF:=q_h hf;clear hB hc hf;go_enter Tryz.func48,Tryz.ntmps48;go_wp2
 go_loopw [3,8] (fun v i wr=>∃ a:Nat,a<=k/\i=.int .i64 a/\Ext w wr/\∃ A c,v=.slice A a c/\Grow N w.heap.size wr (.slice A a c) a (fun i=>((f i:Int):Rat))) (fun _ i _=>k - (intOf i).toNat)
 case atStart=>exact⟨0,Nat.zero_le _,rfl,Ext.refl w,_,_,rfl,Grow.nil hN (q_r) _⟩
 case round =>
  obtain⟨a,ha,rfl,hE,A',c',rfl,hR⟩:=hrel;have hsE:=hE.size
  by_cases hlt:a < k
  ·have p0:=HC.out _ hE a hlt;have hf1:=(HF.out a hlt).1;have hf2:=(HF.out a hlt).2;obtain⟨z,hz⟩:=qc (f a);rw [<-hz.out] at p0 hf1 hf2;go_wp2_with (go_at_call 25; refine q_o ?_);refine (Yg (N:=N) (by omega) z (by omega) (by omega)).mono ?_;rw [hz.out];intro e w1 hh;obtain⟨b1,A1,k1,c1,A2,k2,c2,rfl,hb1,g1,g2,e1⟩:=hh.form;go_wp2_with (at_builtin; refine q_o ?_);refine qo ?_;intro w2 e2 hsz2 BX;replace hE:=(hE.trans e1).trans e2;replace hR:=(hR.ext e1).ext e2;refine zT rfl _ _ 24 Tryz.underlying24 rfl rfl hR rfl BX hb1 (g1.ext e2) (g2.ext e2) (by omega) ?_;rintro g' cap w3 hR3 ⟨g2',hg2,c3,-⟩ -;replace hE:=c3.ext hE (by omega);replace hR3:=hR3.congr (y:=fun i=>((f i:Int):Rat)) (fun i _=>by unfold upd; split <;> simp_all);clear hR c3 g1 g2 e1 e2 BX p0 hh hf1 hf2;go_wp2;go_roundw
   case rel=>exact⟨a+1,by omega,by go_num,hE,_,_,rfl,hR3⟩
   case measure=>simp [intOf]; omega
  ·obtain rfl:a=k:=by omega
   go_wp2;go_ret;exact⟨A',c',rfl,hR.lsv (q_r) rfl,hE⟩
theorem Ji {t u:Value} {x y z:Nat->Rat} (h:w.heap[g]?=some (.cells #[s,t,u] 24 (0,0))) (h1:LsV N 0 w.heap.size w s n x) (h2:LsV N 0 w.heap.size w t n y) (h3:LsV N 0 w.heap.size w u n z) :
  MtV N 0 w.heap.size w (.slice (some ⟨g,0,none⟩) 3 3) 3 n (fun i=>if i=0 then x else if i=1 then y else z):=by
 have hl:=qG h;obtain⟨c0,c1,c2,-⟩:=cells3 h;refine⟨h1.le,q_r,_,3,rfl,q_r,by unfold maxLen; omega,fun _=>⟨g,0,rfl,Nat.zero_le _,hl,fun i hi=>?_⟩⟩;have hi':i=0\/i=1\/i=2:=by omega
 rcases hi' with rfl | rfl | rfl
 ·exact⟨s,c0,h1⟩
 ·exact⟨t,c1,h2⟩
 ·exact⟨u,c2,h3⟩
theorem q1R {x:Nat->Rat} (h:w.heap[g]?=some (.cells #[s] 24 (0,0))) (h1:LsV N 0 w.heap.size w s n x) :
  MtV N 0 w.heap.size w (.slice (some ⟨g,0,none⟩) 1 1) 1 n (fun _=>x):=by
 have hl:=qG h;obtain⟨c0,-⟩:=qW h;refine⟨h1.le,q_r,_,1,rfl,q_r,by unfold maxLen; omega,fun _=>⟨g,0,rfl,Nat.zero_le _,hl,fun i hi=>?_⟩⟩;obtain rfl:i=0:=by omega
 exact⟨s,c0,h1⟩
theorem LsV.all {x:Nat->Rat} (h:LsV N lo hi w v n x):LsV N 0 w.heap.size w v n x:=LsR.wide h (Nat.zero_le _) h.2.1 (q_r)
theorem MtV.all {X:Nat->Nat->Rat} (h:MtV N lo hi w v m n X):MtV N 0 w.heap.size w v m n X:=MtR.wide h (Nat.zero_le _) h.2.1 (q_r)
def yg (a b c:Int) (i:Nat):Int:=if i=0 then a else if i=1 then b else c
def exA (i:Nat):Nat->Rat:=if i=0 then (fun j=>((yg 1 0 0 j:Int):Rat)) else if i=1 then (fun j=>((yg 1 1 0 j:Int):Rat)) else (fun j=>((yg 0 1 0 j:Int):Rat))
def exL (i:Nat):Rat:=((yg 0 3 0 i:Int):Rat)
def exP (i:Nat):Rat:=((yg 1 1 1 i:Int):Rat)
def q3p (N:Nat) (w:World) (m n:Nat) (X:Nat->Nat->Rat) (y p:Nat->Rat) (e:Ending) (w':World):Prop :=
 ∃ A1 c1 A2 c2 A3 c3,e=.returned (.agg #[.slice A1 m c1,.slice A2 m c2,.slice A3 m c3])/\MtV N 0 w'.heap.size w' (.slice A1 m c1) m n X/\LsV N 0 w'.heap.size w' (.slice A2 m c2) m y/\LsV N 0 w'.heap.size w' (.slice A3 m c3) m p/\Ext w w'
theorem JG (hN:N<=w.heap.size):Calls Tryz.prog 44 #[] w (q3p N w 3 2 exA exL exP):=by
 obtain⟨Rf,hRf⟩:=qc (q3p N w 3 2 exA exL exP);rw [<-hRf.out];go_enter Tryz.func44,Tryz.ntmps44;go_upto_region 1 with (fail);refine qo ?_;intro W hE hsz B0;go_wp2_with (go_at_call 48; refine q_o ?_);refine qJ ?_;intro w1 e1 hsz1 B1;replace hE:=hE.trans e1;replace B0:=e1.block B0;refine (xH (N:=N) (k:=2) (f:=yg 1 0 0) (by have:=hE.size; omega) B1 (fun i hi=>by rcases i with _ | _ | i; rfl; rfl; omega) (by omega) (fun i _=>by unfold yg; split <;> (try split) <;> omega)).mono ?_;rintro e w2 ⟨A2,c2,rfl,h2,e2⟩;replace hE:=hE.trans e2;replace B0:=e2.block B0;clear e1 e2 B1 hsz1;go_wp2_with (go_at_call 48; refine q_o ?_);refine qJ ?_;intro w1 e1 hsz1 B1;replace hE:=hE.trans e1;replace B0:=e1.block B0;replace h2:=h2.ext e1;refine (xH (N:=N) (k:=2) (f:=yg 1 1 0) (by have:=hE.size; omega) B1 (fun i hi=>by rcases i with _ | _ | i; rfl; rfl; omega) (by omega) (fun i _=>by unfold yg; split <;> (try split) <;> omega)).mono ?_;rintro e w3 ⟨A3,c3,rfl,h3,e3⟩;replace hE:=hE.trans e3;replace B0:=e3.block B0;replace h2:=h2.ext e3;clear e1 e3 B1 hsz1;go_wp2_with (go_at_call 48; refine q_o ?_);refine qJ ?_;intro w1 e1 hsz1 B1;replace hE:=hE.trans e1;replace B0:=e1.block B0;replace h2:=h2.ext e1;replace h3:=h3.ext e1;refine (xH (N:=N) (k:=2) (f:=yg 0 1 0) (by have:=hE.size; omega) B1 (fun i hi=>by rcases i with _ | _ | i; rfl; rfl; omega) (by omega) (fun i _=>by unfold yg; split <;> (try split) <;> omega)).mono ?_
 rintro e w4 ⟨A4,c4,rfl,h4,e4⟩;replace hE:=hE.trans e4;replace B0:=e4.block B0;replace h2:=h2.ext e4;replace h3:=h3.ext e4;clear e1 e4 B1 hsz1;go_wp2_with (go_at_call 48; refine q_o ?_);refine jh ?_;intro w1 e1 hsz1 BM B1;replace hE:=hE.trans e1;replace B0:=e1.block B0;have M1:=Ji BM (h2.ext e1).all (h3.ext e1).all (h4.ext e1).all;refine (xH (N:=N) (k:=3) (f:=yg 0 3 0) (by have:=hE.size; omega) B1 (fun i hi=>by rcases i with _ | _ | _ | i; rfl; rfl; rfl; omega) (by omega) (fun i _=>by unfold yg; split <;> (try split) <;> omega)).mono ?_;rintro e w5 ⟨A5,c5,rfl,h5,e5⟩;replace hE:=hE.trans e5;replace B0:=e5.block B0;have M2:=MtV.all (M1.ext e5);replace h5:LsV N _ _ w5 (.slice A5 3 c5) 3 exL:=h5;clear e1 e5 B1 BM hsz1 M1 h2 h3 h4;go_wp2_with (go_at_call 48; refine q_o ?_);refine qJ ?_;intro w1 e1 hsz1 B1;replace hE:=hE.trans e1;replace B0:=e1.block B0;replace h5:=h5.ext e1;have M3:=MtV.all (M2.ext e1);refine (xH (N:=N) (k:=3) (f:=yg 1 1 1) (by have:=hE.size; omega) B1 (fun i hi=>by rcases i with _ | _ | _ | i; rfl; rfl; rfl; omega) (by omega) (fun i _=>by unfold yg; split <;> (try split) <;> omega)).mono ?_;rintro e w6 ⟨A6,c6,rfl,h6,e6⟩;replace hE:=hE.trans e6;replace B0:=e6.block B0;replace h5:=h5.ext e6;have M4:=MtV.all (M3.ext e6);have L5:=LsV.all h5;have L6:=LsV.all h6;replace L6:LsV N _ _ w6 (.slice A6 3 c6) 3 exP:=L6;clear e1 e6 B1 hsz1 M2 M3 h5 h6;obtain⟨a0,a1,a2,a3,a4,a5⟩:=cells3 B0
 go_wp2;obtain⟨w7,E7,D7,U⟩:=ex3 B0 (.slice (some ⟨w4.heap.size,0,none⟩) 3 3) (.slice A5 3 c5) (.slice A6 3 c6);rw [E7];have hT:=NoU.mk B0 (by decide)
 have hc:∀ o b,w6.cell? ⟨w.heap.size,o,none⟩≠some (.bool b):=by
  intro o b h;rw [qx B0] at h
  rcases o with _ | _ | _ | o <;> simp at h
 have hc2:∀ o A k c,0 < k->w6.cell? ⟨w.heap.size,o,none⟩≠some (.slice A k c):=by
  intro o A k c hk h;rw [qx B0] at h
  rcases o with _ | _ | _ | o
  all_goals simp at h
  all_goals (obtain⟨-,h,-⟩:=h; omega)
 have M7:=MtR.upd0 M4 U hN hT hc hc2 (fun _ _=>by omega);have L7:=LsR.upd0 L5 U hN hT hc;have L8:=LsR.upd0 L6 U hN hT hc;obtain⟨x0,x1,x2,-⟩:=cells3 D7;clear E7 a0 a1 a2 a3 a4 a5;refine bodyPost_ret (v:=.agg #[.slice (some ⟨w4.heap.size,0,none⟩) 3 3,.slice A5 3 c5,.slice A6 3 c6]) ?_ rfl ?_
 ·simp [results,x0,x1,x2,go_sem]
 ·rw [hRf.out];exact⟨_,_,_,_,_,_,rfl,MtR.wide M7 (Nat.zero_le _) M7.2.1 (q_r),LsR.wide L7 (Nat.zero_le _) L7.2.1 (q_r),LsR.wide L8 (Nat.zero_le _) L8.2.1 (q_r),U.ext hE (q_r)⟩
theorem one_row {s1:Value} {n1:Nat} {R1:Nat->Raw} (h1:LsR N lo hi w s1 n1 R1) (hg:w.heap[g]?=some (.cells #[s1] 24 (0,0))) :
  MtR N 0 w.heap.size w (.slice (some ⟨g,0,none⟩) 1 1) 1 (fun _=>n1) (fun _=>R1):=by
 have hl:=qG hg;obtain⟨c0,-⟩:=qW hg;refine⟨h1.le,q_r,_,1,rfl,q_r,by unfold maxLen; omega,fun _=>⟨g,0,rfl,Nat.zero_le _,hl,fun i hi=>?_⟩⟩;obtain rfl:i=0:=by omega
 exact⟨s1,c0,h1.wide (Nat.zero_le _) (by have:=h1.2.1; omega) (q_r)⟩
theorem q2L (f:Nat->Bool):allB 1 f=f 0:=by unfold allB; simp [List.range_succ]
def wJ (Z:Lin) (n:Nat) (R:Nat->Raw):Int:=if codeOf Z≠0 then codeOf Z else if allB n (fun i=>okR (R i))=false then 1 else if n≠Z.L 0 then 4 else 0
theorem q2x {Z:Lin} (h:codeOf Z=0):1<=Z.m:=by
 unfold codeOf at h
 by_cases h1:jK Z=false
 ·rw [if_pos h1] at h; exact absurd h (by decide)
 ·by_cases h2:zW Z=false
  ·rw [if_neg h1,if_pos h2] at h; exact absurd h (by decide)
  ·have h3:zW Z=true:=by simpa using h2
   unfold zW at h3;simp only [Bool.and_eq_true,decide_eq_true_eq] at h3;omega
theorem q48 {lo' hi':Nat} {u:Value} {Z:Lin} {R:Nat->Raw} (h:q1p N lo hi w v Z) (hx:LsR N lo' hi' w u n R) (hs:q1h Z) (hp:∀ i,i < Z.np->q61 (Z.p i)) (hsx:∀ i,i < n->xW (R i)) :
  Calls Tryz.prog 108 #[v,u] w (zL w (.int .i64 (wJ Z n R))):=by
 have HS:=q_h hs;have HP:=q_h hp;have HSX:=q_h hsx;obtain⟨g,hg⟩:=qc (wJ Z n R);obtain⟨r,hr⟩:=qc (codeOf Z);rw [<-hg.out];have hI:=h;have hIx:=hx;obtain⟨A1,c1,A2,c2,A3,c3,rfl,h1,h2,h3,hm,hnl,hnp⟩:=h.parts;obtain⟨A4,c4,rfl,hnc,hcm4⟩:=hx.form;unfold maxLen at hcm4;have h1d:=h1;clear h hx h2 h3 hs hp hsx h1;go_enter Tryz.func108,Tryz.ntmps108;go_upto_region 1 with (fail);refine qo ?_;intro W hE hsz B0;obtain⟨a0,a1,a2,-⟩:=cells3 B0;go_wp2_with (go_at_call 52; refine q_o ?_);refine (QL (hI.ext hE) HS.out HP.out).mono ?_;rintro e w1 ⟨rfl,e1⟩;rw [<-hr.out];replace hE:=hE.trans e1;replace B0:=e1.block B0;clear a0 a1 a2 e1
 by_cases hr0:r=0
 case neg =>
  have hr1:(r == 0)=false:=by simpa using hr0
  have hr2:(r != 0)=true:=by simpa using hr0
  have HF:Hid (g=r):=by rw [Hid,hg.out]; unfold wJ; rw [<-hr.out,if_pos hr0]
  clear hr0 hg hr;go_wp2;go_ret;exact⟨qB HF.out.symm,hE⟩
 case pos =>
 have HM:Hid (1<=Z.m):=q2x (hr.out.symm.trans hr0);have HG:Hid (g=if allB n (fun i=>okR (R i))=false then 1 else if n≠Z.L 0 then 4 else 0):=by rw [Hid,hg.out]; unfold wJ; rw [<-hr.out,if_neg (by simpa using hr0)]
 clear hg hr;subst hr0;go_wp2_with (go_at_call 115; refine q_o ?_);refine qJ ?_;intro W2 e2 hsz2 B2;replace hE:=hE.trans e2;replace B0:=e2.block B0;refine (xg (one_row (hIx.ext hE) B2) (fun i hi j hj=>HSX.out j hj)).mono ?_;rw [q2L];obtain⟨s,hs⟩:=qc (allB n (fun i=>okR (R i)));rintro e w3 ⟨rfl,e3⟩;rw [<-hs.out];replace hE:=hE.trans e3;replace B0:=e3.block B0;obtain⟨a0,a1,a2,-⟩:=cells3 B0;clear B2 e2 e3 hsz2;cases hs':s with
 | false =>
  subst hs';have HF:Hid (g=1):=by rw [Hid,HG.out,<-hs.out]; rfl
  go_wp2;go_ret;exact⟨qB HF.out.symm,hE⟩
 | true =>
 subst hs';have HG2:Hid (g=if n≠Z.L 0 then 4 else 0):=by rw [Hid,HG.out,<-hs.out]; rfl
 have hm1:=HM.out;obtain⟨b,off,rfl,-,-,hx⟩:=(h1d.ext hE).addr (by omega);obtain⟨AL,cL,p0,hLc,hcL,-⟩:=hx 0 (by omega);rw [Nat.add_zero] at p0;obtain⟨L0,hL0⟩:=qc (Z.L 0);rw [<-hL0.out] at p0 hLc;unfold maxLen at hcL;clear hx HG h1d
 by_cases hn:n=L0
 ·have HF:Hid (g=0):=by rw [Hid,HG2.out,<-hL0.out,if_neg (by simpa using hn)]
  have t1:((n:Int) != (L0:Int))=false:=by rw [hn]; simp
  clear hn;go_wp2;go_ret;exact⟨qB HF.out.symm,hE⟩
 ·have HF:Hid (g=4):=by rw [Hid,HG2.out,<-hL0.out,if_pos hn]
  have t1:((n:Int) != (L0:Int))=true:=by rw [bne_iff_ne]; omega
  clear hn;go_wp2;go_ret;exact⟨qB HF.out.symm,hE⟩
theorem q2j {X:Nat->Nat->Rat} {y p x:Nat->Rat} (hm0:0 < m) (hm:m<=64) (hn0:0 < n) (hn:n<=24) (hp:∀ i,i < m->0 < p i):wJ (Q7 m n X y p) n (fun i=>raw (x i))=0:=by
 unfold wJ;rw [xU hm0 hm hn0 hn hp,if_neg (by simp),if_neg (by rw [qg.2 (fun i _=>kN _)]; simp),if_neg (by show ¬ n≠n; simp)]
theorem JA {lo2 hi2 lo' hi':Nat} {v1 v2 v3 v4:Value} {X:Nat->Nat->Rat} {y p x:Nat->Rat} (h1:MtV N lo hi w v1 m n X) (h2:LsV N lo2 hi2 w v2 m y) (h3:LsV N lo2 hi2 w v3 m p) (h4:LsV N lo' hi' w v4 n x) (hm:m < 1000000) (hn0:0 < n) (hn:n < 1000000)
  {kx:Nat} (hkX:HtM m n k X) (hky:HtL m k y) (hkx:HtL n kx x) (hK:n*(k+kx+1)+1+k<=29000000000) :
  Calls Tryz.prog 110 #[.agg #[v1,v2,v3],v4] w (q2R N w m (fun i=>av n X x i - y i)):=by
 have HX:=q_h hkX;have HXX:=q_h hkx;have HK:Hid (n*(k+kx+1)+1<=29000000000):=by rw [Hid]; omega
 have HSS:Hid (∀ i,i < m->Sz (av n X x i)/\Sz (y i)):=fun i hi =>
  ⟨(y5 (n:=n) (k:=k+kx) (K:=n*(k+kx+1)+1) (fun c hc=>(hkX i hi c hc).mul (hkx c hc)) (q_r) (q_r)).sz (by omega),(hky i hi).sz (by omega)⟩
 obtain⟨Rf,hRf⟩:=qc (q2R N w m (fun i=>av n X x i - y i));rw [<-hRf.out];have hN:=h1.le;obtain⟨A1,c1,rfl,hmc,hcm⟩:=h1.form;obtain⟨A2,c2,rfl,hmc2,hcm2⟩:=h2.form;obtain⟨A3,c3,rfl,hmc3,hcm3⟩:=h3.form;obtain⟨A4,c4,rfl,hmc4,hcm4⟩:=h4.form;unfold maxLen at hcm4;have hI1:=h1;have hI2:=h2;have hI4:=h4;clear h1 h2 h3 h4 hkX hky hkx hK;go_enter Tryz.func110,Tryz.ntmps110;go_upto_region 2 with (fail);refine qo ?_;intro W hE hsz B0;obtain⟨a0,a1,a2,-⟩:=cells3 B0;have hs0:=hE.size;go_wp2;clear a0 a1 a2
 go_loopw [5,13] (fun v i wr=>∃ k:Nat,k<=m/\i=.int .i64 k/\Ext W wr/\∃ A c,v=.slice A k c/\Grow N W.heap.size wr (.slice A k c) k (fun i=>av n X x i - y i)) (fun _ i _=>m - (intOf i).toNat)
 case atStart=>exact⟨0,Nat.zero_le _,rfl,Ext.refl W,_,_,rfl,Grow.nil (by omega) (q_r) _⟩
 case round =>
  obtain⟨i,hi',rfl,hEr,A6,c6,rfl,hG⟩:=hrel;have hsr:=hEr.size
  by_cases hlt:i < m
  ·obtain⟨b,off,rfl,-,-,hx⟩:=(hI1.ext (hE.trans hEr)).addr (by omega);obtain⟨A7,c7,o0,-,hc7,hrow⟩:=hx i hlt;unfold maxLen at hc7;have HXI:Hid (HtL n k (X i)):=HX.out i hlt;go_wp2_with (go_at_call 131; refine q_o ?_);refine (q5v hrow (hI4.ext (hE.trans hEr)) HXI.out HXX.out HK.out).mono ?_;rintro e w4 ⟨v5,rfl,h5,e4⟩;replace h5:qY N w4 v5 (av n X x i):=h5;obtain⟨n1,A11,k11,c11,A12,k12,c12,rfl,hb1,g1,g2⟩:=qY.parts h5;replace hEr:=hEr.trans e4;replace hG:=hG.ext e4;clear o0 hx hrow h5 e4 HXI;obtain⟨b2,off2,rfl,-,-,hx2⟩:=(hI2.ext (hE.trans hEr)).addr (by omega);obtain⟨n2,A9,k9,c9,A10,k10,c10,q0,q1,q2,q3,hb2,g3,g4⟩:=(hx2 i hlt).open;clear hx2;go_upto_region 6 with (fail);refine qo ?_;intro w5 e5 hsz5 B5;obtain⟨t0,t1,t2,t3,-⟩:=cells4 B5;obtain⟨a0,a1,a2,-⟩:=cells3 (e5.block (hEr.block B0));replace q0:=e5.cell q0;replace q1:=e5.cell q1;replace q2:=e5.cell q2;replace q3:=e5.cell q3;replace g1:=g1.ext e5;replace g2:=g2.ext e5;replace g3:=g3.ext e5;replace g4:=g4.ext e5;replace hG:=hG.ext e5;have hs4:=hEr.size;have hEw:=hEr.trans e5;obtain⟨gz,hgz⟩:∃ gz,gz=w4.heap.size:=⟨_,rfl⟩
   rw [<-hgz] at t0 t1 t2 t3 hsz5 hs4 ⊢;clear B5 e5 a0 a2 hgz;have eC:=(Ext.refl w5).drew;refine qm (fun w'=>w'.cell? ⟨gz,0,none⟩=some (.bool n1)/\w'.cell? ⟨gz,1,none⟩=some (.slice A11 k11 c11)/\w'.cell? ⟨gz,2,none⟩=some (.bool false)/\w'.cell? ⟨gz,3,none⟩=some (.slice A12 k12 c12)/\w'.cell? ⟨w.heap.size,1,none⟩=some (.slice (some ⟨b2,off2,none⟩) m c2)/\w'.cell? ⟨b2,off2+i*4,none⟩=some (.bool n2)/\w'.cell? ⟨b2,off2+i*4+1,none⟩=some (.slice A9 k9 c9)/\w'.cell? ⟨b2,off2+i*4+2,none⟩=some (.bool false)/\w'.cell? ⟨b2,off2+i*4+3,none⟩=some (.slice A10 k10 c10)) [9] (by kernel_rfl) (by exact⟨eC.cell t0,eC.cell t1,eC.cell t2,eC.cell t3,eC.cell a1,eC.cell q0,eC.cell q1,eC.cell q2,eC.cell q3⟩) (fun hHeld=>?_);refine sP 0 (h:=?_);try simp only [nr]
   refine sT 1 (h:=?_);try simp only [nr]
   refine sP 2 (h:=?_);try simp only [nr]
   refine sT 3 (h:=?_);try simp only [nr]
   refine sP 4 (h:=?_);try simp only [nr]
   refine sP 5 (h:=?_);try simp only [nr]
   refine sT 6 (h:=?_);try simp only [nr]
   refine qj (i:=7) rfl (by kernel_rfl) (fun K hK=>?_);go_simp;refine (q0C (x:=av n X x i) (y:=y i) (by exact (qY.mk hb1 g1 g2).ext eC) (by exact (qY.mk hb2 g3 g4).ext eC) (HSS.out i hlt).1 (HSS.out i hlt).2).mono ?_;intro e w6 hh;obtain⟨b3,A13,k13,c13,A14,k14,c14,rfl,hb3,g5,g6,e6⟩:=hh.form;replace eC:=eC.trans e6;go_wp2_with fail;clear hHeld;refine hK.out _ _ (by exact⟨eC.cell t0,eC.cell t1,eC.cell t2,eC.cell t3,eC.cell a1,eC.cell q0,eC.cell q1,eC.cell q2,eC.cell q3⟩) fun hHeld=>?_
   clear hK K;try simp only [nr]
   refine qj (i:=8) rfl (by kernel_rfl) (fun K hK=>?_);go_simp
   first | refine qo ?_ | refine yB ?_
   intro w7 e7 hsz7 BX;replace eC:=eC.trans e7;replace g5:=g5.ext e7;replace g6:=g6.ext e7;have hG7:=hG.ext eC;have hE7:=hEw.trans eC;clear hHeld;refine hK.out _ _ (by exact⟨eC.cell t0,eC.cell t1,eC.cell t2,eC.cell t3,eC.cell a1,eC.cell q0,eC.cell q1,eC.cell q2,eC.cell q3⟩) fun hHeld=>?_
   clear hK K;try simp only [nr]
   refine ql (i:=9) rfl (by kernel_rfl) (by kernel_rfl) (fun K hK=>?_);refine jy rfl _ _ 24 Tryz.underlying24 rfl (by rfl) hG7 (by rfl) BX hb3 g5 g6 (by omega) ?_;rintro g cap' w8 hG8 ⟨g',hg',c15,-⟩ -;replace hE7:=c15.ext hE7 hg';replace hG8:=hG8.congr (y:=fun i=>av n X x i - y i) (fun j _=>by unfold upd; split <;> simp_all);refine hK.out _ _ ?_;clear hK K;try simp only [nr]
   refine sP 10 (h:=?_);try simp only [nr]
   refine qh (by kernel_rfl) ?_ _;clear hHeld;clear t0 t1 t2 t3 q0 q1 q2 q3 a1 g1 g2 g3 g4 g5 g6 hb1 hb2 hb3 BX hG hG7 c15 hEr hEw eC;go_wp2;go_roundw
   case rel=>exact⟨i+1,by omega,by go_num,hE7,_,_,rfl,hG8⟩
   case measure=>simp [intOf]; omega
  ·obtain rfl:m=i:=by omega
   go_wp2
   first | go_ret | skip
   rw [hRf.out];exact⟨A6,c6,rfl,hG.lsv hs0 rfl,hE.trans hEr⟩
end Go.Proofs.YtfmddpahhloleaaGreat
