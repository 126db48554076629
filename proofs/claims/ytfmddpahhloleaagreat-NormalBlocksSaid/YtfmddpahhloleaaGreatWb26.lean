import Derived.Test.YtfmddpahhloleaaGreatWb22
set_option linter.all false
set_option maxHeartbeats 8000000
namespace Go.Proofs.YtfmddpahhloleaaGreat
open Go.RowKit
variable {w:World} {N n lo hi k c b:Nat}
theorem zC.tail {x:Nat->Rat} (h:zC N w b k (n+n) x) (hc:n<=c) (hm:c<=maxLen) (h1:lo<=b) (h2:b < hi) (h3:hi<=w.heap.size) :
  LsV N lo hi w (.slice (some ⟨b,n*4,none⟩) n c) n (fun j=>x (n+j)):=by
 refine⟨by have:=h.1; omega,h3,_,c,rfl,hc,hm,fun _=>⟨b,n*4,rfl,h1,h2,fun i hi=>?_⟩⟩;have:=h.2.2.2 (n+i) (by omega);rw [Nat.add_mul] at this;exact this
end Go.Proofs.YtfmddpahhloleaaGreat
namespace Go.Proofs.YtfmddpahhloleaaGreat
variable {w:World} {N n lo hi k c b:Nat}
theorem nmat_nm5 (m:Nat) (B:Nat->Nat->Rat) (p:Nat->Rat) (i j:Nat):xE B p m i j=nm m B p i j:=qf fun t _=>by grind
theorem q42 {K:Nat->Nat->Rat} {b:Nat->Rat} (h:Reg n K):∀ i,i < n->sum n (fun c=>K i c*nsv n K b c)=b i:=(Xr h b).2
theorem q55 {q P:Nat} {K:Nat->Nat->Rat} {b:Nat->Rat} (hK:HtM n n q K) (hb:HtL n q b) (hP:n<=P):HtL n (n*(5 ^ P*q+2)+1) (nsv n K b):=by
 have hk3:HtM n (n+1) q (aug n K b):=fun i hi c hc=>by
  unfold aug
  split
  ·exact hK i hi c ‹_›
  ·exact hb i hi
 have hk4:HtM n (n+1) (5 ^ P*q) (qH n (aug n K b) (n+1)).1:=yN (p:=P) hk3 (j:=n+1) (q_r) (.inl hP);have hlen:=(Qd n (aug n K b) (n+1)).1;intro c hc;unfold nsv sol;refine Ht.mono (y5 (n:=(qH n (aug n K b) (n+1)).2.length) (k:=5 ^ P*q+1) (K:=(qH n (aug n K b) (n+1)).2.length*(5 ^ P*q+1+1)+1) (fun s hs=>Ht.mono (Ht.mul (k:=1) ?_ (hk4 s (by omega) n (by omega))) (by omega)) (q_r) (q_r)) ?_
 ·unfold dlt; split
  ·exact Ht.one
  ·exact Ht.zero
 ·exact Nat.succ_le_succ (Nat.mul_le_mul_right _ hlen)
end Go.Proofs.YtfmddpahhloleaaGreat
