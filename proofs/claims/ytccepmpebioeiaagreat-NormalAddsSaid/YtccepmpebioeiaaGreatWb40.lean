import Derived.Test.YtccepmpebioeiaaGreatWb26
import Derived.Test.YtccepmpebioeiaaGreatWb25
import Derived.Test.YtccepmpebioeiaaGreatWb31
set_option linter.all false
set_option maxHeartbeats 8000000
namespace Go.Proofs.YtccepmpebioeiaaGreat
open Go.RowKit
theorem RowB.tail {N:Nat} {w:World} {b k n:Nat} {x:Nat→Rat} (h:RowB N w b k (n+n) x) {c lo hi:Nat} (hc:n≤c) (hm:c≤maxLen) (h1:lo≤b) (h2:b < hi) (h3:hi≤w.heap.size) :
  LsV N lo hi w (.slice (some ⟨b,n*4,none⟩) n c) n (fun j=>x (n+j)):=by
 refine⟨by have:=h.1; omega,h3,_,c,rfl,hc,hm,fun _=>⟨b,n*4,rfl,h1,h2,fun i hi=>?_⟩⟩;have:=h.2.2.2 (n+i) (by omega);rw [Nat.add_mul] at this;exact this
end Go.Proofs.YtccepmpebioeiaaGreat
