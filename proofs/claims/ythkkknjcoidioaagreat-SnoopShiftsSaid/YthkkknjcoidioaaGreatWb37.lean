import Derived.Test.YthkkknjcoidioaaGreatWb36
import Derived.Test.YthkkknjcoidioaaGreatWb34
import Derived.Test.YthkkknjcoidioaaGreatWb24
set_option linter.all false
set_option maxHeartbeats 8000000
namespace Go.Proofs.YthkkknjcoidioaaGreat
open Go.RowKit
theorem Grow.low {N base base':Nat} {w:World} {v:Value} {n:Nat} {x:Nat→Rat} (h:Grow N base w v n x) (h1:N≤base') (h2:base'≤base):Grow N base' w v n x:=by
 obtain⟨a1,a2,a3⟩:=h;refine⟨h1,by omega,?_⟩
 rcases a3 with a3 | ⟨g,cap,hv,hg,hm,hr⟩
 ·exact .inl a3
 ·exact .inr ⟨g,cap,hv,by omega,hm,hr⟩
end Go.Proofs.YthkkknjcoidioaaGreat
