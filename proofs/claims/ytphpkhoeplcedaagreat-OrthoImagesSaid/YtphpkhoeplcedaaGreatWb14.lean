import Derived.Test.YtphpkhoeplcedaaGreatWb12
import Derived.Shelf.Bits.Mul64
import Derived.Laws.IdiomCopy
set_option linter.all false
set_option maxHeartbeats 8000000
namespace Go.Proofs.YtphpkhoeplcedaaGreat
open Go.RowKit
variable {w:World} {g:Nat}
theorem kC {t:TypeId} {x0 x1 x2 x3 x4 x5 x6:Value} (h:w.heap[g]?=some (.cells #[x0,x1,x2,x3,x4,x5,x6] t (0,0))) :
  w.cell? ⟨g,0,none⟩=some x0/\w.cell? ⟨g,1,none⟩=some x1/\w.cell? ⟨g,2,none⟩=some x2/\w.cell? ⟨g,3,none⟩=some x3/\w.cell? ⟨g,4,none⟩=some x4/\w.cell? ⟨g,5,none⟩=some x5/\w.cell? ⟨g,6,none⟩=some x6:=by
 refine⟨?_,?_,?_,?_,?_,?_,?_⟩ <;> exact qg h _
end Go.Proofs.YtphpkhoeplcedaaGreat
