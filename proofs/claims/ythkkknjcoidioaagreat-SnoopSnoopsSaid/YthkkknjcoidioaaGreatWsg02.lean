import Derived.Test.YthkkknjcoidioaaGreatWsg01
set_option linter.all false
set_option maxHeartbeats 8000000
namespace Go.Proofs.YthkkknjcoidioaaGreat
open Go.RowKit
theorem wF_bd (k:Nat→Bool) (t:Nat→Rat):∀ i,-1≤wF k t i∧wF k t i < i
 | 0=>by unfold wF; omega
 | i+1=>by
  have:=wF_bd k t i;unfold wF
  split <;> omega
end Go.Proofs.YthkkknjcoidioaaGreat
