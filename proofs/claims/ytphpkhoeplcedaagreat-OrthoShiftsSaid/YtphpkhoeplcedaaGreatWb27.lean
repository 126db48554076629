import Derived.Test.YtphpkhoeplcedaaGreatWb26
set_option linter.all false
set_option maxHeartbeats 8000000
namespace Go.Proofs.YtphpkhoeplcedaaGreat
open Go.RowKit
theorem BoxR.at4 {N:Nat} {w:World} {g:Nat} {q:Rat} (h:BoxR N w g q):At4 N w g 0 (raw q):=by
 obtain⟨b,A,n,c,A',n',c',B,hb,g1,g2⟩:=h;obtain⟨z0,z1,z2,z3,-⟩:=cells4 B;refine⟨_,_,?_,z1,z2,z3,g1,g2⟩
 show w.cell? ⟨g,0,none⟩=some (.bool (decide (q.num < 0)))
 rw [←hb.out]; exact z0
end Go.Proofs.YtphpkhoeplcedaaGreat
