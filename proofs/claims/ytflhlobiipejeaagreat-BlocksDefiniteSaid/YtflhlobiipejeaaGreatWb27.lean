import Derived.Test.YtflhlobiipejeaaGreatWb18
import Derived.Deep.RegionLaw
import Derived.Lib.SliceRun
set_option linter.all false
set_option maxHeartbeats 8000000
namespace Go.Proofs.YtflhlobiipejeaaGreat
open Go.RowKit
def Mn.sb (k:Nat) (cs:Array Value) (t:TypeId):Mn:=⟨fun v w=>∃g,v=.slice (some ⟨g,0,none⟩) k k/\w.heap[g]?=some (.cells cs t (0,0)),fun e h=>by
  obtain⟨g,h0,h1⟩:=h
  exact⟨g,h0,e.block h1⟩⟩
end Go.Proofs.YtflhlobiipejeaaGreat
