import Derived.Test.YtpkmjhmmmdkodaaGreatWx13
set_option linter.all false
set_option maxHeartbeats 8000000
namespace Go.Proofs.YtpkmjhmmmdkodaaGreat
open Go.RowKit
def RawS (R:Raw):Prop:=R.l1.length<=1000000000/\R.l2.length<=1000000000
end Go.Proofs.YtpkmjhmmmdkodaaGreat
