import Derived.Test.YtdeeekdbhhenpaaGreatDoorWc01
import Derived.Deep.DeepCutAuto
import Derived.Deep.RegionWith
set_option linter.all false
set_option maxHeartbeats 8000000
namespace Go.Proofs.YtdeeekdbhhenpaaGreatDoor
open Go.RowKit
variable {w w':World} {N:Nat} {z:Int}
theorem Wj.form{e:Ending}(h:Wj N w z e w'):∃(b:Bool) (A:Option Addr) (k c:Nat),e=.returned (.agg #[.bool b,.slice A k c])/\Hid (b=decide (z<0))/\Gs N w' (.slice A k c) (dg z.natAbs)/\Ext w w':=by
 obtain⟨v,rfl,⟨s,rfl,hg⟩,he⟩:=h;obtain⟨A,k,c,rfl,-,-,-⟩:=hg.form;exact⟨_,A,k,c,rfl,rfl,hg,he⟩
end Go.Proofs.YtdeeekdbhhenpaaGreatDoor
