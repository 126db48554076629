import Derived.Test.YtdeeekdbhhenpaaGreatDoorWc03
import Derived.OrdersIn
import Derived.RegionTactic
set_option linter.all false
set_option maxHeartbeats 8000000
namespace Go.Proofs.YtdeeekdbhhenpaaGreatDoor
open Go.RowKit Go.Shelf
attribute [local go_sem] Oper.semAt_some
def acc (l:List Nat) (pre:List (Fin l.length)):Nat:=pre.foldl (fun a j=>a*bs+l[j.1]?.getD 0) 0
theorem q0w (l:List Nat) (pre:List (Fin l.length)) (j:Fin l.length):acc l (pre ++ [j])=acc l pre*bs+l[j.1]?.getD 0:=by simp[acc]
theorem q0v (l:List Nat):∀k,k<=l.length->acc l ((yj l.length).take k)=val (l.drop (l.length-k)):=by
 intro k
 induction k with
 | zero=>intro _;simp[acc,val]
 | succ k ih =>
  intro hk;rw[QK (by omega),q0w,ih (by omega)];have h1:l.length-(k+1)<l.length:=by omega
  rw[XN h1,KA h1];have e:l.length-(k+1)+1=l.length-k:=by omega
  have e2:l[l.length-1-k]?.getD 0=l[l.length-(k+1)]?.getD 0:=by rw[show l.length-1-k=l.length-(k+1) by omega]
  rw[e]
  show val (l.drop (l.length-k))*bs+l[l.length-1-k]?.getD 0=_
  rw[e2,Nat.mul_comm];omega
theorem q20 (l:List Nat):acc l (yj l.length)=val l:=by
 have:=q0v l l.length (q_r);rw[List.take_of_length_le (by rw[kL];exact q_r),Nat.sub_self,List.drop_zero] at this;exact this
end Go.Proofs.YtdeeekdbhhenpaaGreatDoor
