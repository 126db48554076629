import Derived.Test.YtccepmpebioeiaaGreatWb07
import Derived.OrdersIn
import Derived.RegionTactic
set_option linter.all false
set_option maxHeartbeats 8000000
namespace Go.Proofs.YtccepmpebioeiaaGreat
open Go.RowKit
def plainOp:Op→Bool
 | .move _ | .assign _ | .load _ _ | .store _ _ _ | .binOp _ _ _ _ _ | .convert _ _ _ | .fieldAddr _ _ _ | .field _ _ _ | .indexAddr _ _ _=>true
 | _=>false
theorem plain_about {o:Oper} (h:plainOp o.op=true) (P:Program) (w:World) (ρ:Operand→Value):o.about P w ρ=none:=by
 unfold Oper.about
 cases ho:o.op <;> rw [ho] at h <;> simp [plainOp] at h <;> rfl
theorem plain_defer {o:Oper} (h:plainOp o.op=true):∀ c,o.op≠.defer c:=by
 intro c hc; rw [hc] at h; simp [plainOp] at h
theorem bind_value {α:Type} (s:Sem α) (g:α→Value) (P:Program) (w:World):(∃ v w',(do let x ←s; pure (Next.value (g x)):Sem Next).run P w=.ok (.value v) w')∨∃ h w',(do let x ←s; pure (Next.value (g x)):Sem Next).run P w=.halt h w':=by
 simp only [Sem.run_bind]
 cases s.run P w with
 | ok x w'=>exact .inl ⟨g x,w',rfl⟩
 | halt h w'=>exact .inr ⟨h,w',rfl⟩
theorem bind_skip (s:Sem Unit) (P:Program) (w:World):(∃ w',(do s; pure Next.skip:Sem Next).run P w=.ok .skip w')∨∃ h w',(do s; pure Next.skip:Sem Next).run P w=.halt h w':=by
 simp only [Sem.run_bind]
 cases s.run P w with
 | ok x w'=>exact .inl ⟨w',rfl⟩
 | halt h w'=>exact .inr ⟨h,w',rfl⟩
theorem plain_result {o:Oper} (h:plainOp o.op=true) (ρ:Operand→Value) (P:Program) (w:World) :
  (∃ v w',(execOp ρ o).run P w=.ok (.value v) w')∨(∃ w',(execOp ρ o).run P w=.ok .skip w')∨∃ x w',(execOp ρ o).run P w=.halt x w':=by
 unfold execOp
 cases ho:o.op <;> rw [ho] at h <;> simp [plainOp] at h
 all_goals simp only
 case move=>exact .inl ⟨_,_,rfl⟩
 case assign=>exact .inl ⟨_,_,rfl⟩
 case store=>exact .inr (bind_skip _ P w)
 all_goals (rcases bind_value _ _ P w with h1 | h1; exact .inl h1; exact .inr (.inr h1))
theorem opIn_of_op {F:Fence} {n:Nat} {P:Program} {ops:Array Oper} {Q:Exit→Act→World→Prop} (hpl:∀ (i:Nat) (o:Oper),ops[i]?=some o→plainOp o.op=true) (hQ:¬ LetsOut Q)
  {i:Nat} {K K':Act→World→Prop} (hK:∀ a w,K a w→K' a w) {a:Act} {w:World} (h:wpOp P ops Q i K a w):wpOpIn F n P ops Q i K' a w:=by
 unfold wpOp at h
 unfold wpOpIn
 cases ho:ops[i]? with
 | none=>rw [ho] at h; exact hK _ _ h
 | some o =>
  rw [ho] at h
  simp only at h ⊢
  have hp:=hpl i o ho
  have hab:∀ f,o.about P w a.eval=some f→F.fn f:=fun f hf=>by rw [plain_about hp] at hf; cases hf
  by_cases hw:Region.wanted o (yielded ops a.tmps)=true
  ·rw [if_pos hw] at h ⊢
   rcases h with h | h
   ·unfold Oper.wp at h
    unfold Oper.wpIn
    refine⟨hab,?_⟩
    rw [Oper.semAt_plain F _ _ (plain_defer hp)]
    rcases plain_result hp a.eval P w with ⟨v,w',e⟩ | ⟨w',e⟩ | ⟨x,w',e⟩
    ·rw [e] at h ⊢; exact hK _ _ h
    ·rw [e] at h ⊢; exact hK _ _ h
    ·rw [e] at h ⊢
     cases x <;> exact h
   ·exact absurd h.2 hQ
  ·rw [if_neg hw] at h ⊢
   exact⟨hab,hK _ _ h⟩
theorem anyIn_of_any {F:Fence} {n:Nat} {P:Program} {md:Region.Mode} {ops:Array Oper} {Q:Exit→Act→World→Prop} (hpl:∀ (i:Nat) (o:Oper),ops[i]?=some o→plainOp o.op=true) (hQ:¬ LetsOut Q) :
  ∀ (fuel:Nat) (listed:Array Bool) (a:Act) (w:World),wpAny P md ops Q fuel listed a w→wpAnyIn F n P md ops Q fuel listed a w:=by
 intro fuel
 induction fuel with
 | zero=>intro listed a w h; exact h
 | succ fuel ih=>intro listed a w h; exact⟨h.1,fun i hi=>opIn_of_op hpl hQ (fun a w h=>ih _ a w h) (h.2 i hi)⟩
theorem plain_all {l:List Oper} (h:l.all (fun o=>plainOp o.op)=true):∀ (i:Nat) (o:Oper),l.toArray[i]?=some o→plainOp o.op=true:=by
 intro i o ho
 rw [List.getElem?_toArray] at ho
 exact List.all_eq_true.1 h o (List.mem_of_getElem? ho)
theorem roundRegion {F:Fence} {n:Nat} {P:Program} {id:Nat} {l:List Oper} {Q:Exit→Act→World→Prop} {a:Act} {w:World} (hm:P.follows .mixedOrders=true) (hpl:l.all (fun o=>plainOp o.op)=true) (hQ:¬ LetsOut Q)
  (h:wpAny P .any l.toArray Q l.toArray.size (Array.replicate l.toArray.size false) a w.drew):(Code.region id l.toArray true).wpIn F n P Q a w :=
 wpIn_region_any hm (anyIn_of_any (plain_all hpl) hQ _ _ _ _ h)
end Go.Proofs.YtccepmpebioeiaaGreat
