import Derived.Test.YtphpkhoeplcedaaGreatWb17
import Derived.RunT
import Derived.Calls
import Derived.Shelf.SlSortCmp.WholeK
set_option linter.all false
set_option maxHeartbeats 8000000
set_option maxRecDepth 100000
namespace Go.Proofs.YtphpkhoeplcedaaGreat
open Go
variable {w w':World} {N n lo hi k g m c d K:Nat} {v:Value} {G:Grd} {q x:Rat}
theorem KI {p:Program} {a:Addr} {u:TypeId} {k:Addr} {at_:Bool} {r:World×List Addr} (h:World.viewStore p w a u k v at_=.ok r):r.1.drawn=w.drawn:=by
 unfold World.viewStore at h;simp only [bind,Except.bind,pure,Except.pure] at h
 repeat' split at h
 all_goals first | (cases h; rfl) | (cases h)
theorem XO {p:Program} {a:Addr} {at_:Bool} {l:List Addr} (h:World.farStore p w a v at_=.ok (w',l)):w'.drawn=w.drawn:=by
 unfold World.farStore at h
 split at h
 ·split at h
  ·rename_i r hr
   cases h
   exact KI hr
  ·cases h
 ·cases h
theorem QT (w:World) (a:Addr) (n:Nat):(w.freeze a n).drawn=w.drawn:=by
 unfold World.freeze
 split <;> rfl
theorem XQ {α:Type} (x:Ask α):∀ w:World,w.drawn<=(w.ask x).2.drawn:=by
 induction x with
 | done a=>intro w; exact q_r
 | ask what range k ih =>
  intro w;unfold World.ask
  dsimp only
  split
  ·exact ih _ _
  ·exact q_l (Nat.le_succ _) (ih _ { w with drawn:=w.drawn+1 })
theorem XM (w:World) (c:Sys):w.drawn<=(w.sys c).2.drawn:=by
 unfold World.sys;have h:=XQ (Kernel.perform c w.os) w
 split
 ·exact q_r
 ·rename_i r os w' _ heq
  rw [heq] at h;exact h
def q4P {α:Type}:Result α->World
 | .ok _ w=>w
 | .halt _ w=>w
theorem jM {α:Type} (p:Program) (x:Sem α):∀ w:World,w.drawn<=(q4P (x.run p w)).drawn:=by
 induction x with
 | pure a=>intro w; exact q_r
 | halt h=>intro w; exact q_r
 | load m a k ih =>
  intro w;simp only [Sem.run]
  split
  ·exact ih _ _
  ·split
   ·exact ih _ _
   ·exact q_r
 | store m a v k ih =>
  intro w
  by_cases hv:(∃ c,v=.agg c)\/(∃ c,v=.tuple c)
  ·rcases hv with ⟨c,rfl⟩ | ⟨c,rfl⟩ <;> exact q_r
  ·rw [Sem.run]
   ·split
    ·split
     ·exact q_r
     ·exact ih (w.setCell a v)
    ·split
     ·rename_i h
      rw [<-XO h];exact ih _
     ·exact q_r
   ·intro c h; exact hv (.inl ⟨c,h⟩)
   ·intro c h; exact hv (.inr ⟨c,h⟩)
 | new o k ih=>intro w; exact ih w.heap.size { w with heap:=w.heap.push o }
 | shape r k ih=>intro w; exact ih _ _
 | freeze a n k ih=>intro w; rw [<-QT w a n]; exact ih _
 | frozen a k ih=>intro w; exact ih _ _
 | getObj r k ih =>
  intro w;simp only [Sem.run]
  split
  ·exact q_r
  ·exact ih _ _
  ·exact q_r
 | setObj r o k ih =>
  intro w;simp only [Sem.run]
  split
  ·exact q_r
  ·exact ih { w with heap:=w.heap.setIfInBounds r o }
  ·exact q_r
 | choose q k ih =>
  intro w;simp only [Sem.run]
  split
  ·exact ih _ _
  ·exact q_l (Nat.le_succ _) (ih _ { w with drawn:=w.drawn+1 })
 | sys c k ih=>intro w; exact q_l (XM w c) (ih _ _)
 | program k ih=>intro w; exact ih _ _
 | mark m k ih=>intro w; exact ih _
theorem qN {α:Type} {p:Program} {x:Sem α} {a:α} (h:x.run p w=.ok a w'):w.drawn<=w'.drawn:=by
 have k:=jM p x w;rw [h] at k;exact k
theorem QR {α:Type} {p:Program} {x:Sem α} {a:Halt} (h:x.run p w=.halt a w'):w.drawn<=w'.drawn:=by
 have k:=jM p x w;rw [h] at k;exact k
theorem zS {α:Type} {p:Program} {x:Sem α} {a:α} {es es':Array Event} (h:x.runT p w es=(.ok a w',es')):w.drawn<=w'.drawn :=
 qN (x:=x) (a:=a) (by rw [<-Sem.runT_fst p x w es,h])
theorem ku {α:Type} {p:Program} {x:Sem α} {a:Halt} {es es':Array Event} (h:x.runT p w es=(.halt a w',es')):w.drawn<=w'.drawn :=
 QR (x:=x) (a:=a) (by rw [<-Sem.runT_fst p x w es,h])
theorem Y5 {α:Type} {p:Program} {x:Sem α} {a:α} {es:Array Event} (h:(x.runT p w es).1=.ok a w'):w.drawn<=w'.drawn :=
 qN (x:=x) (a:=a) (by rw [<-Sem.runT_fst p x w es,h])
def qH (d:Nat):GStep->Prop
 | .go _ w _=>d<=w.drawn
 | .comm _ _ _ _ w _=>d<=w.drawn
 | .spawn _ _ w _=>d<=w.drawn
 | .count _ w _=>d<=w.drawn
 | .timer _ _ w _=>d<=w.drawn
 | .alone _ _ w _=>d<=w.drawn
 | .newcoro _ _ _ w _=>d<=w.drawn
 | .coroswitch _ _ _ w _=>d<=w.drawn
 | .collect _ w _=>d<=w.drawn
 | .watch _ w _=>d<=w.drawn
 | .ended _ _ _=>True
theorem qH.after {s:GStep} (h:qH d s) (es:Array Event):qH d (GStep.after es s):=by
 cases s <;> exact h
theorem XN {c:Prop} [Decidable c] {a b:GStep} (ha:qH d a) (hb:qH d b):qH d (if c then a else b):=by
 split
 ·exact ha
 ·exact hb
theorem KJ (w:World) (fd:Nat) (t:ByteArray) (o:Outcome) (d:Nat):qH d (endWith w fd t o):=by
 unfold endWith
 dsimp only
 repeat' split
 all_goals trivial
theorem Y7 (fr:Frame) (ahead:List ByteArray) (m:String) (b:Bool) (w:World):qH w.drawn (dieOf fr ahead m b w):=q_r
theorem xU (fr:Frame) (m:String) (w:World):qH w.drawn (endThrow fr m w):=q_r
theorem je (p:Program) (fr:Frame) (v:Value) (w:World):qH w.drawn (endPrinting p fr v w):=by
 unfold endPrinting
 dsimp only
 split
 ·exact xU _ _ _
 ·trivial
theorem qH.le {d':Nat} {s:GStep} (h:qH d s) (hd:d'<=d):qH d' s:=by
 cases s <;> first | trivial | exact q_l hd h
theorem yE (p:Program) (fr:Frame) (callers:List Frame) (dying:Option Dying) (m:String) (w:World):qH w.drawn (endFatal p fr callers dying m w):=by
 unfold endFatal
 extract_lets chain raw shown
 split
 ·exact (Y7 _ _ _ _ _).le (qN (by assumption))
 ·trivial
 ·trivial
theorem KG (p:Program) (fr:Frame) (d:Dying) (f:Fatal) (w:World):qH w.drawn (writeOn p fr d f w):=by
 unfold writeOn
 extract_lets on
 split
 ·trivial
 ·extract_lets write
  split
  ·exact zS (by assumption)
  ·exact ku (by assumption)
  ·trivial
  ·trivial
theorem q0a (p:Program) (fr:Frame) (d:Dying) (w:World):qH w.drawn (die p fr d w):=by
 unfold die
 split
 ·exact KG _ _ _ _ _
 ·split
  ·split
   ·exact q_r
   ·exact KJ _ _ _ _ _
  ·extract_lets d'
   split
   ·exact q_r
   ·split
    ·exact qN (by assumption)
    ·trivial
   ·split
    rename_i r es hr
    refine qH.after ?_ _
    split
    ·exact zS (by assumption)
    ·exact zS (by assumption)
    ·trivial
    ·exact (je _ _ _ _).le (ku (by assumption))
    ·trivial
   ·trivial
theorem Y6 (p:Program) (fr:Frame) (callers:List Frame) (dying:Option Dying) (g:Nat) (w:World):qH w.drawn (early p fr callers dying g w):=by
 unfold early
 extract_lets refuse notYet
 have hn:∀ w,qH w.drawn (notYet w):=by
  intro w
  dsimp only [notYet]
  split
  ·exact q_r
  ·trivial
 split
 ·exact hn _
 ·split
  ·trivial
  ·extract_lets there
   have ht:∀ w,qH w.drawn (there w):=fun w=>q_r
   repeat' split
   all_goals first
    | trivial
    | exact hn _
    | exact ht _
    | exact (hn _).le (qN (by assumption))
    | exact (ht _).le (qN (by assumption))
theorem xW (p:Program) (main:Bool) (fr:Frame) (callers:List Frame) (dying:Option Dying) (v:Value) (w:World):qH w.drawn (doReturn p main fr callers dying v w):=by
 unfold doReturn
 repeat' split
 all_goals first | trivial | exact q_r
theorem vH (p:Program) (fr:Frame) (callers:List Frame) (dying:Option Dying) (d:Deferred) (w:World):qH w.drawn (callDeferred p fr callers dying d w):=by
 unfold callDeferred;refine XN trivial ?_
 ·split
  rename_i r es hr
  extract_lets es'
  refine qH.after ?_ _
  split
  all_goals first
   | trivial
   | exact zS (by assumption)
   | exact ku (by assumption)
   | exact (yE _ _ _ _ _ _).le (ku (by assumption))
   | exact (xU _ _ _).le (ku (by assumption))
   | (split <;> exact zS (by assumption))
theorem XL (p:Program) (main:Bool) (fr:Frame) (callers:List Frame) (dying:Option Dying) (w:World):qH w.drawn (unwind p main fr callers dying w):=by
 unfold unwind
 split
 ·split
  refine qH.after ?_ _
  split
  ·exact zS (by assumption)
  ·trivial
 ·exact vH _ _ _ _ _ _
 ·split
  ·trivial
  ·split
   ·trivial
   ·split
    ·exact q_r
    ·split
     ·split
      ·exact q_r
      ·split
       ·exact qN (by assumption)
       ·trivial
       ·trivial
     ·split
      ·exact je _ _ _ _
      ·trivial
  ·split
   ·exact xW _ _ _ _ _ _ _
   ·split
    refine qH.after ?_ _
    split
    ·exact (xW _ _ _ _ _ _ _).le (zS (by assumption))
    ·trivial
    ·trivial
theorem jq (p:Program) (fr:Frame) (callers:List Frame) (dying:Option Dying) (s:Sem Next) (w:World) (listen:Bool):qH w.drawn (stepG.apply p listen fr callers dying s w):=by
 unfold stepG.apply
 extract_lets go kind
 have hgo:∀ fr w,qH w.drawn (go fr w):=fun fr w=>q_r
 split
 rename_i r es hr
 extract_lets es1 es2 es3
 refine qH.after ?_ _
 have hk:w.drawn<=(q4P r).drawn:=by
  have h:=jM p s w
  split at hr
  ·rw [<-Sem.runT_fst p s w #[],hr] at h; exact h
  ·cases hr; exact h
 clear hr
 repeat' split
 all_goals first
  | trivial
  | exact hk
  | exact (hgo _ _).le hk
  | exact (yE _ _ _ _ _ _).le hk
  | exact (xU _ _ _).le hk
  | exact (Y6 _ _ _ _ _ _).le hk
theorem Vr (p:Program) (fr:Frame) (callers:List Frame) (dying:Option Dying) (w:World) (listen:Bool):qH w.drawn (stepG.oper p listen fr callers dying w):=by
 unfold stepG.oper
 split
 ·trivial
 ·split <;> exact jq _ _ _ _ _ _ _
theorem Zr {α:Type} {o:Option α} {a:GStep} {f:α->GStep} (h:qH d a) (h':∀ x,qH d (f x)):qH d (o.elim a f):=by
 cases o <;> first | exact h | exact h' _
theorem Vt (p:Program) (main:Bool) (fr:Frame) (callers:List Frame) (dying:Option Dying) (w:World) (listen:Bool):qH w.drawn (stepG.exec p main listen fr callers dying w):=by
 unfold stepG.exec
 extract_lets go tox lost leave
 have hgo:∀ fr w,qH w.drawn (go fr w):=fun fr w=>q_r
 have hto:∀ t,qH w.drawn (tox t):=fun t=>q_r
 have hlost:∀ t,qH w.drawn (lost t):=fun t=>trivial
 have hleave:∀ j,qH w.drawn (leave j):=by
  intro j
  dsimp only [leave]
  split
  ·exact XN (hgo _ _) (hlost _)
  ·refine qH.after ?_ _
   split
   ·exact (xW _ _ _ _ _ _ _).le (Y5 (by assumption))
   ·trivial
 clear_value tox lost leave
 split
 all_goals first
  | trivial
  | exact hto _
  | exact hleave _
  | exact hgo _ _
  | exact jq _ _ _ _ _ _ _
  | exact Zr (hleave _) (fun _=>hto _)
  | exact Zr (hlost _) (fun _=>jq _ _ _ _ _ _ _)
  | (split <;> first | exact hto _ | exact hlost _)
  | (split; exact Vr _ _ _ _ _ _; exact hgo _ _)
  | (
   split
   refine qH.after ?_ _
   split
   ·exact (jq _ _ _ _ _ _ _).le (zS (by assumption))
   ·trivial)
  | (
   split
   refine qH.after ?_ _
   split
   ·exact (hgo _ _).le (zS (by assumption))
   ·exact (hgo _ _).le (ku (by assumption))
   ·trivial)
  | (
   split
   ·exact hto _
   ·split
    ·exact (hgo _ _).le (qN (by assumption))
    ·trivial)
theorem Y3 (p:Program) (main:Bool) (g:Goroutine) (w:World) (listen:Bool):qH w.drawn (stepG p main g w listen):=by
 unfold stepG
 split
 split
 ·exact q0a _ _ _ _
 ·exact Vt _ _ _ _ _ _ _
 ·exact XL _ _ _ _ _ _
def jB (d:Nat):Stepped->Prop
 | .next m=>d<=m.world.drawn
 | .ended _ _=>True
theorem jB.le {d':Nat} {s:Stepped} (h:jB d s) (hd:d'<=d):jB d' s:=by
 cases s <;> first | trivial | exact q_l hd h
theorem Zq (p:Program) (gs:Array Goroutine) (rest:Rest) (w:World):jB w.drawn (look p gs rest w):=by
 unfold look
 split
 ·dsimp only
  split
  ·trivial
  ·split
   ·trivial
   ·split
    ·rename_i hrun
     have hk:=qN hrun;exact hk
    ·trivial
    ·trivial
 ·trivial
theorem Zd (w:World) (c:Nat):(drain w c).2.drawn=w.drawn:=by
 unfold drain
 split <;> rfl
theorem jO (m:Machine) (k:Nat) (t:Timer) (a b:Nat):(retime m k t a b).2.world.drawn=m.world.drawn:=by
 unfold retime;cases t.chan with
 | none=>rfl
 | some c=>exact Zd _ _
theorem Qg {m m':Machine} {op:TimerOp} (h:timerOp m op=.ok (v,m')):m'.world.drawn=m.world.drawn:=by
 unfold timerOp at h
 split at h
 ·split at h
  ·cases h; rfl
  ·split at h
   ·split at h
    ·cases h
    ·cases h; rfl
   ·cases h
 ·unfold timerOp.named at h
  split at h
  ·simp only [Except.ok.injEq] at h
   rename_i cc _
   have hk:=jO m cc _ _ _ |>.symm.trans (congrArg (fun z=>z.2.world.drawn) h)
   exact hk.symm
  ·cases h
 ·split at h
  ·rename_i m2 ho
   have hm:m2.world.drawn=m.world.drawn:=by
    unfold timerOp.opened at ho
    split at ho
    ·split at ho
     ·cases ho; rfl
     ·cases ho
    ·cases ho; rfl
   unfold timerOp.named at h
   split at h
   ·simp only [Except.ok.injEq] at h
    rename_i cc _
    have hk:=jO m2 cc _ _ _ |>.symm.trans (congrArg (fun z=>z.2.world.drawn) h)
    exact hk.symm.trans hm
   ·cases h
  ·cases h
 ·cases h; rfl
theorem vG {rest:Rest} {cases:Array CommCase} (h:waitingAt rest cases w=some w'):w'.drawn=w.drawn:=by
 unfold waitingAt at h
 split at h
 ·split at h
  ·cases h; rfl
  ·cases h
 ·cases h; rfl
theorem wO (p:Program) (rest:Rest) (gs:Array Goroutine) (i:Nat) (g:Goroutine) (cases:Array CommCase) (blocking:Bool) (shape:CommShape) (w:World):jB w.drawn (communicate p rest gs i g cases blocking shape w).1:=by
 unfold communicate
 extract_lets put illMade me other
 split
 ·trivial
 ·split
  ·split
   ·split
    ·exact Nat.le_of_eq (vG (by assumption)).symm
    ·trivial
   ·exact q_r
  ·split
   ·trivial
   ·rename_i hw
    have hk:=qN hw
    dsimp only
    split
    ·split
     ·exact q_l hk (QR (by assumption))
     ·trivial
    ·exact hk
    ·exact hk
    ·split
     ·exact hk
     ·split
      ·rename_i h2
       have hk2:=qN h2;exact q_l hk hk2
      ·trivial
    ·exact hk
    ·exact hk
    ·trivial
theorem Y4 (p:Program) (m:Machine) (k:Nat):jB m.world.drawn (serve p m k):=by
 unfold serve
 split
 ·trivial
 ·exact q_r
 ·dsimp only
  split
  ·trivial
  ·exact q_r
theorem QS (p:Program) (m:Machine) (i:Nat) (listen:Bool):jB m.world.drawn (runT p m i listen).1:=by
 unfold runT
 extract_lets rest world
 split
 extract_lets wake fn pos s ops done
 have hs:qH world.drawn s:=Y3 _ _ _ _ _
 clear_value s
 cases s with
 | ended o w e=>trivial
 | comm g c b sh w e=>exact (wO _ _ _ _ _ _ _ _ _).le hs
 | go g w e=>exact hs
 | spawn g c w e=>exact hs
 | count g w e =>
  dsimp only [done]
  split
  ·trivial
  ·exact hs
 | alone g o w e=>exact hs
 | collect g w e=>exact (Zq _ _ _ _).le hs
 | watch g w e=>exact hs
 | newcoro g c d w e=>exact hs
 | coroswitch g c x w e =>
  dsimp only [done]
  split
  ·exact hs
  ·exact hs
  ·trivial
 | timer g op w e =>
  dsimp only [done]
  split
  ·rename_i h
   exact q_l hs (Nat.le_of_eq (Qg h).symm)
  ·exact hs
  ·trivial
  ·trivial
def QU (d:Nat):Move->Prop
 | .goroutine m _=>d<=m.world.drawn
 | .machine s _=>jB d s
theorem QU.le {d':Nat} {s:Move} (h:QU d s) (hd:d'<=d):QU d' s:=by
 cases s with
 | goroutine m i=>exact q_l hd h
 | machine s o=>exact jB.le h hd
theorem yJ (p:Program) (m:Machine):QU m.world.drawn (askOn p m):=by
 unfold askOn
 extract_lets mono rs ds pick
 have hpick:∀ m,QU m.world.drawn (pick m):=by
  intro m
  dsimp only [pick]
  split
  ·trivial
  ·rename_i h1
   have k1:=qN h1
   split
   ·exact k1
   ·split
    ·trivial
    ·rename_i h2
     have k2:=qN h2;exact q_l k1 k2
 clear_value pick
 split
 ·trivial
 ·rename_i h1
  have k1:=qN h1;clear h1
  extract_lets m1
  split
  ·exact (Y4 _ _ _).le k1
  ·clear_value rs
   cases rs with
   | nil =>
    dsimp only
    split
    ·exact k1
    ·split
     ·exact k1
     ·split
      ·trivial
      ·trivial
   | cons r0 rs' =>
    dsimp only
    split
    ·exact (hpick _).le k1
    ·split
     ·trivial
     ·rename_i h2
      have k2:=qN h2;exact (hpick _).le (q_l k1 k2)
     ·rename_i h2
      have k2:=qN h2;exact q_l k1 k2
     ·rename_i h2
      have k2:=qN h2;exact (hpick _).le (q_l k1 k2)
theorem XP (p:Program) (m:Machine):QU m.world.drawn (ask p m):=by
 unfold ask
 split
 ·split
  ·trivial
  ·rename_i W h1
   have k1:=qN h1;have k2:=Zq p m.gs m.rest W
   split
   ·rename_i m' h3
    rw [h3] at k2;exact (yJ _ _).le (q_l k1 k2)
   ·exact jB.le k2 k1
  ·rename_i h1
   exact (yJ _ _).le (qN h1)
 ·exact yJ _ _
theorem Vs (p:Program) (m:Machine):QU m.world.drawn (move p m):=by
 unfold move
 split
 ·split
  ·exact q_r
  ·trivial
 ·split
  ·split
   ·exact q_r
   ·exact XP p { m with rest:={ m.rest with slice:=none } }
  ·exact XP _ _
theorem Vq (p:Program) (m:Machine):jB m.world.drawn (step p m):=by
 unfold step stepT;have h:=Vs p m
 split
 ·rename_i m' i hm
  rw [hm] at h;exact (QS p m' i true).le h
 ·rename_i s o hm
  rw [hm] at h;exact h
theorem Zp (p:Program):∀ (n:Nat) (m:Machine),jB m.world.drawn (runN p n m)
 | 0,m=>q_r
 | n+1,m=>by
  unfold runN;have h:=Vq p m
  split
  ·rename_i m' hm
   rw [hm] at h;exact (Zp p n m').le h
  ·exact h
theorem yD {p:Program} {m m':Machine} (h:Steps p m m'):m.world.drawn<=m'.world.drawn:=by
 obtain⟨n,hn⟩:=h;have k:=Zp p n m;rw [hn] at k;exact k
theorem Ya {P:Program} {f:FuncId} {args:Array Value} {R:Ending->World->Prop} (h:Calls P f args w R) (hr:∀ e w',R e w'->e≠.outgrown):Calls P f args w fun e w'=>R e w'/\w.drawn<=w'.drawn:=by
 intro cs;obtain⟨e,w',fr,h1,h2,h3⟩:=h cs;refine⟨e,w',fr,⟨h1,?_⟩,h2,h3⟩;cases e with
 | outgrown=>exact absurd rfl (hr _ _ h1)
 | returned v=>exact yD h2
 | panicked c=>exact yD h2
end Go.Proofs.YtphpkhoeplcedaaGreat
namespace Go.Proofs.YtphpkhoeplcedaaGreat
open Go.RowKit Go.Shelf
variable {w w':World} {N n lo hi k g m c d K:Nat} {v:Value} {G:Grd} {q x:Rat}
def Jq:Go.Shelf.Ren:=⟨fun | 6=>168 | 15=>210 | 14=>209 | 28=>236 | 29=>237 | 20=>228 | 21=>229 | 22=>230 | 23=>231 | 24=>232 | 25=>233 | 26=>234 | 27=>235 | 46=>242 | 47=>243 | 48=>244 | 49=>245 | 50=>246 | 57=>247 | n=>n,fun | 22=>45 | 24=>29 | 25=>113 | 3=>3 | 39=>241 | 0=>0 | 53=>152 | 55=>172 | 4=>4 | 46=>256 | 45=>255 | 50=>195 | 5=>5 | 9=>9 | 66=>267 | 70=>271 | 76=>273 | 77=>274 | n=>n,fun | n=>n⟩
theorem q2L:Go.Proofs.SlLaysF0.n6 Tryz.prog Jq:={
 mixed:=by kernel_rfl,
 f6:=⟨Tryz.f168.name,by decide,Tryz.func168.trans (congrArg some (by kernel_rfl))⟩,
 f14:=⟨Tryz.f209.name,by decide,Tryz.func209.trans (congrArg some (by kernel_rfl))⟩,
 f15:=Tryz.func210.trans (congrArg some (by kernel_rfl)),
 f20:=⟨Tryz.f228.name,by decide,Tryz.func228.trans (congrArg some (by kernel_rfl))⟩,
 f21:=⟨Tryz.f229.name,by decide,Tryz.func229.trans (congrArg some (by kernel_rfl))⟩,
 f22:=⟨Tryz.f230.name,by decide,Tryz.func230.trans (congrArg some (by kernel_rfl))⟩,
 f23:=⟨Tryz.f231.name,by decide,Tryz.func231.trans (congrArg some (by kernel_rfl))⟩,
 f24:=⟨Tryz.f232.name,by decide,Tryz.func232.trans (congrArg some (by kernel_rfl))⟩,
 f25:=⟨Tryz.f233.name,by decide,Tryz.func233.trans (congrArg some (by kernel_rfl))⟩,
 f26:=⟨Tryz.f234.name,by decide,Tryz.func234.trans (congrArg some (by kernel_rfl))⟩,
 f27:=⟨Tryz.f235.name,by decide,Tryz.func235.trans (congrArg some (by kernel_rfl))⟩,
 f28:=Tryz.func236.trans (congrArg some (by kernel_rfl)),
 f29:=Tryz.func237.trans (congrArg some (by kernel_rfl)),
 f46:=⟨Tryz.f242.name,by decide,Tryz.func242.trans (congrArg some (by kernel_rfl))⟩,
 f47:=Tryz.func243.trans (congrArg some (by kernel_rfl)),
 f48:=Tryz.func244.trans (congrArg some (by kernel_rfl)),
 f49:=⟨Tryz.f245.name,by decide,Tryz.func245.trans (congrArg some (by kernel_rfl))⟩,
 f50:=⟨Tryz.f246.name,by decide,Tryz.func246.trans (congrArg some (by kernel_rfl))⟩,
 f57:=⟨Tryz.f247.name,by decide,Tryz.func247.trans (congrArg some (by kernel_rfl))⟩,
 t0:=Tryz.underlying0,
 a0:=Tryz.isAgg0,
 z0:=Tryz.sizeOf0,
 v0:=Tryz.zeroValue0,
 t3:=Tryz.underlying3,
 a3:=Tryz.isAgg3,
 z3:=Tryz.sizeOf3,
 v3:=Tryz.zeroValue3,
 t4:=Tryz.underlying4,
 a4:=Tryz.isAgg4,
 z4:=Tryz.sizeOf4,
 v4:=Tryz.zeroValue4,
 t5:=Tryz.underlying5,
 a5:=Tryz.isAgg5,
 z5:=Tryz.sizeOf5,
 v5:=Tryz.zeroValue5,
 t9:=Tryz.underlying9,
 a9:=Tryz.isAgg9,
 z9:=Tryz.sizeOf9,
 v9:=Tryz.zeroValue9,
 t22:=Tryz.underlying45,
 a22:=Tryz.isAgg45,
 z22:=Tryz.sizeOf45,
 v22:=Tryz.zeroValue45,
 t25:=Tryz.underlying113,
 a25:=Tryz.isAgg113,
 z25:=Tryz.sizeOf113,
 v25:=Tryz.zeroValue113,
 t39:=Tryz.underlying241,
 a39:=Tryz.isAgg241,
 z39:=Tryz.sizeOf241,
 v39:=Tryz.zeroValue241,
 t45:=Tryz.underlying255,
 a45:=Tryz.isAgg255,
 z45:=Tryz.sizeOf255,
 v45:=Tryz.zeroValue255,
 t46:=Tryz.underlying256,
 a46:=Tryz.isAgg256,
 z46:=Tryz.sizeOf256,
 v46:=Tryz.zeroValue256,
 t50:=Tryz.underlying195,
 a50:=Tryz.isAgg195,
 z50:=Tryz.sizeOf195,
 v50:=Tryz.zeroValue195,
 t53:=Tryz.underlying152,
 a53:=Tryz.isAgg152,
 z53:=Tryz.sizeOf152,
 v53:=Tryz.zeroValue152,
 t55:=Tryz.underlying172,
 a55:=Tryz.isAgg172,
 z55:=Tryz.sizeOf172,
 v55:=Tryz.zeroValue172,
 t66:=Tryz.underlying267,
 a66:=Tryz.isAgg267,
 z66:=Tryz.sizeOf267,
 v66:=Tryz.zeroValue267,
 t70:=Tryz.underlying271,
 a70:=Tryz.isAgg271,
 z70:=Tryz.sizeOf271,
 v70:=Tryz.zeroValue271,
 t76:=Tryz.underlying273,
 a76:=Tryz.isAgg273,
 z76:=Tryz.sizeOf273,
 v76:=Tryz.zeroValue273,
 t77:=Tryz.underlying274,
 a77:=Tryz.isAgg274,
 z77:=Tryz.sizeOf274,
 v77:=Tryz.zeroValue274 }
open Go.Sort
theorem q1H {W:World} (h:Ext W w') (hd:W.drawn<=w'.drawn):∃ q os',w'=grow (W.drewN q) os':=by
 have hb:Below W.heap.size W w':=h;refine⟨w'.drawn - W.drawn,w'.heap.extract W.heap.size w'.heap.size,?_⟩
 have hheap:w'.heap=W.heap ++ w'.heap.extract W.heap.size w'.heap.size:=by
  apply Array.ext_getElem?
  intro i
  rcases Nat.lt_or_ge i W.heap.size with hi | hi
  ·rw [Array.getElem?_append_left hi];exact hb.block i hi
  ·rw [Array.getElem?_append_right hi,Array.getElem?_extract]
   split
   ·congr 1; omega
   ·rename_i h9
    rw [Array.getElem?_eq_none];omega
 have hdr:w'.drawn=W.drawn+(w'.drawn - W.drawn):=by omega
 show w'={ heap:=W.heap ++ w'.heap.extract W.heap.size w'.heap.size,tape:=W.tape,drawn:=W.drawn+(w'.drawn - W.drawn),os:=W.os,output:=W.output }
 cases w' with
 | mk heap tape drawn os output =>
  simp only at hheap hdr;rw [<-hheap,<-hdr];have h1:=hb.os;have h2:=hb.tape;have h3:=hb.output;simp only at h1 h2 h3;rw [h1,h2,h3]
structure RQ (N:Nat) (w0:World) where
 b:Bool
 A:Option Addr
 n:Nat
 c:Nat
 A':Option Addr
 n':Nat
 c':Nat
 q:Rat
 h:qp N w0 (.agg #[.bool b,.slice A n c,.bool false,.slice A' n' c']) q
 z:Sz q
def RQ.enc {w0:World} (x:RQ N w0):List Value:=[.bool x.b,.slice x.A x.n x.c,.bool false,.slice x.A' x.n' x.c']
def RQ.cf {w0:World} (x y:RQ N w0):Int:=YP x.q y.q
theorem RQ.lt {w0:World} (x y:RQ N w0):ltOf RQ.cf x y=decide (x.q < y.q):=by
 unfold ltOf RQ.cf
 by_cases h:x.q < y.q
 ·rw [q_t h,q_t (cmp_neg.2 h)]
 ·rw [q_f h,q_f (fun h'=>h (cmp_neg.1 h'))]
theorem RQ.swo {w0:World}:SWO (ltOf (RQ.cf (N:=N) (w0:=w0))) where
 irrefl x:=by rw [RQ.lt]; exact q_f (by grind)
 trans x y z h1 h2:=by rw [RQ.lt] at *; simp only [decide_eq_true_eq] at *; grind
 ntrans x y z h1 h2:=by rw [RQ.lt] at *; simp only [decide_eq_false_iff_not] at *; grind
theorem RQ.of {o:Nat} (h:At4 N w g o (raw q)) (hz:Sz q):∃ r:RQ N w,r.q=q/\w.cell? ⟨g,o,none⟩=some (.bool r.b)/\w.cell? ⟨g,o+1,none⟩=some (.slice r.A r.n r.c)/\w.cell? ⟨g,o+2,none⟩=some (.bool false)/\w.cell? ⟨g,o+3,none⟩=some (.slice r.A' r.n' r.c'):=by
 obtain⟨b,A,n,c,A',n',c',h0,h1,h2,h3,hb,y,z⟩:=h.open;exact⟨⟨b,A,n,c,A',n',c',q,qp.mk hb y z,hz⟩,rfl,h0,h1,h2,h3⟩
theorem q0b (w:World) (m:Nat) (lo hi:Nat):Chg lo hi w (Sort.ahead w m):=⟨rfl,rfl,rfl,q_r,fun _ _ _=>rfl⟩
theorem Vh {f:Array Value->Array Value} (h:k≠g):(mapBlock w g f).heap[k]?=w.heap[k]?:=by
 show (w.heap.modify g (onCells f))[k]?=_
 rw [Array.getElem?_modify,if_neg (fun e=>h e.symm)]
theorem WJ {f:Array Value->Array Value} {cs:Array Value} {t:TypeId} {fr:Nat×Nat} (h:w.heap[g]?=some (.cells cs t fr)):(mapBlock w g f).heap[g]?=some (.cells (f cs) t fr):=by
 show (w.heap.modify g (onCells f))[g]?=_
 rw [Array.getElem?_modify,if_pos rfl,h]
 rfl
theorem YK (w:World) (os:Array Obj) (lo hi:Nat):Chg lo hi w (grow w os):=⟨rfl,rfl,rfl,by show w.heap.size<=(w.heap ++ os).size; simp,fun k hk _=>by show (w.heap ++ os)[k]?=_; rw [Array.getElem?_append_left hk]⟩
theorem Xa {α:Type} [Inhabited α] (enc:α->List Value) (k:Nat) (w:World) (g off m:Nat) (d:Array α) (os:Array Obj) (hnu:NoU w g):Chg g (g+1) w (sortWorldK enc k w g off m d os):=by
 refine ((q0b w m _ _).trans ?_).trans (YK _ os _ _);refine⟨rfl,rfl,rfl,?_,fun j hj h=>Vh ?_⟩
 ·show _<=((Sort.ahead w m).heap.modify g _).size
  simp
 ·rintro rfl
  rcases h with h | h | ⟨cs,fr,h⟩
  ·omega
  ·omega
  ·exact hnu cs fr h
def q3L (N g cap n:Nat) (x:Nat->Rat) (w:World) (e:Ending) (w':World):Prop :=
 e=.returned (.tuple #[])/\∃ y:Nat->Rat,xG N w' g cap n y/\Chg g (g+1) w w'/\(∀ i,i < n->∃ j,j < n/\y i=x j)/\(∀ j,j < n->∃ i,i < n/\x j=y i)/\∀ i j,i < j->j < n->y i<=y j
theorem q4 (i r:Nat) (hr:r < 4):(i*4+r) / 4=i/\(i*4+r) % 4=r:=by omega
theorem V5 {cap:Nat} {x:Nat->Rat} (h:xG N w g cap n x) (hz:∀ i,i < n->Sz (x i)) (hn:0 < n) (hn2:n<=100000) :
  Calls Tryz.prog 168 #[.slice (some ⟨g,0,none⟩) n cap,.func (.func 60) #[] #[]] w (q3L N g cap n x w):=by
 have hat:=h.2.2.2
 let E:RQ N w->List Value:=RQ.enc
 have hNg:N<=g:=h.1;have hglt:g < w.heap.size:=h.lt;have hnu:=h.noU
 have hch:∀ i:Fin n,∃ r:RQ N w,r.q=x i.1/\w.cell? ⟨g,i.1*4,none⟩=some (.bool r.b)/\w.cell? ⟨g,i.1*4+1,none⟩=some (.slice r.A r.n r.c)/\w.cell? ⟨g,i.1*4+2,none⟩=some (.bool false)/\w.cell? ⟨g,i.1*4+3,none⟩=some (.slice r.A' r.n' r.c') :=
  fun i=>RQ.of (hat i.1 i.2) (hz i.1 i.2)
 obtain⟨R,hR⟩:=Classical.axiomOfChoice hch
 haveI:Inhabited (RQ N w):=⟨R ⟨0,hn⟩⟩
 let d:Array (RQ N w):=Array.ofFn R
 have hds:d.size=n:=Array.size_ofFn
 have hdg:∀ i (hi:i < n),d[i]! = R ⟨i,hi⟩:=fun i hi=>by
  rw [getElem!_pos d i (by rw [hds]; exact hi)];exact Array.getElem_ofFn _
 have hH:HoldsK E 4 w g 0 d:=by
  intro j hj;rw [size_flatK,hds] at hj;have hi:j / 4 < n:=by omega
  have h9:=hR ⟨j / 4,hi⟩;refine⟨?_,by rw [Nat.zero_add]; exact h.frozen j⟩;rw [get_flatK _ _ _ _ (by rw [hds]; exact hj),hdg _ hi,Nat.zero_add];have hr:j % 4=0\/j % 4=1\/j % 4=2\/j % 4=3:=by omega
  obtain⟨i,hid⟩:∃ i,i=j / 4:=⟨_,rfl⟩
  rcases hr with hr | hr | hr | hr
  ·have e:j=j / 4*4:=by omega
   rw [hr]; rw (config:={ occs:=.pos [1] }) [e]; exact h9.2.1
  ·have e:j=j / 4*4+1:=by omega
   rw [hr]; rw (config:={ occs:=.pos [1] }) [e]; exact h9.2.2.1
  ·have e:j=j / 4*4+2:=by omega
   rw [hr]; rw (config:={ occs:=.pos [1] }) [e]; exact h9.2.2.2.1
  ·have e:j=j / 4*4+3:=by omega
   rw [hr]; rw (config:={ occs:=.pos [1] }) [e]; exact h9.2.2.2.2
 have hcmp:CmpLays Tryz.prog 60 #[] E 4 RQ.cf g 0 d.size w:=by
  intro m os dk hdk u v;have hC:=Xa E 4 w g 0 m dk os hnu;have hc:=jL (u.h.chg hC hNg) (v.h.chg hC hNg) u.z v.z;refine (Ya hc (fun e w' h9=>by obtain⟨rfl,-⟩:=h9; exact Ending.noConfusion)).mono ?_;rintro e w' ⟨⟨rfl,e1⟩,hdr⟩;exact⟨rfl,q1H e1 hdr⟩
 have hcon:=AnyQ.slices_SortFunc q2L 4 Tryz.isAgg29 Tryz.sizeOf29 E (fun _=>rfl) (fun x v hv=>by simp [E,RQ.enc] at hv; rcases hv with rfl | rfl | rfl | rfl <;> rfl) RQ.cf RQ.swo 60 #[] g 0 cap d w (enters_of Tryz.func60 (by kernel_rfl) rfl) hcmp hH hglt (by omega);rw [hds] at hcon;refine Calls.mono hcon ?_;rintro e w' ⟨rfl,d',m,os,⟨hp1,-,hp2⟩,hs,rfl⟩;have hd':d'.size=n:=by rw [hp1,hds]
 have hC:=Xa E 4 w g 0 m d' os hnu;have hHK:=holdsK_sortWorldK_c E 4 w g 0 d d' m os hH hglt hp1
 have hperm:d'.toList.Perm d.toList:=by
  have e1:d'.extract 0 n=d':=by rw [<-hd']; simp
  have e2:d.extract 0 n=d:=by rw [<-hds]; simp
  rw [e1,e2] at hp2;exact hp2
 refine⟨rfl,fun i=>(d'[i]!).q,⟨hNg,h.2.1,?_,fun i hi=>?_⟩,hC,fun i hi=>?_,fun j hj=>?_,fun i j hij hj=>?_⟩
 ·obtain⟨cs,hcs,hcz⟩:=h.2.2.1;refine⟨putCells id 0 (flatK E 4 d') cs,?_,by unfold putCells; rw [Array.size_mapIdx]; exact hcz⟩;have h1:(Sort.ahead w m).heap[g]?=some (.cells cs 29 (0,0)):=hcs;have h2:(putRowK E 4 (Sort.ahead w m) g 0 d').heap[g]?=some (.cells (putCells id 0 (flatK E 4 d') cs) 29 (0,0)):=WJ h1
  show (grow (putRowK E 4 (Sort.ahead w m) g 0 d') os).heap[g]?=_
  rw [<-h2];exact (YK (putRowK E 4 (Sort.ahead w m) g 0 d') os 0 0).block g (qI h2) (.inr (.inl (Nat.zero_le _)))
 ·have hcell:∀ r,r < 4->(sortWorldK E 4 w g 0 m d' os).cell? ⟨g,i*4+r,none⟩=some ((E d'[i]!)[r]!):=by
   intro r hr;have h9:=(hHK (i*4+r) (by rw [size_flatK,hd']; omega)).1;rw [Nat.zero_add,get_flatK _ _ _ _ (by rw [hd']; omega),(q4 i r hr).1,(q4 i r hr).2] at h9;exact h9
  have hg:=(d'[i]!).h.chg hC hNg;obtain⟨s,t,e,g1,g2⟩:=hg;injection e with e
  simp only [Array.mk.injEq,List.cons.injEq,and_true] at e;obtain⟨e0,e1,e2,e3⟩:=e;refine⟨s,t,?_,?_,?_,?_,g1,g2⟩
  ·rw [<-e0]; exact hcell 0 (by omega)
  ·rw [<-e1]; exact hcell 1 (by omega)
  ·exact hcell 2 (by omega)
  ·rw [<-e3]; exact hcell 3 (by omega)
 ·have hm:d'[i]!∈d.toList:=by
   refine hperm.mem_iff.1 ?_;rw [getElem!_pos d' i (by omega)];exact Array.getElem_mem_toList _
  obtain⟨j,hj,hje⟩:=List.getElem_of_mem hm;have hj':j < n:=by simpa [hds] using hj
  refine⟨j,hj',?_⟩
  show (d'[i]!).q=x j
  rw [<-hje,Array.getElem_toList,<-getElem!_pos d j (by omega),hdg j hj'];exact (hR ⟨j,hj'⟩).1
 ·have hm:d[j]!∈d'.toList:=by
   refine hperm.mem_iff.2 ?_;rw [getElem!_pos d j (by omega)];exact Array.getElem_mem_toList _
  obtain⟨i,hi,hie⟩:=List.getElem_of_mem hm;have hi':i < n:=by simpa [hd'] using hi
  refine⟨i,hi',?_⟩;have h9:=(hR ⟨j,hj⟩).1;rw [<-hdg j hj,<-hie,Array.getElem_toList,<-getElem!_pos d' i (by omega)] at h9;exact h9.symm
 ·have:=hs i j (Nat.zero_le _) hij hj;rw [RQ.lt] at this;have:=of_decide_eq_false this
  grind
end Go.Proofs.YtphpkhoeplcedaaGreat
namespace Go.Proofs.YtphpkhoeplcedaaGreat
open Go.RowKit
variable {w w':World} {N n lo hi k g m c d K:Nat} {v:Value} {G:Grd} {q x:Rat}
theorem o_eq {v':Value} {y:Rat} (h:qp N w v x) (h':qp N w v' y) (hz:Sz x) (hz':Sz y) :
  Calls Tryz.prog 170 #[v,v'] w (zG w (.bool (decide (x=y)))):=by
 obtain⟨b,hb⟩:=qf (decide (x=y));rw [<-hb.out];have hI:=h;have hI':=h';have HZ:=q_h hz;have HZ':=q_h hz';obtain⟨m1,X1,i1,d1,X2,i2,d2,rfl,hm1,gx1,gx2⟩:=h.parts;obtain⟨m2,Y1,i3,d3,Y2,i4,d4,rfl,hm2,gy1,gy2⟩:=h'.parts
 have HB:Hid (((x.num*y.den - y.num*x.den).sign == 0)=b):=by
  rw [Hid,hb.out];have h1:=wW (x:=x) (y:=y);have h2:=cmp_neg (x:=x) (y:=y);unfold YP at h1 h2;have h3:=Zu (x:=x) (y:=y);unfold YP at h3
  by_cases e:x=y
  ·rw [decide_eq_true e,beq_iff_eq];have:=h1.2 (by grind);have:=h3.2 (by grind);omega
  ·rw [decide_eq_false e,beq_eq_false_iff_ne];intro e9;exact e (by have:=h1.1 (by omega); have:=h3.1 (by omega); grind)
 obtain⟨s,hs⟩:=qf (x.num*y.den - y.num*x.den).sign;rw [<-hs.out] at HB;clear hz hz' h h' gx1 gx2 gy1 gy2 hb;go_enter Tryz.func170,Tryz.ntmps170;go_wp2_with (go_at_call 60; refine q_o ?_);refine kL ?_;intro W hE hsz B0 B1;refine (jL (hI.ext hE) (hI'.ext hE) HZ.out HZ'.out).mono ?_;rw [<-hs.out];rintro e w1 ⟨rfl,e1⟩;go_wp2;go_ret;exact⟨qo HB.out,hE.trans e1⟩
theorem Jt {P:Program} (w:World) (t e ty:TypeId) (z:Value) (ht:P.underlying t=some (.slice e)) (hv:∀ w,(zeroValue e).run P w=.ok z w) (h1:∀ u∈z.cells.toList,u.oneCell'=true) (b o m c:Nat) (hm:0 < m)
  (hc:∀ j,j < m*z.cells.size->(w.cell? ⟨b,o+j,none⟩).isSome=true) (hf:∀ j,j < m*z.cells.size->w.frozen? ⟨b,o+j,none⟩=false) :
  (Builtin.clear_ #[t] ty #[.slice (some ⟨b,o,none⟩) m c]).run P w=.ok (.tuple #[]) (w.setCells b o (Builtin.zeroCells z.cells m).toList):=by
 have hsz:(Builtin.zeroCells z.cells m).toList.length=m*z.cells.size:=by unfold Builtin.zeroCells; simp
 have hone:∀ u∈(Builtin.zeroCells z.cells m).toList,u.oneCell'=true:=by
  intro u hu;unfold Builtin.zeroCells at hu;simp only [Array.toList_map,List.mem_map] at hu;obtain⟨i,hi,rfl⟩:=hu;have hi':i < m*z.cells.size:=by simpa using hi
  have hs:0 < z.cells.size:=by
   rcases Nat.eq_zero_or_pos z.cells.size with h | h
   ·rw [h] at hi'; omega
   ·exact h
  rw [getElem!_pos z.cells _ (Nat.mod_lt _ hs)];exact h1 _ (Array.getElem_mem_toList _)
 have hst:=run_storeCells_cells (P:=P) b o (Builtin.zeroCells z.cells m).toList 0 w (by rw [hsz]; simpa using hc) (by rw [hsz]; simpa using hf) hone;simp only [Nat.add_zero] at hst;obtain⟨k,rfl⟩:∃ k,m=k+1:=⟨m - 1,by omega⟩
 simp [Builtin.clear_,run_underlying ht,hv,hst]
theorem VI (w:World):(zeroValue 29).run Tryz.prog w=.ok (.agg #[.bool false,.slice none 0 0,.bool false,.slice none 0 0]) w:=by kernel_rfl
theorem Z8 {cap:Nat} {z:Nat->Rat} (ty:TypeId) (h:xG N w g cap n z) (hk:k < n) :
  ∃ w',(Builtin.clear_ #[45] ty #[.slice (some ⟨g,k*4,none⟩) (n - k) c]).run Tryz.prog w=.ok (.tuple #[]) w'/\Chg g (g+1) w w'/\xG N w' g cap k z:=by
 obtain⟨hN,hnc,⟨cs,hcs,hsz⟩,hat⟩:=h;have hT:NoU w g:=NoU.mk hcs (by decide)
 have hrun:=Jt (P:=Tryz.prog) w 45 29 ty (.agg #[.bool false,.slice none 0 0,.bool false,.slice none 0 0]) Tryz.underlying45 VI (List.all_eq_true.1 (by rfl)) g (k*4) (n - k) c (by omega)
  (fun j hj=>by
   have h9:j < (n - k)*4:=hj
   rw [qg hcs,Array.getElem?_eq_getElem (by omega)]; rfl) (fun j _=>zB hcs _)
 obtain⟨w',hw'⟩:∃ w',w'=w.setCells g (k*4) (Builtin.zeroCells (Value.cells (.agg #[.bool false,.slice none 0 0,.bool false,.slice none 0 0])) (n - k)).toList:=⟨_,rfl⟩
 have U:Upd g w w':=by rw [hw']; exact X4 g _ _ w w (Upd.refl g w)
 obtain⟨cs1,hb1,hs1⟩:∃ cs1,w'.heap[g]?=some (.cells cs1 29 (0,0))/\cs1.size=cs.size:=by rw [hw']; exact XV g _ _ _ _ cs w hcs
 have hout:∀ j,j < k*4->w'.cell? ⟨g,j,none⟩=w.cell? ⟨g,j,none⟩:=fun j hj=>by
  rw [hw']; exact World.cell?_setCells_out g _ _ w ⟨g,j,none⟩ (fun _ _=>.inl (by simpa using hj))
 have hC:Chg g (g+1) w w':=U.chg hT;refine⟨w',by rw [hrun,hw'],hC,hN,by omega,⟨cs1,hb1,by omega⟩,fun j hj=>?_⟩;obtain⟨s,t,h1,h2,h3,h4,h5,h6⟩:=hat j (by omega);exact⟨s,t,by rw [hout _ (by omega)]; exact h1,by rw [hout _ (by omega)]; exact h2,by rw [hout _ (by omega)]; exact h3,by rw [hout _ (by omega)]; exact h4,h5.chg hC hN,h6.chg hC hN⟩
theorem Z5 {ops:Array Oper} {rest:List Oper} {o:Oper} {a:Act} {Q:Exit->Act->World->Prop}
  (hg:o.guard=none) (x:Operand) (t:TypeId) (hop:o.op=Op.call { callee:=Callee.builtin Builtin.clear,args:=#[x],argTypes:=#[t] })
  (u:Value) (hx:a.eval x=u) {v':Value} (hr:(Builtin.clear_ #[t] o.type #[u]).run Tryz.prog w=.ok v' w') (hK:wpList Tryz.prog ops Q rest (a.put o.dst v') w') :
  wpList Tryz.prog ops Q (o :: rest) a w:=by
 refine wpList_plain hg fun K hK'=>?_
 unfold Oper.wp;simp [execOp,hop,resolve,invoke,builtin,hx,hr,Result.andThen]
 exact hK' _ _ hK
def KX (N g cap n:Nat) (x:Nat->Rat) (kw p:Nat) (w:World):Prop :=
 ∃ z,xG N w g cap n z/\(∀ i,p<=i+1->i < n->z i=x i)/\(∀ i,i+1 < kw->z i < z (i+1))/\(∀ i,i < kw->∃ j,j < p/\z i=x j)/\(∀ j,j < p->∃ i,i < kw/\x j=z i)/\z (kw - 1)=x (p - 1)
theorem KX.skip {cap kw p:Nat} {x:Nat->Rat} (h:KX N g cap n x kw p w) (hp:1<=p) (hk:1<=kw) (e:x p=x (p - 1)):KX N g cap n x kw (p+1) w:=by
 obtain⟨z,h1,h2,h3,h4,h5,h6⟩:=h;refine⟨z,h1,fun i hi hn=>h2 i (by omega) hn,h3,fun i hi=>?_,fun j hj=>?_,by rw [Nat.add_sub_cancel,e]; exact h6⟩
 ·obtain⟨j,hj,hz⟩:=h4 i hi;exact⟨j,by omega,hz⟩
 ·by_cases hjp:j < p
  ·exact h5 j hjp
  ·obtain rfl:j=p:=by omega
   exact⟨kw - 1,by omega,by rw [h6]; exact e⟩
theorem KX.put {cap kw p:Nat} {x z:Nat->Rat} (h2:∀ i,p<=i+1->i < n->z i=x i) (h3:∀ i,i+1 < kw->z i < z (i+1)) (h4:∀ i,i < kw->∃ j,j < p/\z i=x j) (h5:∀ j,j < p->∃ i,i < kw/\x j=z i) (h6:z (kw - 1)=x (p - 1)) (h':xG N w' g cap n (upd z kw (x p))) (hk:1<=kw) (hkp:kw+1<=p) (e:x (p - 1) < x p):KX N g cap n x (kw+1) (p+1) w':=by
 refine⟨_,h',fun i hi hn=>?_,fun i hi=>?_,fun i hi=>?_,fun j hj=>?_,by rw [Nat.add_sub_cancel,Nat.add_sub_cancel]; exact upd_same _ _ _⟩
 ·rw [upd_ne _ _ (by omega)]; exact h2 i (by omega) hn
 ·by_cases hik:i+1=kw
  ·rw [hik,upd_same,upd_ne _ _ (by omega),show i=kw - 1 by omega,h6]; exact e
  ·rw [upd_ne _ _ (by omega),upd_ne _ _ (by omega)]; exact h3 i (by omega)
 ·by_cases hik:i=kw
  ·subst hik; exact⟨p,by omega,upd_same _ _ _⟩
  ·obtain⟨j,hj,hz⟩:=h4 i (by omega);exact⟨j,by omega,by rw [upd_ne _ _ hik]; exact hz⟩
 ·by_cases hjp:j < p
  ·obtain⟨i,hi,hz⟩:=h5 j hjp;exact⟨i,by omega,by rw [upd_ne _ _ (by omega)]; exact hz⟩
  ·obtain rfl:j=p:=by omega
   exact⟨kw,by omega,by rw [upd_same]⟩
def q3P (N g cap n:Nat) (x:Nat->Rat) (w:World) (e:Ending) (w':World):Prop :=
 ∃ m y,e=.returned (.slice (some ⟨g,0,none⟩) m cap)/\xG N w' g cap m y/\Qy g w w'/\1<=m/\m<=n/\(∀ i,i < m->∃ j,j < n/\y i=x j)/\(∀ j,j < n->∃ i,i < m/\x j=y i)/\∀ i,i+1 < m->y i < y (i+1)
theorem V7 {cap:Nat} {x:Nat->Rat} (h:xG N w g cap n x) (hcap:cap<=maxLen) (hz:∀ i,i < n->Sz (x i)) (hn:2<=n) (hn2:n<=100000) (hs:∀ i j,i < j->j < n->x i<=x j) :
  Calls Tryz.prog 169 #[.slice (some ⟨g,0,none⟩) n cap,.func (.func 170) #[] #[]] w (q3P N g cap n x w):=by
 have HR:=q_h h;have HZ:=q_h hz;have HS:=q_h hs;have hNg:N<=g:=h.1;have hnc:n<=cap:=h.2.1;have hgl:g < w.heap.size:=h.lt;unfold maxLen at hcap;clear h hz hs;have t0:decide ((n:Int) < 2)=false:=q_f (by omega);go_enter Tryz.func169,Tryz.ntmps169;go_wp2;clear t0
 go_loopw [5] (fun iv wr=>∃ k:Nat,1<=k/\k<=n/\iv=.int .i64 (k:Int)/\Hid (∀ i,i+1 < k->x i < x (i+1))/\Ext w wr) (fun iv _=>n - (intOf iv).toNat)
 case atStart=>exact⟨1,by omega,by omega,rfl,fun i hi=>absurd hi (by omega),Ext.refl w⟩
 case round =>
  obtain⟨k,hk1,hkn,rfl,HA,hE⟩:=hrel;have hRr:=HR.out.ext hE
  by_cases hlt:k < n
  case neg =>
   obtain rfl:k=n:=by omega
   have t1:decide ((k:Int) < (k:Int))=false:=q_f (by omega);have HRr:=q_h hRr;clear hRr;go_wp2;go_ret;exact⟨k,x,rfl,HRr.out,hE.chgU _,by omega,q_r,fun i hi=>⟨i,hi,rfl⟩,fun i hi=>⟨i,hi,rfl⟩,HA.out⟩
  have t1:decide ((k:Int) < (n:Int))=true:=q_t (by omega);obtain⟨k',hk'⟩:∃ k',k=k'+1:=⟨k - 1,by omega⟩
  have HK:=q_h hk';have hk'n:k' < n:=by omega
  have hw1:IntKind.i64.wrap ((k:Int) - 1)=(k':Int):=by rw [show (k:Int) - 1=(k':Int) by omega]; exact IntWalk.i64_in _ (by omega)
  have hw2:IntKind.i64.wrap ((k:Int)+1)=(k:Int)+1:=IntWalk.i64_in _ (by omega);clear hk';go_upto_region 6 with (fail);obtain⟨na,Aa,ka,ca,A'a,k'a,c'a,a0,a1,a2,a3,hRa⟩:=(hRr.2.2.2 k hlt).opn;obtain⟨nb,Ab,kb,cb,A'b,k'b,c'b,b0,b1,b2,b3,hRb⟩:=(hRr.2.2.2 k' hk'n).opn;have HRr:=q_h hRr;clear hRr;obtain⟨eb,heb⟩:=qf (decide (x k=x k'));refine jE [Mn.eq (.func (.func 170) #[] #[]),Mn.eq (.slice (some ⟨g,0,none⟩) n cap),Mn.i (k:Int),Mn.q g (k*4),Mn.rat N (x k),Mn.eq (.slice (some ⟨g,0,none⟩) n cap),Mn.i (k:Int),Mn.i (k':Int),Mn.q g (k'*4),Mn.rat N (x k'),Mn.t eb] (sM [18,19,20,21,22,23,24,25,26,27,28]) [] (rQ 11 0) 0 (by kernel_rfl) ?_ ?_
  ·show ∀ i,i < 11->_
   iterate 11 refine fs ?_ ?_
   ·exact fz
   all_goals intro hl; clear hl; refine stp rfl ?_; intro ac wi eI hB hA K hK
   have o1:=oOf (hB 1) rfl
   rotate_left
   have o0:=oOf (hB 0) rfl
   rotate_left
   have o5:=oOf (hB 5) rfl
   rotate_left
   obtain⟨_,s19,rfl⟩:=hA 1 19;obtain⟨_,s20,rfl⟩:=hA 2 20
   rotate_left
   obtain⟨_,s21,rfl⟩:=hA 3 21;clear hB hA;have cc0:=eI.cell a0;have cc1:=eI.cell a1;have cc2:=eI.cell a2;have cc3:=eI.cell a3
   ·go_simp;exact q_k hK (hRa.ext eI)
   have o0:=oOf (hB 0) rfl
   rotate_left
   have o5:=oOf (hB 5) rfl
   rotate_left
   obtain⟨_,s24,rfl⟩:=hA 6 24
   rotate_left
   obtain⟨_,s23,rfl⟩:=hA 5 23;obtain⟨_,s25,rfl⟩:=hA 7 25
   rotate_left
   obtain⟨_,s26,rfl⟩:=hA 8 26;clear hB hA;have cc0:=eI.cell b0;have cc1:=eI.cell b1;have cc2:=eI.cell b2;have cc3:=eI.cell b3
   ·go_simp;exact q_k hK (hRb.ext eI)
   obtain⟨_,s18,rfl⟩:=hA 0 18;obtain⟨x22,s22,j22⟩:=hA 4 22;replace j22:Mn.p (Mn.rat N (x k)) x22 wi:=j22;obtain⟨x27,s27,j27⟩:=hA 9 27;replace j27:Mn.p (Mn.rat N (x k')) x27 wi:=j27;clear hB hA
   ·go_simp;refine (o_eq j22 j27 (HZ.out k hlt) (HZ.out k' hk'n)).mono ?_;rw [<-heb.out];rintro e wj ⟨rfl,ej⟩;go_wp2_with fail;exact hK.out _ _ ej rfl
   all_goals clear hB hA; go_simp; exact q_k hK rfl
  intro vals wz eZ hJ;have J28:vals 10=_:=hJ 10 (by decide) (by decide);clear hJ;simp only [pr,Nat.reduceAdd,J28];clear J28;refine qi (by kernel_rfl) ?_ _;replace hE:=hE.trans eZ;replace HRr:Hid (xG N wz g cap n x):=HRr.out.ext eZ;clear a0 a1 a2 a3 b0 b1 b2 b3 hRa hRb eZ;cases eb with
  | false =>
   have HA2:Hid (∀ i,i+1 < k+1->x i < x (i+1)):=by
    intro i hi
    by_cases hik:i+1 < k
    ·exact HA.out i hik
    ·obtain rfl:i=k':=by have:=HK.out; omega
     have h1:=HS.out i k (by have:=HK.out; omega) hlt;have h2:=of_decide_eq_false heb.out.symm;rw [<-HK.out]
     grind
   go_wp2;go_roundw
   case rel=>exact⟨k+1,by omega,by omega,by go_num,HA2,hE⟩
   case measure=>simp [intOf]; omega
  | true =>
   have HEQ:Hid (x k=x k'):=of_decide_eq_true (p:=x k=x k') heb.out.symm;have hck:¬ cap=k:=by omega
   have hkc:k<=cap:=by omega
   have hw3:IntKind.i64.wrap ((n:Int) - (k:Int))=((n - k:Nat):Int):=by rw [show (n:Int) - (k:Int)=((n - k:Nat):Int) by omega]; exact IntWalk.i64_in _ (by omega)
   have hw4:IntKind.i64.wrap ((cap:Int) - (k:Int))=((cap - k:Nat):Int):=by rw [show (cap:Int) - (k:Int)=((cap - k:Nat):Int) by omega]; exact IntWalk.i64_in _ (by omega)
   clear t1 hw1 hw2 hk1;go_wp2;obtain⟨L,hL⟩:=qf (n - k);rw [<-hL.out] at hw3 ⊢;have hL1:k+L<=n:=by have:=hL.out; omega
   have hL2:n<=k+L:=by have:=hL.out; omega
   have HI0:KX N g cap n x k (k+1) wz:=by
    have hk0:=HK.out;refine⟨x,HRr.out,fun i _ _=>rfl,HA.out,fun i hi=>⟨i,by omega,rfl⟩,fun j hj=>?_,?_⟩
    ·by_cases hjk:j < k
     ·exact⟨j,hjk,rfl⟩
     ·obtain rfl:j=k:=by omega
      exact⟨k',by omega,HEQ.out⟩
    ·rw [Nat.add_sub_cancel,HEQ.out,show k - 1=k' by omega]
   clear HRr
   go_loopw [5,7] (fun v5 v7 wr=>∃ kw q:Nat,v5=.int .i64 (kw:Int)/\v7=.int .i64 (q:Int)/\1<=q/\q<=L/\1<=kw/\kw+1<=k+q/\KX N g cap n x kw (k+q) wr/\Qy g w wr) (fun _ v7 _=>L - (intOf v7).toNat)
   case atStart=>exact⟨k,1,rfl,rfl,q_r,by omega,by have:=HK.out; omega,by omega,HI0,hE.chgU _⟩
   case round =>
    clear HI0 hE;obtain⟨kw,q,rfl,rfl,hq1,hqL,hkw1,hkw2,HI,hC⟩:=hrel
    by_cases hlt2:q < L
    case neg =>
     obtain rfl:q=L:=by omega
     have t1:decide ((q:Int) < (q:Int))=false:=q_f (by omega);obtain⟨z,k1,k2,k3,k4,k5,k6⟩:=HI;have hck2:¬ cap=kw:=by omega
     have hkc2:kw<=cap:=by omega
     have hkn2:kw < n:=by omega
     obtain⟨w9,hrun,C9,hR9⟩:=Z8 (c:=cap - kw) 0 k1 hkn2;have H1:=q_h k3;have H2:=q_h k4;have H3:=q_h k5;have HP:Hid (k+q=n):=by rw [Hid]; omega
     have HR9:=q_h hR9;have HC9:=q_h C9;have HRUN:=q_h hrun;clear k1 k2 k3 k4 k5 k6 hR9 C9 hrun;go_wp2_with (refine Z5 rfl _ _ rfl _ rfl HRUN.out ?_);go_wp2;go_ret;refine⟨kw,z,rfl,HR9.out,hC.trans (HC9.out.u (q_r)),hkw1,by omega,fun i hi=>?_,fun j hj=>?_,H1.out⟩
     ·obtain⟨j,hj,hz⟩:=H2.out i hi;exact⟨j,by have:=HP.out; omega,hz⟩
     ·exact H3.out j (by have:=HP.out; omega)
    have t1:decide ((q:Int) < (L:Int))=true:=q_t (by omega);obtain⟨q',hq'⟩:∃ q',q=q'+1:=⟨q - 1,by omega⟩
    have HQ:=q_h hq';have hw1:IntKind.i64.wrap ((q:Int) - 1)=(q':Int):=by rw [show (q:Int) - 1=(q':Int) by omega]; exact IntWalk.i64_in _ (by omega)
    have hw2:IntKind.i64.wrap ((q:Int)+1)=(q:Int)+1:=IntWalk.i64_in _ (by omega);have hw5:IntKind.i64.wrap ((kw:Int)+1)=(kw:Int)+1:=IntWalk.i64_in _ (by omega);have hq'L:q' < L:=by omega
    obtain⟨z,hRz,k2,k3,k4,k5,k6⟩:=HI
    have hPa:At4 N wr g (k*4+q*4) (raw (x (k+q))):=by
     have:=hRz.2.2.2 (k+q) (by omega);rw [k2 _ (by omega) (by omega),Nat.add_mul] at this;exact this
    have hPb:At4 N wr g (k*4+q'*4) (raw (x (k+q'))):=by
     have:=hRz.2.2.2 (k+q') (by omega);rw [k2 _ (by omega) (by omega),Nat.add_mul] at this;exact this
    have HRz:=q_h hRz;have H2:=q_h k2;have H3:=q_h k3;have H4:=q_h k4;have H5:=q_h k5;have H6:=q_h k6;have hpn:k+q < n:=by omega
    have hpn':k+q' < n:=by omega
    clear hRz k2 k3 k4 k5 k6 hq';go_upto_region 11 with (fail);obtain⟨na,Aa,ka,ca,A'a,k'a,c'a,a0,a1,a2,a3,hRa⟩:=(hPa).opn;obtain⟨nb,Ab,kb,cb,A'b,k'b,c'b,b0,b1,b2,b3,hRb⟩:=(hPb).opn;clear hPb;obtain⟨eb,heb⟩:=qf (decide (x (k+q)=x (k+q')));refine jE [Mn.eq (.func (.func 170) #[] #[]),Mn.eq (.slice (some ⟨g,k*4,none⟩) L (cap - k)),Mn.i (q:Int),Mn.q g (k*4+q*4),Mn.rat N (x (k+q)),Mn.eq (.slice (some ⟨g,k*4,none⟩) L (cap - k)),Mn.i (q:Int),Mn.i (q':Int),Mn.q g (k*4+q'*4),Mn.rat N (x (k+q')),Mn.t eb,Mn.t (!eb)] (sM [38,39,40,41,42,43,44,45,46,47,48,49]) [] (rQ 12 0) 0 (by kernel_rfl) ?_ ?_
    ·show ∀ i,i < 12->_
     iterate 12 refine fs ?_ ?_
     ·exact fz
     all_goals intro hl; clear hl; refine stp rfl ?_; intro ac wi eI hB hA K hK
     have o1:=oOf (hB 1) rfl
     rotate_left
     have o6:=oOf (hB 6) rfl
     rotate_left
     have o7:=oOf (hB 7) rfl
     rotate_left
     obtain⟨_,s39,rfl⟩:=hA 1 39;obtain⟨_,s40,rfl⟩:=hA 2 40
     rotate_left
     obtain⟨_,s41,rfl⟩:=hA 3 41;clear hB hA;have cc0:=eI.cell a0;have cc1:=eI.cell a1;have cc2:=eI.cell a2;have cc3:=eI.cell a3
     ·go_simp;exact q_k hK (hRa.ext eI)
     have o6:=oOf (hB 6) rfl
     rotate_left
     have o7:=oOf (hB 7) rfl
     rotate_left
     obtain⟨_,s44,rfl⟩:=hA 6 44
     rotate_left
     obtain⟨_,s43,rfl⟩:=hA 5 43;obtain⟨_,s45,rfl⟩:=hA 7 45
     rotate_left
     obtain⟨_,s46,rfl⟩:=hA 8 46;clear hB hA;have cc0:=eI.cell b0;have cc1:=eI.cell b1;have cc2:=eI.cell b2;have cc3:=eI.cell b3
     ·go_simp;exact q_k hK (hRb.ext eI)
     obtain⟨_,s38,rfl⟩:=hA 0 38;obtain⟨x42,s42,j42⟩:=hA 4 42;replace j42:Mn.p (Mn.rat N (x (k+q))) x42 wi:=j42;obtain⟨x47,s47,j47⟩:=hA 9 47;replace j47:Mn.p (Mn.rat N (x (k+q'))) x47 wi:=j47;clear hB hA
     ·go_simp;refine (o_eq j42 j47 (HZ.out (k+q) hpn) (HZ.out (k+q') hpn')).mono ?_;rw [<-heb.out];rintro e wj ⟨rfl,ej⟩;go_wp2_with fail;exact hK.out _ _ ej rfl
     obtain⟨_,s48,rfl⟩:=hA 10 48
     rotate_left
     all_goals clear hB hA; go_simp; exact q_k hK rfl
    intro vals wz eZ hJ;have J49:vals 11=_:=hJ 11 (by decide) (by decide);clear hJ;simp only [pr,Nat.reduceAdd,J49];clear J49;refine qi (by kernel_rfl) ?_ _;replace hC:=hC.trans (eZ.chgU g);replace HRz:Hid (xG N wz g cap n z):=HRz.out.ext eZ;replace hPa:=hPa.ext eZ;clear a0 a1 a2 a3 b0 b1 b2 b3 hRb hRa eZ;cases eb with
    | true =>
     have HE2:Hid (x (k+q)=x (k+q - 1)):=by
      have h1:=of_decide_eq_true (p:=x (k+q)=x (k+q')) heb.out.symm;rw [Hid,h1]
      congr 1
      have:=HQ.out;omega
     clear hPa;go_wp2;go_roundw
     case rel =>
      refine⟨kw,q+1,rfl,by go_num,by omega,by omega,hkw1,by omega,?_,hC⟩;exact KX.skip (p:=k+q) ⟨z,HRz.out,H2.out,H3.out,H4.out,H5.out,H6.out⟩ (by omega) hkw1 HE2.out
     case measure=>simp [intOf]; omega
    | false =>
     have HE2:Hid (x (k+q - 1) < x (k+q)):=by
      have h1:=of_decide_eq_false (p:=x (k+q)=x (k+q')) heb.out.symm;have h2:=HS.out (k+q') (k+q) (by have:=HQ.out; omega) hpn;rw [Hid,show k+q - 1=k+q' by have:=HQ.out; omega]
      grind
     obtain⟨n9,A9,k9,c9,A9',k9',c9',a0,a1,a2,a3,hb9,y9,z9⟩:=hPa.open;have hRw:=HRz.out;obtain⟨u0,v0⟩:=hRw.there (o:=kw*4) (by omega);obtain⟨u1,v1⟩:=hRw.there (o:=kw*4+1) (by omega);obtain⟨u2,v2⟩:=hRw.there (o:=kw*4+2) (by omega);obtain⟨u3,v3⟩:=hRw.there (o:=kw*4+3) (by omega);have f0:=hRw.frozen (kw*4);have f1:=hRw.frozen (kw*4+1);have f2:=hRw.frozen (kw*4+2);have f3:=hRw.frozen (kw*4+3);have hkwn:kw < n:=by omega
     clear hRw;go_upto_region 13 with (fail);obtain⟨w6,E6,C6,hs6,hr6⟩:=HRz.out.set (i:=kw) (q:=x (k+q)) (by omega) (by omega) hb9 y9 z9;rw [E6];rw [show max n (kw+1)=n by omega] at hr6;have HR6:=q_h hr6;have hC6:=hC.trans (C6.u (q_r));clear E6 C6 hs6 hr6 v0 v1 v2 v3 f0 f1 f2 f3 a0 a1 a2 a3 hb9 y9 z9 hC hPa;go_wp2;go_roundw
     case rel =>
      refine⟨kw+1,q+1,by go_num,by go_num,by omega,by omega,by omega,by omega,?_,hC6⟩;exact KX.put (p:=k+q) H2.out H3.out H4.out H5.out H6.out HR6.out hkw1 hkw2 HE2.out
     case measure=>simp [intOf]; omega
end Go.Proofs.YtphpkhoeplcedaaGreat
namespace Go.Proofs.YtphpkhoeplcedaaGreat
variable {w w':World} {N n lo hi k g m c d K:Nat} {v:Value} {G:Grd} {q x:Rat}
theorem JK {p u:Rat} {low high k:Int} (hpq:p≠q) (h0:0 < u) (h1:u < 1) (hk0:low<=k) (hk1:k<=high) (hu:lin p q u=(k:Rat)):u∈KY p q low high:=by
 have hd:q - p≠0:=by grind
 unfold KY;rw [if_neg hd];unfold XC;rw [List.mem_filter,List.mem_map];refine⟨⟨(k - low).toNat,by rw [List.mem_range]; omega,?_⟩,by simp [h0,h1]⟩;unfold q1p;rw [show low+((k - low).toNat:Int)=k by omega,<-hu];have e:lin p q u - p=u*(q - p):=by unfold lin; grind
 rw [e,Rat.mul_div_cancel hd]
theorem q3e {p u:Rat} {low high:Int} (h:u∈KY p q low high):0 < u/\u < 1:=by
 unfold KY at h
 split at h
 ·cases h
 ·unfold XC at h;rw [List.mem_filter] at h;simpa using h.2
theorem yZ (p q:Rat) (low high:Int):(KY p q low high).length<=(high+1 - low).toNat:=by
 unfold KY
 split
 ·simp
 ·exact YE _ _ _ _
theorem JL {p u:Rat} {low high:Int} (hp:Ht K p) (hq:Ht K q) (hl : -200<=low) (hh:high<=200) (h:u∈KY p q low high):Ht (3*K+11) u:=by
 unfold KY at h
 split at h
 ·cases h
 ·unfold XC at h;rw [List.mem_filter,List.mem_map] at h;obtain⟨⟨i,hi,rfl⟩,-⟩:=h;rw [List.mem_range] at hi;unfold q1p;have h9:Ht (K+10) (((low+(i:Int):Int):Rat) - p):=((qy (k:=low+(i:Int)) (m:=9) (by omega) (by omega)).sub hp).mono (by omega);exact (h9.div (hq.sub hp)).mono (by omega)
def crL (G:Grd) (a b:Nat->Rat):List Rat :=
 (([0,1] ++ KY (sx G (a 0)) (sx G (b 0)) 0 (G.wd - 1)) ++ KY (sy G (a 1)) (sy G (b 1)) 0 (G.ht - 1)) ++ KY (sx G (a 0) - sy G (a 1)) (sx G (b 0) - sy G (b 1)) (1 - G.ht) (G.wd - 1)
theorem YO {a b:Nat->Rat} {u:Rat} (h:u∈crL G a b):0<=u/\u<=1:=by
 unfold crL at h;simp only [List.mem_append,List.mem_cons,List.not_mem_nil,or_false] at h
 rcases h with (((rfl | rfl) | h) | h) | h
 ·constructor <;> decide
 ·constructor <;> decide
 all_goals have:=q3e h; constructor <;> grind
theorem q4V {y:Nat->Rat} (h:∀ i,i+1 < m->y i < y (i+1)):∀ {i j:Nat},i < j->j < m->y i < y j:=by
 intro i j hij
 induction j with
 | zero=>omega
 | succ j ih =>
  intro hj
  rcases Nat.lt_or_ge i j with h1 | h1
  ·have:=ih h1 (by omega);have:=h j hj
   grind
  ·obtain rfl:i=j:=by omega
   exact h i hj
theorem q4R {a b:Nat->Rat} {y:Nat->Rat} (hasc:∀ i,i+1 < m->y i < y (i+1)) (h1:∀ i,i < m->y i∈crL G a b) (h2:∀ u,u∈crL G a b->∃ i,i < m/\u=y i):Crs G a b m y:=by
 have hlt:=fun i j=>q4V hasc (i:=i) (j:=j)
 obtain⟨i0,hi0,h0⟩:=h2 0 (by unfold crL; simp);obtain⟨i1,hi1,h1'⟩:=h2 1 (by unfold crL; simp)
 have hne:i0≠i1:=by
  rintro rfl;rw [<-h0] at h1';exact absurd h1' (by decide)
 have hfirst:y 0=0:=by
  rcases Nat.eq_zero_or_pos i0 with rfl | hp
  ·exact h0.symm
  ·have:=hlt 0 i0 hp hi0;have:=(YO (h1 0 (by omega))).1
   grind
 have hlast:y (m - 1)=1:=by
  rcases Nat.lt_or_ge i1 (m - 1) with hp | hp
  ·have:=hlt i1 (m - 1) hp (by omega);have:=(YO (h1 (m - 1) (by omega))).2
   grind
  ·obtain rfl:i1=m - 1:=by omega
   exact h1'.symm
 have hno:∀ i,i+1 < m->∀ u,y i < u->u < y (i+1)->u∈crL G a b->False:=by
  intro i hi u hu0 hu1 hu;obtain⟨j,hj,rfl⟩:=h2 u hu
  rcases Nat.lt_or_ge i j with hij | hij
  ·rcases Nat.lt_or_ge (i+1) j with hij2 | hij2
   ·have:=hlt (i+1) j hij2 hj; grind
   ·obtain rfl:j=i+1:=by omega
    grind
  ·rcases Nat.lt_or_ge j i with hij2 | hij2
   ·have:=hlt j i hij2 (by omega); grind
   ·obtain rfl:j=i:=by omega
    grind
 have hin:∀ i,i+1 < m->∀ u,y i < u->u < y (i+1)->0 < u/\u < 1:=by
  intro i hi u hu0 hu1;have k0:=(YO (h1 i (by omega))).1;have k1:=(YO (h1 (i+1) hi)).2
  constructor <;> grind
 refine⟨by omega,hfirst,hlast,hasc,fun i hi=>⟨fun k hk0 hk1 u hu0 hu1 hne hu=>?_,fun k hk0 hk1 u hu0 hu1 hne hu=>?_,fun k hk0 hk1 u hu0 hu1 hne hu=>?_⟩⟩
 ·have:=JK (low:=0) (high:=G.wd - 1) hne (hin i hi u hu0 hu1).1 (hin i hi u hu0 hu1).2 hk0 hk1 hu;exact hno i hi u hu0 hu1 (by unfold crL; simp [this])
 ·have:=JK (low:=0) (high:=G.ht - 1) hne (hin i hi u hu0 hu1).1 (hin i hi u hu0 hu1).2 hk0 hk1 hu;exact hno i hi u hu0 hu1 (by unfold crL; simp [this])
 ·have:=JK (low:=1 - G.ht) (high:=G.wd - 1) hne (hin i hi u hu0 hu1).1 (hin i hi u hu0 hu1).2 hk0 hk1 hu;exact hno i hi u hu0 hu1 (by unfold crL; simp [this])
theorem q3D {a b:Nat->Rat} (hG:GOk G):(crL G a b).length<=400/\2<=(crL G a b).length:=by
 have h1:=yZ (sx G (a 0)) (sx G (b 0)) 0 (G.wd - 1);have h2:=yZ (sy G (a 1)) (sy G (b 1)) 0 (G.ht - 1);have h3:=yZ (sx G (a 0) - sy G (a 1)) (sx G (b 0) - sy G (b 1)) (1 - G.ht) (G.wd - 1);have:=hG.w1;have:=hG.h1;unfold crL;simp only [List.length_append,List.length_cons,List.length_nil];omega
theorem q4S {a b:Nat->Rat} (h:SOk G K a b) {u:Rat} (hu:u∈crL G a b):Ht (6*K+300) u:=by
 have hG:=h.g;have hw0:=hG.w1;have hh0:=hG.h1;have hw1:=hG.w0;have hh1:=hG.h0;have hx:∀ x,Ht K x->Ht (K+39) (sx G x):=fun x hx=>((hx.sub (qy (m:=21) (by have:=hG.x0; have:=hG.x1; omega) (by omega))).div (qy (m:=17) (by have:=hG.s0; have:=hG.s1; omega) (by omega))).mono (by omega)
 have hy:∀ x,Ht K x->Ht (K+39) (sy G x):=fun x hx=>((hx.sub (qy (m:=21) (by have:=hG.y0; have:=hG.y1; omega) (by omega))).div (qy (m:=17) (by have:=hG.s0; have:=hG.s1; omega) (by omega))).mono (by omega)
 have ha:=hx _ (h.ka 0 (by omega));have hb:=hx _ (h.kb 0 (by omega));have hc:=hy _ (h.ka 1 (by omega));have hd:=hy _ (h.kb 1 (by omega));unfold crL at hu;simp only [List.mem_append,List.mem_cons,List.not_mem_nil,or_false] at hu
 rcases hu with (((rfl | rfl) | hu) | hu) | hu
 ·exact Ht.zero.mono (by omega)
 ·exact Ht.one.mono (by omega)
 ·exact (JL ha hb (by omega) (by omega) hu).mono (by omega)
 ·exact (JL hc hd (by omega) (by omega) hu).mono (by omega)
 ·exact (JL ((ha.sub hc).mono (q_r)) ((hb.sub hd).mono (q_r)) (by omega) (by omega) hu).mono (by omega)
end Go.Proofs.YtphpkhoeplcedaaGreat
namespace Go.Proofs.YtphpkhoeplcedaaGreat
open Go.RowKit
variable {w w':World} {N n lo hi k g m c d K:Nat} {v:Value} {G:Grd} {q x:Rat}
def q58 (N:Nat) (w:World) (G:Grd) (K:Nat) (a b:Nat->Rat) (e:Ending) (w':World):Prop :=
 ∃ g cap m l,e=.returned (.slice (some ⟨g,0,none⟩) m cap)/\xG N w' g cap m l/\cap<=maxLen/\m<=400/\Crs G a b m l/\(∀ i,i < m->Ht (6*K+300) (l i))/\Ext w w'
structure Ends (N:Nat) (w:World) (gS:Nat) (a b:Nat->Rat):Prop where
 a:∀ i,i < 3->At4 N w gS (6+i*4) (raw (a i))
 b:∀ i,i < 3->At4 N w gS (18+i*4) (raw (b i))
theorem Ends.ext {gS:Nat} {a b:Nat->Rat} (h:Ends N w gS a b) (e:Ext w w'):Ends N w' gS a b:=⟨fun i hi=>(h.a i hi).ext e,fun i hi=>(h.b i hi).ext e⟩
theorem Ends.chgU {gS:Nat} {a b:Nat->Rat} (h:Ends N w gS a b) (c:Qy lo w w') (hN:N<=lo) (hl:gS < lo):Ends N w' gS a b:=by
 obtain⟨hi,c⟩:=c;exact⟨fun i hi=>(h.a i hi).chg c hN (.inl hl),fun i hi=>(h.b i hi).chg c hN (.inl hl)⟩
theorem UV.chgU {gS gT:Nat} (h:UV N w gS gT G) (c:Qy lo w w') (hN:N<=lo) (h1:gS < lo) (h2:gT < lo):UV N w' gS gT G:=by
 obtain⟨hi,c⟩:=c;exact h.chg c hN h1 h2
theorem JH {ca:Array Value} {a b:Nat->Rat} (hs:q0K N lo hi w ca G a b) (hok:SOk G K a b) (hK:K<=100000) :
  Calls Tryz.prog 116 #[.agg ca] w (q58 N w G K a b):=by
 have hN:=hs.le;have HS:=q_h hs;have HO:=q_h hok;obtain⟨⟨g1,g2,g3,g4,g5,g6⟩,-⟩:(2<=G.wd/\G.wd<=64/\2<=G.ht/\G.ht<=64/\2<=G.st/\G.st<=65536)/\True:=⟨⟨hok.g.w0,hok.g.w1,hok.g.h0,hok.g.h1,hok.g.s0,hok.g.s1⟩,trivial⟩
 obtain⟨Ag,cg,q0,q1,q2,q3,q4,q5,-⟩:=hs.grid;have HQ:=q_h (And.intro q0 (And.intro q1 (And.intro q2 (And.intro q3 q4))));clear hs hok q0 q1 q2 q3 q4 q5;go_enter Tryz.func116,Tryz.ntmps116;go_upto_region 1 with (fail);refine ql ?_;intro W hE hsz B0;have c2:W.cell? ⟨w.heap.size,2,none⟩=some (.int .i64 G.st):=by rw [qg B0]; exact HQ.out.2.2.1
 go_wp2_with (go_at_call 61; refine q_o ?_);refine (qW (N:=N) (by omega) G.st (by omega) (by omega)).mono ?_;rintro e w1 hh;obtain⟨b3,A11,k11,c11,A12,k12,c12,rfl,hb3,gw5,gw6,e1⟩:=hh.form;replace B0:=e1.block B0;replace hE:=hE.trans e1;replace hsz:=q_l hsz e1.size;clear c2 e1;go_upto_region 2 with (fail);refine ql ?_;intro w2 e2 hsz2 BT;obtain⟨gT,hgT⟩:∃ gT,gT=w1.heap.size:=⟨_,rfl⟩
 rw [<-hgT] at BT ⊢;have hgT1:w.heap.size < gT:=by omega
 have hgT2:gT < w2.heap.size:=qI BT;replace B0:=e2.block B0;replace hE:=hE.trans e2;have HUV:Hid (UV N w2 w.heap.size gT G):=⟨⟨ca,B0,HQ.out.1,HQ.out.2.1⟩,Ji.mk BT hb3 (gw5.ext e2) (gw6.ext e2)⟩
 have HEN:Hid (Ends N w2 w.heap.size a b):=⟨fun i hi=>((HS.out.a i hi).ext hE).at4 B0,fun i hi=>((HS.out.b i hi).ext hE).at4 B0⟩
 have HB0:=q_h B0;clear hgT BT gw5 gw6 hb3 e2 hsz hsz2 B0;go_wp2_with (go_at_call 61; refine q_o ?_);refine (qW (N:=N) (by have:=hE.size; omega) 0 (by omega) (by omega)).mono ?_;rintro e w3 hh;obtain⟨b4,A13,k13,c13,A14,k14,c14,rfl,hb4,gx1,gx2,e3⟩:=hh.form;go_wp2_with (go_at_call 61; refine q_o ?_);refine (qW (N:=N) (by have:=hE.size; have:=e3.size; omega) 1 (by omega) (by omega)).mono ?_;rintro e w4 hh;obtain⟨b5,A15,k15,c15,A16,k16,c16,rfl,hb5,gx3,gx4,e4⟩:=hh.form;go_upto_region 5 with (fail);refine zT ?_;intro w5 e5 hsz5 BR BO;obtain⟨gR,hgR⟩:∃ gR,gR=w4.heap.size:=⟨_,rfl⟩
 rw [<-hgR] at BR BO hsz5 ⊢;have hgR1:gT < gR:=by have:=e3.size; have:=e4.size; omega
 have hNR:N<=gR:=by have:=hE.size; omega
 have hRow:xG N w5 gR 2 2 (fun i=>([0,1]:List Rat)[i]?.getD 0):=by
  refine⟨hNR,q_r,⟨_,BR,rfl⟩,fun j hj=>?_⟩;have hj':j=0\/j=1:=by omega
  rcases hj' with rfl | rfl
  ·exact⟨.slice A13 k13 c13,.slice A14 k14 c14,by rw [qg BR,hb4.out]; rfl,by rw [qg BR]; rfl,by rw [qg BR]; rfl,by rw [qg BR]; rfl,(gx1.ext e4).ext e5,(gx2.ext e4).ext e5⟩
  ·exact⟨.slice A15 k15 c15,.slice A16 k16 c16,by rw [qg BR,hb5.out]; rfl,by rw [qg BR]; rfl,by rw [qg BR]; rfl,by rw [qg BR]; rfl,gx3.ext e5,gx4.ext e5⟩
 have hO:YY N gR w5 (gR+1) [0,1]:=⟨⟨some ⟨gR,0,none⟩,2,BO,hNR,by omega,.inr ⟨gR,2,rfl,q_r,by unfold maxLen; omega,hRow⟩⟩,hNR,by omega⟩
 have hE25:Ext w2 w5:=(e3.trans e4).trans e5;replace hE:=hE.trans hE25;replace HUV:Hid (UV N w5 w.heap.size gT G):=HUV.out.ext hE25;replace HEN:Hid (Ends N w5 w.heap.size a b):=HEN.out.ext hE25;replace HB0:=q_h (hE25.block HB0.out);have hl5:gR+1 < w5.heap.size:=by omega
 clear BR BO hRow gx1 gx2 gx3 gx4 hb4 hb5 e3 e4 e5 hE25 hgR hsz5 hgT2;have HKA:=q_h HO.out.ka;have HKB:=q_h HO.out.kb;have hwx:IntKind.i64.wrap (G.wd - 1)=G.wd - 1:=IntWalk.i64_in _ (by omega);have hwy:IntKind.i64.wrap (G.ht - 1)=G.ht - 1:=IntWalk.i64_in _ (by omega);have hwz:IntKind.i64.wrap (1 - G.ht)=1 - G.ht:=IntWalk.i64_in _ (by omega);have hxk:Hid (∀ x,Ht K x->Ht (K+39) (sx G x)):=fun x hx=>((hx.sub (qy (m:=21) (by have:=HO.out.g.x0; have:=HO.out.g.x1; omega) (by omega))).div (qy (m:=17) (by omega) (by omega))).mono (by omega)
 have hyk:Hid (∀ x,Ht K x->Ht (K+39) (sy G x)):=fun x hx=>((hx.sub (qy (m:=21) (by have:=HO.out.g.y0; have:=HO.out.g.y1; omega) (by omega))).div (qy (m:=17) (by omega) (by omega))).mono (by omega)
 go_upto_region 6 with (fail);have c3:w5.cell? ⟨w.heap.size,3,none⟩=some (.int .i64 G.wd):=by rw [qg HB0.out]; exact HQ.out.2.2.2.1
 obtain⟨np,Ap,kp,cp,A'p,k'p,c'p,p0,p1,p2,p3,hRp⟩:=(HEN.out.a 0 (by omega)).opn;obtain⟨nq,Aq,kq,cq,A'q,k'q,c'q,q0,q1,q2,q3,hRq⟩:=(HEN.out.a 1 (by omega)).opn;obtain⟨nm,Am,km,cm,A'm,k'm,c'm,m0,m1,m2,m3,hRm⟩:=(HEN.out.a 2 (by omega)).opn;obtain⟨nr,Ar,kr,cr,A'r,k'r,c'r,r0,r1,r2,r3,hRr⟩:=(HEN.out.b 0 (by omega)).opn;obtain⟨ns,As,ks,cs,A's,k's,c's,s0,s1,s2,s3,hRs⟩:=(HEN.out.b 1 (by omega)).opn;obtain⟨nt,At,kt,ct,A't,k't,c't,t0,t1,t2,t3,hRt⟩:=(HEN.out.b 2 (by omega)).opn;simp only [Nat.zero_mul,Nat.one_mul,Nat.reduceMul,Nat.reduceAdd,Nat.add_zero] at p0 p1 p2 p3 q0 q1 q2 q3 m0 m1 m2 m3 r0 r1 r2 r3 s0 s1 s2 s3 t0 t1 t2 t3;refine jE [Mn.eq (.func (.func 167) #[] #[.pointer (some ⟨gR+1,0,none⟩)]),Mn.eq (.func (.func 165) #[] #[.pointer (some ⟨w.heap.size,0,none⟩),.pointer (some ⟨gT,0,none⟩)]),Mn.q w.heap.size 6,Mn.eq (.agg #[.bool np,.slice Ap kp cp,.bool false,.slice A'p k'p c'p,.bool nq,.slice Aq kq cq,.bool false,.slice A'q k'q c'q,.bool nm,.slice Am km cm,.bool false,.slice A'm k'm c'm]),Mn.rat N (sx G (a 0)),Mn.eq (.func (.func 165) #[] #[.pointer (some ⟨w.heap.size,0,none⟩),.pointer (some ⟨gT,0,none⟩)]),Mn.q w.heap.size 18,Mn.eq (.agg #[.bool nr,.slice Ar kr cr,.bool false,.slice A'r k'r c'r,.bool ns,.slice As ks cs,.bool false,.slice A's k's c's,.bool nt,.slice At kt ct,.bool false,.slice A't k't c't]),Mn.rat N (sx G (b 0)),Mn.q w.heap.size 0,Mn.q w.heap.size 3,Mn.i G.wd,Mn.i (G.wd - 1),Mn.any] (sM [18,19,20,21,22,23,24,25,26,27,28,29,30,31]) [13] (rQ 13 1) 1 (by kernel_rfl) ?_ ?_
 ·show ∀ i,i < 14->_
  iterate 14 refine fs ?_ ?_
  ·exact fz
  all_goals intro hl; first | exact absurd hl (by decide) | (clear hl; refine stp rfl ?_; intro ac wi eI hB hA K hK)
  have o7:=oOf (hB 7) rfl
  rotate_left
  have o4:=oOf (hB 4) rfl
  rotate_left
  have o1:=oOf (hB 1) rfl
  rotate_left
  obtain⟨_,s20,rfl⟩:=hA 2 20;have cc0:=eI.cell m0;have cc1:=eI.cell m1;have cc2:=eI.cell m2;have cc3:=eI.cell m3;have cc4:=eI.cell p0;have cc5:=eI.cell p1;have cc6:=eI.cell p2;have cc7:=eI.cell p3;have cc8:=eI.cell q0;have cc9:=eI.cell q1;have cc10:=eI.cell q2;have cc11:=eI.cell q3
  rotate_left
  obtain⟨_,s19,rfl⟩:=hA 1 19;obtain⟨_,s21,rfl⟩:=hA 3 21;clear hB hA
  ·go_simp;refine (o_u (p:=a) (HUV.out.ext eI) (jk (hRp.ext eI) (hRq.ext eI) (hRm.ext eI)) rfl HO.out.g (HKA.out 0 (by omega)) (by omega)).mono ?_;rintro e wj ⟨vj,rfl,hj,ej⟩;go_wp2_with fail;exact hK.out _ _ ej hj
  have o4:=oOf (hB 4) rfl
  rotate_left
  have o1:=oOf (hB 1) rfl
  rotate_left
  obtain⟨_,s24,rfl⟩:=hA 6 24;have cc0:=eI.cell r0;have cc1:=eI.cell r1;have cc2:=eI.cell r2;have cc3:=eI.cell r3;have cc4:=eI.cell s0;have cc5:=eI.cell s1;have cc6:=eI.cell s2;have cc7:=eI.cell s3;have cc8:=eI.cell t0;have cc9:=eI.cell t1;have cc10:=eI.cell t2;have cc11:=eI.cell t3
  rotate_left
  obtain⟨_,s23,rfl⟩:=hA 5 23;obtain⟨_,s25,rfl⟩:=hA 7 25;clear hB hA
  ·go_simp;refine (o_u (p:=b) (HUV.out.ext eI) (jk (hRr.ext eI) (hRs.ext eI) (hRt.ext eI)) rfl HO.out.g (HKB.out 0 (by omega)) (by omega)).mono ?_;rintro e wj ⟨vj,rfl,hj,ej⟩;go_wp2_with fail;exact hK.out _ _ ej hj
  have o1:=oOf (hB 1) rfl
  rotate_left
  obtain⟨_,s27,rfl⟩:=hA 9 27
  rotate_left
  obtain⟨_,s28,rfl⟩:=hA 10 28;have cc0:=eI.cell c3
  rotate_left
  obtain⟨_,s29,rfl⟩:=hA 11 29
  rotate_left
  all_goals clear hB hA; go_simp; exact q_k hK rfl
 intro vals wz eZ hJ;have J18:vals 0=_:=hJ 0 (by decide) (by decide);have J22:Mn.p (Mn.rat N (sx G (a 0))) (vals 4) wz:=hJ 4 (by decide) (by decide);have J26:Mn.p (Mn.rat N (sx G (b 0))) (vals 8) wz:=hJ 8 (by decide) (by decide);have J30:vals 12=_:=hJ 12 (by decide) (by decide);clear hJ;simp only [pr,Nat.reduceAdd,J18,J30];clear J18 J30
 generalize vals 4=z22 at J22 ⊢
 generalize vals 8=z26 at J26 ⊢
 refine qh (i:=13) rfl (by kernel_rfl) (by kernel_rfl) (fun K hK=>?_);go_simp;refine (JG J22 J26 (hO.ext eZ) (by decide) (hxk.out _ (HKA.out 0 (by omega))) (hxk.out _ (HKB.out 0 (by omega))) (by omega) (by omega) (by omega) (by omega)).mono ?_;rintro e w6 ⟨rfl,hO6,C6⟩;go_wp2_with fail;refine hK.out _ _ ?_;clear hK K;try simp only [nr]
 refine qi (by kernel_rfl) ?_ _;have C56:=(eZ.chgU gR).trans C6;replace HUV:Hid (UV N w6 w.heap.size gT G):=HUV.out.chgU C56 hNR (by omega) hgR1;replace HEN:Hid (Ends N w6 w.heap.size a b):=HEN.out.chgU C56 hNR (by omega);replace HB0:=q_h (C56.blk HB0.out (by omega));replace hE:=C56.ext hE (by omega);clear C56;have hO6':=hO6;clear c3 hO eZ C6 J22 J26 hO6;clear p0 p1 p2 p3 q0 q1 q2 q3 m0 m1 m2 m3 r0 r1 r2 r3 s0 s1 s2 s3 t0 t1 t2 t3 hRp hRq hRm hRr hRs hRt;obtain⟨l6,hl6⟩:=qf ([0,1] ++ KY (sx G (a 0)) (sx G (b 0)) 0 (G.wd - 1))
 have HL6:Hid (l6.length<=2+64):=by
  have:=yZ (sx G (a 0)) (sx G (b 0)) 0 (G.wd - 1);rw [Hid,hl6.out,List.length_append];simp only [List.length_cons,List.length_nil];omega
 rw [<-hl6.out] at hO6';go_upto_region 7 with (fail);have c4:w6.cell? ⟨w.heap.size,4,none⟩=some (.int .i64 G.ht):=by rw [qg HB0.out]; exact HQ.out.2.2.2.2
 obtain⟨np,Ap,kp,cp,A'p,k'p,c'p,p0,p1,p2,p3,hRp⟩:=(HEN.out.a 0 (by omega)).opn;obtain⟨nq,Aq,kq,cq,A'q,k'q,c'q,q0,q1,q2,q3,hRq⟩:=(HEN.out.a 1 (by omega)).opn;obtain⟨nm,Am,km,cm,A'm,k'm,c'm,m0,m1,m2,m3,hRm⟩:=(HEN.out.a 2 (by omega)).opn;obtain⟨nr,Ar,kr,cr,A'r,k'r,c'r,r0,r1,r2,r3,hRr⟩:=(HEN.out.b 0 (by omega)).opn;obtain⟨ns,As,ks,cs,A's,k's,c's,s0,s1,s2,s3,hRs⟩:=(HEN.out.b 1 (by omega)).opn;obtain⟨nt,At,kt,ct,A't,k't,c't,t0,t1,t2,t3,hRt⟩:=(HEN.out.b 2 (by omega)).opn;simp only [Nat.zero_mul,Nat.one_mul,Nat.reduceMul,Nat.reduceAdd,Nat.add_zero] at p0 p1 p2 p3 q0 q1 q2 q3 m0 m1 m2 m3 r0 r1 r2 r3 s0 s1 s2 s3 t0 t1 t2 t3;refine jE [Mn.eq (.func (.func 167) #[] #[.pointer (some ⟨gR+1,0,none⟩)]),Mn.eq (.func (.func 166) #[] #[.pointer (some ⟨w.heap.size,0,none⟩),.pointer (some ⟨gT,0,none⟩)]),Mn.q w.heap.size 6,Mn.eq (.agg #[.bool np,.slice Ap kp cp,.bool false,.slice A'p k'p c'p,.bool nq,.slice Aq kq cq,.bool false,.slice A'q k'q c'q,.bool nm,.slice Am km cm,.bool false,.slice A'm k'm c'm]),Mn.rat N (sy G (a 1)),Mn.eq (.func (.func 166) #[] #[.pointer (some ⟨w.heap.size,0,none⟩),.pointer (some ⟨gT,0,none⟩)]),Mn.q w.heap.size 18,Mn.eq (.agg #[.bool nr,.slice Ar kr cr,.bool false,.slice A'r k'r c'r,.bool ns,.slice As ks cs,.bool false,.slice A's k's c's,.bool nt,.slice At kt ct,.bool false,.slice A't k't c't]),Mn.rat N (sy G (b 1)),Mn.q w.heap.size 0,Mn.q w.heap.size 4,Mn.i G.ht,Mn.i (G.ht - 1),Mn.any] (sM [32,33,34,35,36,37,38,39,40,41,42,43,44,45]) [13] (rQ 13 1) 1 (by kernel_rfl) ?_ ?_
 ·show ∀ i,i < 14->_
  iterate 14 refine fs ?_ ?_
  ·exact fz
  all_goals intro hl; first | exact absurd hl (by decide) | (clear hl; refine stp rfl ?_; intro ac wi eI hB hA K hK)
  have o7:=oOf (hB 7) rfl
  rotate_left
  have o5:=oOf (hB 5) rfl
  rotate_left
  have o1:=oOf (hB 1) rfl
  rotate_left
  obtain⟨_,s34,rfl⟩:=hA 2 34;have cc0:=eI.cell m0;have cc1:=eI.cell m1;have cc2:=eI.cell m2;have cc3:=eI.cell m3;have cc4:=eI.cell p0;have cc5:=eI.cell p1;have cc6:=eI.cell p2;have cc7:=eI.cell p3;have cc8:=eI.cell q0;have cc9:=eI.cell q1;have cc10:=eI.cell q2;have cc11:=eI.cell q3
  rotate_left
  obtain⟨_,s33,rfl⟩:=hA 1 33;obtain⟨_,s35,rfl⟩:=hA 3 35;clear hB hA
  ·go_simp;refine (o_v (p:=a) (HUV.out.ext eI) (jk (hRp.ext eI) (hRq.ext eI) (hRm.ext eI)) rfl HO.out.g (HKA.out 1 (by omega)) (by omega)).mono ?_;rintro e wj ⟨vj,rfl,hj,ej⟩;go_wp2_with fail;exact hK.out _ _ ej hj
  have o5:=oOf (hB 5) rfl
  rotate_left
  have o1:=oOf (hB 1) rfl
  rotate_left
  obtain⟨_,s38,rfl⟩:=hA 6 38;have cc0:=eI.cell r0;have cc1:=eI.cell r1;have cc2:=eI.cell r2;have cc3:=eI.cell r3;have cc4:=eI.cell s0;have cc5:=eI.cell s1;have cc6:=eI.cell s2;have cc7:=eI.cell s3;have cc8:=eI.cell t0;have cc9:=eI.cell t1;have cc10:=eI.cell t2;have cc11:=eI.cell t3
  rotate_left
  obtain⟨_,s37,rfl⟩:=hA 5 37;obtain⟨_,s39,rfl⟩:=hA 7 39;clear hB hA
  ·go_simp;refine (o_v (p:=b) (HUV.out.ext eI) (jk (hRr.ext eI) (hRs.ext eI) (hRt.ext eI)) rfl HO.out.g (HKB.out 1 (by omega)) (by omega)).mono ?_;rintro e wj ⟨vj,rfl,hj,ej⟩;go_wp2_with fail;exact hK.out _ _ ej hj
  have o1:=oOf (hB 1) rfl
  rotate_left
  obtain⟨_,s41,rfl⟩:=hA 9 41
  rotate_left
  obtain⟨_,s42,rfl⟩:=hA 10 42;have cc0:=eI.cell c4
  rotate_left
  obtain⟨_,s43,rfl⟩:=hA 11 43
  rotate_left
  all_goals clear hB hA; go_simp; exact q_k hK rfl
 intro vals wz eZ hJ;have J32:vals 0=_:=hJ 0 (by decide) (by decide);have J36:Mn.p (Mn.rat N (sy G (a 1))) (vals 4) wz:=hJ 4 (by decide) (by decide);have J40:Mn.p (Mn.rat N (sy G (b 1))) (vals 8) wz:=hJ 8 (by decide) (by decide);have J44:vals 12=_:=hJ 12 (by decide) (by decide);clear hJ;simp only [pr,Nat.reduceAdd,J32,J44];clear J32 J44
 generalize vals 4=z36 at J36 ⊢
 generalize vals 8=z40 at J40 ⊢
 refine qh (i:=13) rfl (by kernel_rfl) (by kernel_rfl) (fun K hK=>?_);go_simp;refine (JG J36 J40 (hO6'.ext eZ) (by have:=HL6.out; omega) (hyk.out _ (HKA.out 1 (by omega))) (hyk.out _ (HKB.out 1 (by omega))) (by omega) (by omega) (by omega) (by omega)).mono ?_;rintro e w7 ⟨rfl,hO7,C7⟩;go_wp2_with fail;refine hK.out _ _ ?_;clear hK K;try simp only [nr]
 refine qi (by kernel_rfl) ?_ _;have C56:=(eZ.chgU gR).trans C7;replace HUV:Hid (UV N w7 w.heap.size gT G):=HUV.out.chgU C56 hNR (by omega) hgR1;replace HEN:Hid (Ends N w7 w.heap.size a b):=HEN.out.chgU C56 hNR (by omega);replace HB0:=q_h (C56.blk HB0.out (by omega));replace hE:=C56.ext hE (by omega);clear C56;have hO7':=hO7;clear c4 hO6' eZ C7 J36 J40 hO7;clear p0 p1 p2 p3 q0 q1 q2 q3 m0 m1 m2 m3 r0 r1 r2 r3 s0 s1 s2 s3 t0 t1 t2 t3 hRp hRq hRm hRr hRs hRt;obtain⟨l7,hl7⟩:=qf (l6 ++ KY (sy G (a 1)) (sy G (b 1)) 0 (G.ht - 1))
 have HL7:Hid (l7.length<=2+64+64):=by
  have:=yZ (sy G (a 1)) (sy G (b 1)) 0 (G.ht - 1);have:=HL6.out;rw [Hid,hl7.out,List.length_append];omega
 rw [<-hl7.out] at hO7';go_upto_region 8 with (fail);have c3:w7.cell? ⟨w.heap.size,3,none⟩=some (.int .i64 G.wd):=by rw [qg HB0.out]; exact HQ.out.2.2.2.1
 have c4:w7.cell? ⟨w.heap.size,4,none⟩=some (.int .i64 G.ht):=by rw [qg HB0.out]; exact HQ.out.2.2.2.2
 obtain⟨np,Ap,kp,cp,A'p,k'p,c'p,p0,p1,p2,p3,hRp⟩:=(HEN.out.a 0 (by omega)).opn;obtain⟨nq,Aq,kq,cq,A'q,k'q,c'q,q0,q1,q2,q3,hRq⟩:=(HEN.out.a 1 (by omega)).opn;obtain⟨nm,Am,km,cm,A'm,k'm,c'm,m0,m1,m2,m3,hRm⟩:=(HEN.out.a 2 (by omega)).opn;obtain⟨nr,Ar,kr,cr,A'r,k'r,c'r,r0,r1,r2,r3,hRr⟩:=(HEN.out.b 0 (by omega)).opn;obtain⟨ns,As,ks,cs,A's,k's,c's,s0,s1,s2,s3,hRs⟩:=(HEN.out.b 1 (by omega)).opn;obtain⟨nt,At,kt,ct,A't,k't,c't,t0,t1,t2,t3,hRt⟩:=(HEN.out.b 2 (by omega)).opn;simp only [Nat.zero_mul,Nat.one_mul,Nat.reduceMul,Nat.reduceAdd,Nat.add_zero] at p0 p1 p2 p3 q0 q1 q2 q3 m0 m1 m2 m3 r0 r1 r2 r3 s0 s1 s2 s3 t0 t1 t2 t3;refine jE [Mn.eq (.func (.func 167) #[] #[.pointer (some ⟨gR+1,0,none⟩)]),Mn.eq (.func (.func 165) #[] #[.pointer (some ⟨w.heap.size,0,none⟩),.pointer (some ⟨gT,0,none⟩)]),Mn.q w.heap.size 6,Mn.eq (.agg #[.bool np,.slice Ap kp cp,.bool false,.slice A'p k'p c'p,.bool nq,.slice Aq kq cq,.bool false,.slice A'q k'q c'q,.bool nm,.slice Am km cm,.bool false,.slice A'm k'm c'm]),Mn.rat N (sx G (a 0)),Mn.eq (.func (.func 166) #[] #[.pointer (some ⟨w.heap.size,0,none⟩),.pointer (some ⟨gT,0,none⟩)]),Mn.q w.heap.size 6,Mn.eq (.agg #[.bool np,.slice Ap kp cp,.bool false,.slice A'p k'p c'p,.bool nq,.slice Aq kq cq,.bool false,.slice A'q k'q c'q,.bool nm,.slice Am km cm,.bool false,.slice A'm k'm c'm]),Mn.rat N (sy G (a 1)),Mn.rat N (sx G (a 0) - sy G (a 1)),Mn.eq (.func (.func 165) #[] #[.pointer (some ⟨w.heap.size,0,none⟩),.pointer (some ⟨gT,0,none⟩)]),Mn.q w.heap.size 18,Mn.eq (.agg #[.bool nr,.slice Ar kr cr,.bool false,.slice A'r k'r c'r,.bool ns,.slice As ks cs,.bool false,.slice A's k's c's,.bool nt,.slice At kt ct,.bool false,.slice A't k't c't]),Mn.rat N (sx G (b 0)),Mn.eq (.func (.func 166) #[] #[.pointer (some ⟨w.heap.size,0,none⟩),.pointer (some ⟨gT,0,none⟩)]),Mn.q w.heap.size 18,Mn.eq (.agg #[.bool nr,.slice Ar kr cr,.bool false,.slice A'r k'r c'r,.bool ns,.slice As ks cs,.bool false,.slice A's k's c's,.bool nt,.slice At kt ct,.bool false,.slice A't k't c't]),Mn.rat N (sy G (b 1)),Mn.rat N (sx G (b 0) - sy G (b 1)),Mn.q w.heap.size 0,Mn.q w.heap.size 4,Mn.i G.ht,Mn.i (1 - G.ht),Mn.q w.heap.size 0,Mn.q w.heap.size 3,Mn.i G.wd,Mn.i (G.wd - 1),Mn.any] (sM [46,47,48,49,50,51,52,53,54,55,56,57,58,59,60,61,62,63,64,65,66,67,68,69,70,71,72,73]) [27] (rQ 27 1) 1 (by kernel_rfl) ?_ ?_
 ·show ∀ i,i < 28->_
  iterate 28 refine fs ?_ ?_
  ·exact fz
  all_goals intro hl; first | exact absurd hl (by decide) | (clear hl; refine stp rfl ?_; intro ac wi eI hB hA K hK)
  have o7:=oOf (hB 7) rfl
  rotate_left
  have o4:=oOf (hB 4) rfl
  rotate_left
  have o1:=oOf (hB 1) rfl
  rotate_left
  obtain⟨_,s48,rfl⟩:=hA 2 48;have cc0:=eI.cell m0;have cc1:=eI.cell m1;have cc2:=eI.cell m2;have cc3:=eI.cell m3;have cc4:=eI.cell p0;have cc5:=eI.cell p1;have cc6:=eI.cell p2;have cc7:=eI.cell p3;have cc8:=eI.cell q0;have cc9:=eI.cell q1;have cc10:=eI.cell q2;have cc11:=eI.cell q3
  rotate_left
  obtain⟨_,s47,rfl⟩:=hA 1 47;obtain⟨_,s49,rfl⟩:=hA 3 49;clear hB hA
  ·go_simp;refine (o_u (p:=a) (HUV.out.ext eI) (jk (hRp.ext eI) (hRq.ext eI) (hRm.ext eI)) rfl HO.out.g (HKA.out 0 (by omega)) (by omega)).mono ?_;rintro e wj ⟨vj,rfl,hj,ej⟩;go_wp2_with fail;exact hK.out _ _ ej hj
  have o5:=oOf (hB 5) rfl
  rotate_left
  have o1:=oOf (hB 1) rfl
  rotate_left
  obtain⟨_,s52,rfl⟩:=hA 6 52;have cc0:=eI.cell m0;have cc1:=eI.cell m1;have cc2:=eI.cell m2;have cc3:=eI.cell m3;have cc4:=eI.cell p0;have cc5:=eI.cell p1;have cc6:=eI.cell p2;have cc7:=eI.cell p3;have cc8:=eI.cell q0;have cc9:=eI.cell q1;have cc10:=eI.cell q2;have cc11:=eI.cell q3
  rotate_left
  obtain⟨_,s51,rfl⟩:=hA 5 51;obtain⟨_,s53,rfl⟩:=hA 7 53;clear hB hA
  ·go_simp;refine (o_v (p:=a) (HUV.out.ext eI) (jk (hRp.ext eI) (hRq.ext eI) (hRm.ext eI)) rfl HO.out.g (HKA.out 1 (by omega)) (by omega)).mono ?_;rintro e wj ⟨vj,rfl,hj,ej⟩;go_wp2_with fail;exact hK.out _ _ ej hj
  obtain⟨x50,s50,j50⟩:=hA 4 50;replace j50:Mn.p (Mn.rat N (sx G (a 0))) x50 wi:=j50;obtain⟨x54,s54,j54⟩:=hA 8 54;replace j54:Mn.p (Mn.rat N (sy G (a 1))) x54 wi:=j54;clear hB hA
  ·go_simp;refine (yY j50 j54 ((hxk.out _ (HKA.out 0 (by omega))).sz (by omega)) ((hyk.out _ (HKA.out 1 (by omega))).sz (by omega))).mono ?_;rintro e wj ⟨vj,rfl,hj,ej⟩;go_wp2_with fail;exact hK.out _ _ ej hj
  have o4:=oOf (hB 4) rfl
  rotate_left
  have o1:=oOf (hB 1) rfl
  rotate_left
  obtain⟨_,s57,rfl⟩:=hA 11 57;have cc0:=eI.cell r0;have cc1:=eI.cell r1;have cc2:=eI.cell r2;have cc3:=eI.cell r3;have cc4:=eI.cell s0;have cc5:=eI.cell s1;have cc6:=eI.cell s2;have cc7:=eI.cell s3;have cc8:=eI.cell t0;have cc9:=eI.cell t1;have cc10:=eI.cell t2;have cc11:=eI.cell t3
  rotate_left
  obtain⟨_,s56,rfl⟩:=hA 10 56;obtain⟨_,s58,rfl⟩:=hA 12 58;clear hB hA
  ·go_simp;refine (o_u (p:=b) (HUV.out.ext eI) (jk (hRr.ext eI) (hRs.ext eI) (hRt.ext eI)) rfl HO.out.g (HKB.out 0 (by omega)) (by omega)).mono ?_;rintro e wj ⟨vj,rfl,hj,ej⟩;go_wp2_with fail;exact hK.out _ _ ej hj
  have o5:=oOf (hB 5) rfl
  rotate_left
  have o1:=oOf (hB 1) rfl
  rotate_left
  obtain⟨_,s61,rfl⟩:=hA 15 61;have cc0:=eI.cell r0;have cc1:=eI.cell r1;have cc2:=eI.cell r2;have cc3:=eI.cell r3;have cc4:=eI.cell s0;have cc5:=eI.cell s1;have cc6:=eI.cell s2;have cc7:=eI.cell s3;have cc8:=eI.cell t0;have cc9:=eI.cell t1;have cc10:=eI.cell t2;have cc11:=eI.cell t3
  rotate_left
  obtain⟨_,s60,rfl⟩:=hA 14 60;obtain⟨_,s62,rfl⟩:=hA 16 62;clear hB hA
  ·go_simp;refine (o_v (p:=b) (HUV.out.ext eI) (jk (hRr.ext eI) (hRs.ext eI) (hRt.ext eI)) rfl HO.out.g (HKB.out 1 (by omega)) (by omega)).mono ?_;rintro e wj ⟨vj,rfl,hj,ej⟩;go_wp2_with fail;exact hK.out _ _ ej hj
  obtain⟨x59,s59,j59⟩:=hA 13 59;replace j59:Mn.p (Mn.rat N (sx G (b 0))) x59 wi:=j59;obtain⟨x63,s63,j63⟩:=hA 17 63;replace j63:Mn.p (Mn.rat N (sy G (b 1))) x63 wi:=j63;clear hB hA
  ·go_simp;refine (yY j59 j63 ((hxk.out _ (HKB.out 0 (by omega))).sz (by omega)) ((hyk.out _ (HKB.out 1 (by omega))).sz (by omega))).mono ?_;rintro e wj ⟨vj,rfl,hj,ej⟩;go_wp2_with fail;exact hK.out _ _ ej hj
  have o1:=oOf (hB 1) rfl
  rotate_left
  obtain⟨_,s65,rfl⟩:=hA 19 65
  rotate_left
  obtain⟨_,s66,rfl⟩:=hA 20 66;have cc0:=eI.cell c4
  rotate_left
  obtain⟨_,s67,rfl⟩:=hA 21 67
  rotate_left
  have o1:=oOf (hB 1) rfl
  rotate_left
  obtain⟨_,s69,rfl⟩:=hA 23 69
  rotate_left
  obtain⟨_,s70,rfl⟩:=hA 24 70;have cc0:=eI.cell c3
  rotate_left
  obtain⟨_,s71,rfl⟩:=hA 25 71
  rotate_left
  all_goals clear hB hA; go_simp; exact q_k hK rfl
 intro vals wz eZ hJ;have J46:vals 0=_:=hJ 0 (by decide) (by decide);have J55:Mn.p (Mn.rat N (sx G (a 0) - sy G (a 1))) (vals 9) wz:=hJ 9 (by decide) (by decide);have J64:Mn.p (Mn.rat N (sx G (b 0) - sy G (b 1))) (vals 18) wz:=hJ 18 (by decide) (by decide);have J68:vals 22=_:=hJ 22 (by decide) (by decide);have J72:vals 26=_:=hJ 26 (by decide) (by decide);clear hJ;simp only [pr,Nat.reduceAdd,J46,J68,J72];clear J46 J68 J72
 generalize vals 9=z55 at J55 ⊢
 generalize vals 18=z64 at J64 ⊢
 refine qh (i:=27) rfl (by kernel_rfl) (by kernel_rfl) (fun K hK=>?_);go_simp;refine (JG J55 J64 (hO7'.ext eZ) (by have:=HL7.out; omega) ((hxk.out _ (HKA.out 0 (by omega))).sub (hyk.out _ (HKA.out 1 (by omega)))) ((hxk.out _ (HKB.out 0 (by omega))).sub (hyk.out _ (HKB.out 1 (by omega)))) (by omega) (by omega) (by omega) (by omega)).mono ?_;rintro e w8 ⟨rfl,hO8,C8⟩;go_wp2_with fail;refine hK.out _ _ ?_;clear hK K;try simp only [nr]
 refine qi (by kernel_rfl) ?_ _;have C56:=(eZ.chgU gR).trans C8;replace HUV:Hid (UV N w8 w.heap.size gT G):=HUV.out.chgU C56 hNR (by omega) hgR1;replace HEN:Hid (Ends N w8 w.heap.size a b):=HEN.out.chgU C56 hNR (by omega);replace HB0:=q_h (C56.blk HB0.out (by omega));replace hE:=C56.ext hE (by omega);clear C56;have HCL:Hid (l7 ++ KY (sx G (a 0) - sy G (a 1)) (sx G (b 0) - sy G (b 1)) (1 - G.ht) (G.wd - 1)=crL G a b):=by rw [Hid,hl7.out,hl6.out]; rfl
 rw [HCL.out] at hO8;clear c3 c4 hO7' eZ C8 J55 J64 HUV HEN HB0;clear p0 p1 p2 p3 q0 q1 q2 q3 m0 m1 m2 m3 r0 r1 r2 r3 s0 s1 s2 s3 t0 t1 t2 t3 hRp hRq hRm hRr hRs hRt;obtain⟨⟨A8,c8,BO,hG8⟩,-,-⟩:=hO8;have hlen:=q3D (G:=G) (a:=a) (b:=b) HO.out.g;obtain⟨n,hn⟩:=qf (crL G a b).length;have hn1:n<=400:=by rw [hn.out]; exact hlen.1
 have hn2:2<=n:=by rw [hn.out]; exact hlen.2
 have hGR:∃ g,A8=some ⟨g,0,none⟩/\gR<=g/\c8<=maxLen/\xG N w8 g c8 n (fun i=>(crL G a b)[i]?.getD 0):=by
  obtain⟨-,-,⟨e,h0⟩ | ⟨g,cap,e,hg,hcm,hr⟩⟩:=hG8
  ·rw [<-hn.out] at h0; omega
  ·injection e with e1 e2 e3
   subst e1 e3;rw [<-hn.out] at hr;exact⟨g,rfl,hg,hcm,hr⟩
 obtain⟨g,rfl,hgg,hcm,hr⟩:=hGR;rw [<-hn.out] at BO;obtain⟨o0,-⟩:=zF BO
 have hgO:g≠gR+1:=by
  rintro rfl;obtain⟨-,-,⟨cs,hc,-⟩,-⟩:=hr;rw [BO] at hc;injection hc with hc
  injection hc with _ hc _
  exact absurd hc (by decide)
 have HR8:=q_h hr
 have HSZ:Hid (∀ i,i < n->Ht (6*K+300) ((crL G a b)[i]?.getD 0)):=by
  intro i hi;have hil:i < (crL G a b).length:=by rw [<-hn.out]; exact hi
  rw [List.getElem?_eq_getElem hil];exact q4S HO.out (List.getElem_mem hil)
 have HCM:=q_h hcm;clear hG8 hr hlen hcm;go_wp2_with (go_at_call 168; refine q_o ?_);refine (V5 HR8.out (fun i hi=>(HSZ.out i hi).sz (by omega)) (by omega) (by omega)).mono ?_;rintro e w9 ⟨rfl,y,hRy,C9,hy1,hy2,hy3⟩;have BO9:=C9.blk BO (by omega);have C89:Qy gR w8 w9:=C9.u hgg;obtain⟨o9,-⟩:=zF BO9;have HRy:=q_h hRy;have HY1:=q_h hy1;have HY2:=q_h hy2;have HY3:=q_h hy3;clear hRy hy1 hy2 hy3 o0 BO C9;go_wp2_with (go_at_call 169; refine q_o ?_);refine (V7 HRy.out HCM.out (fun i hi=>by obtain⟨j,hj,e⟩:=HY1.out i hi; rw [e]; exact (HSZ.out j hj).sz (by omega)) hn2 (by omega) HY3.out).mono ?_;rintro e w10 ⟨m,z,rfl,hRz,C10,hm1,hmn,hz1,hz2,hz3⟩
 have HF:Hid (q58 N w G K a b (.returned (.slice (some ⟨g,0,none⟩) m c8)) w10):=by
  have hzx:∀ i,i < m->∃ j,j < n/\z i=(crL G a b)[j]?.getD 0:=fun i hi=>by
   obtain⟨j,hj,e⟩:=hz1 i hi;obtain⟨k,hk,e'⟩:=HY1.out j hj;exact⟨k,hk,e.trans e'⟩
  refine⟨g,c8,m,z,rfl,hRz,HCM.out,by omega,q4R hz3 (fun i hi=>?_) (fun u hu=>?_),fun i hi=>?_,((C89.trans (by obtain⟨h9,C10⟩:=C10; exact C10.u hgg)).ext hE (by omega))⟩
  ·obtain⟨j,hj,e⟩:=hzx i hi;have hjl:j < (crL G a b).length:=by rw [<-hn.out]; exact hj
   rw [e,List.getElem?_eq_getElem hjl];exact List.getElem_mem hjl
  ·obtain⟨j,hj,e⟩:=List.getElem_of_mem hu;obtain⟨i,hi,e1⟩:=HY2.out j (by rw [hn.out]; exact hj);obtain⟨k,hk,e2⟩:=hz2 i hi;refine⟨k,hk,?_⟩;rw [<-e2,<-e1,List.getElem?_eq_getElem hj];exact e.symm
  ·obtain⟨j,hj,e⟩:=hzx i hi;rw [e];exact HSZ.out j hj
 clear hRz C10 hz1 hz2 hz3 BO9 o9;go_wp2;go_ret;exact HF.out
end Go.Proofs.YtphpkhoeplcedaaGreat
