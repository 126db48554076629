import Derived.Test.YtphpkhoeplcedaaGreatWb23
import Derived.Test.YtphpkhoeplcedaaGreatWb24
set_option linter.all false
set_option maxHeartbeats 8000000
namespace Go.Proofs.YtphpkhoeplcedaaGreat
open Go.RowKit
variable {w w':World} {N n lo hi k g c b:Nat} {v:Value} {q:Rat} {A:Option Addr}
theorem q5P {R:Raw} (h:okR R=true):∃ q:Rat,R=raw q:=by
 obtain⟨b1,l1,b2,l2⟩:=R;unfold okR at h;simp only [Bool.and_eq_true,decide_eq_true_eq] at h;obtain⟨⟨⟨h1,h2⟩,h3⟩,h4⟩:=h;obtain⟨e1,e2,e3⟩:=yV h1;obtain⟨f1,f2,f3⟩:=yV h2;have hb2:b2=false:=by rw [f2]; simp; omega
 subst hb2;have hz:Qk false l2=(val l2:Int):=by unfold Qk; simp
 rw [hz] at h3 h4;refine⟨⟨Qk b1 l1,val l2,by omega,?_⟩,?_⟩
 ·exact h4
 ·unfold raw;simp only [Raw.mk.injEq];exact⟨e2,by rw [<-e3]; exact e1,trivial,f1⟩
theorem LsR.chg {l h:Nat} {R:Nat->Raw} (hx:LsR N lo hi w v n R) (c:Chg l h w w') (hN:N<=l) (hd:hi<=l\/h<=lo):LsR N lo hi w' v n R:=by
 obtain⟨h1,h2,A,k,hv,h3,h4,h5⟩:=hx;refine⟨q_l h1 c.size,q_l h2 c.size,A,k,hv,h3,h4,fun hn=>?_⟩;obtain⟨b,off,hA,hl,hh,hx⟩:=h5 hn;exact⟨b,off,hA,hl,hh,fun i hi=>(hx i hi).chg c hN (by omega)⟩
theorem xG.less {n':Nat} {x:Nat->Rat} (h:xG N w b k n x) (hn:n'<=n):xG N w b k n' x:=by
 obtain⟨h1,h0,h2,h4⟩:=h;exact⟨h1,by omega,h2,fun j hj=>h4 j (by omega)⟩
theorem q5T {fn:Func} {k t:Tmp} (hres:fn.results=#[.cell k 29,.tmp t]) {a:Act} (hp:a.tmps.getD k undef=.pointer (some ⟨g,0,none⟩)) (hq:a.tmps.getD t undef=.int .i64 0) (hd:a.defers=[])
 {W:World} {o1 o2 o3 o4:Value} {neg:Bool} {A':Option Addr} {n' c':Nat} (hE:Ext w W) (hb:W.heap[g]?=some (.cells #[o1,o2,o3,o4] 29 (0,0))) (hg:w.heap.size<=g) (hN:N<=w.heap.size)
  (hG:Gs N W (.slice A n c) (dg q.num.natAbs)) (hG':Gs N W (.slice A' n' c') (dg q.den)) (hneg:Hid (neg=decide (q.num < 0))) :
  bodyPost Tryz.prog fn (XZ N w q) .ret a ((((W.setCell ⟨g,0,none⟩ (.bool neg)).setCell ⟨g,1,none⟩ (.slice A n c)).setCell ⟨g,2,none⟩ (.bool false)).setCell ⟨g,3,none⟩ (.slice A' n' c')):=by
 obtain⟨w1,E1,B1,U⟩:=ex4 hb (.bool neg) (.slice A n c) (.bool false) (.slice A' n' c');rw [E1];obtain⟨c0,c1,c2,c3,-⟩:=cells4 B1;have hT:NoU W g:=NoU.mk hb (by decide);refine bodyPost_ret (v:=.tuple #[.agg #[.bool neg,.slice A n c,.bool false,.slice A' n' c'],.int .i64 0]) ?_ hd ⟨_,rfl,qp.mk hneg (hG.upd U (by omega) hT) (hG'.upd U (by omega) hT),U.ext hE hg⟩;have hp':a.tmps[k]?.getD undef=.pointer (some ⟨g,0,none⟩):=by simpa using hp
 have hq':a.tmps[t]?.getD undef=.int .i64 0:=by simpa using hq
 simp [results,hres,hp',hq',c0,c1,c2,c3,go_sem]
theorem q5H:Calls Tryz.prog 16 #[.agg #[.bool false,.slice none 0 0,.bool false,.slice none 0 0]] w (zG w (.bool true)):=by
 go_enter Tryz.func16,Tryz.ntmps16;go_wp2;go_ret;exact⟨rfl,(Ext.refl w).alloc _⟩
theorem LsV.chg {l u:Nat} {x:Nat->Rat} (h:LsV N lo hi w v n x) (c:Chg l u w w') (hN:N<=l) (hd:hi<=l\/u<=lo):LsV N lo hi w' v n x:=LsR.chg h c hN hd
theorem q5r (w:World) (kl kc:IntKind) (n:Nat) (hn:n*64<=281474976710656) :
  ∃ w' cs,(Instr.makeSlice 45 (.int kl n) (.int kc n)).run Tryz.prog w=.ok (.slice (some ⟨w.heap.size,0,none⟩) n n) w'/\w'.heap[w.heap.size]?=some (.cells cs 29 (0,0))/\cs.size=n*4/\Ext w w':=by
 obtain⟨i0,hi0,hz0,hz1,hz2⟩:=info_parts YG;obtain⟨w',hrun,hown,hgr⟩:=run_make_full (P:=Tryz.prog) w w.heap.size 45 29 i0 _ 4 Tryz.underlying45 hi0 hz0 hz1 kl kc n (by rw [hz2]; omega) (by unfold maxLen; omega) (q_r);have hx:=(Ext.refl w).grown hgr (fun k hk=>by cases hk)
 rcases hown.2 with ⟨h,_⟩ | ⟨g,cap,cur,hv,hg,hh,hnc,hcm,hcs,htk⟩
 ·cases h
 ·have e1:w.heap.size=g:=Option.some.inj (congrArg Value.ownBlock hv);have e3:n=cap:=congrArg (fun v:Value=>match v with | .slice _ _ c=>c | _=>0) hv;subst e1 e3;exact⟨w',cur,hrun,hh,hcs,hx⟩
theorem q5o {ops:Array Oper} {rest:List Oper} {o:Oper} {a:Act} {Q:Exit->Act->World->Prop} (hg:o.guard=none) (l c:Operand) (hop:o.op=Op.makeSlice 45 l c)
  (kl kc:IntKind) (L C:Int) (n:Nat) (hl:a.eval l=.int kl L) (hc:a.eval c=.int kc C) (hL:L=(n:Int)) (hC:C=(n:Int)) (hn:n < 1000000)
  (hK:∀ w' cs,w'.heap[w.heap.size]?=some (.cells cs 29 (0,0))->cs.size=n*4->Ext w w'->wpList Tryz.prog ops Q rest (a.put o.dst (.slice (some ⟨w.heap.size,0,none⟩) n n)) w'):wpList Tryz.prog ops Q (o :: rest) a w:=by
 refine wpList_plain hg fun K hK'=>?_
 obtain⟨w',cs,hrun,r1,r2,r3⟩:=q5r w kl kc n (by omega);subst hL;subst hC;unfold Oper.wp;simp [execOp,hop,hl,hc,hrun,Result.andThen]
 exact hK' _ _ (hK w' cs r1 r2 r3)
end Go.Proofs.YtphpkhoeplcedaaGreat
