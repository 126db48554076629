import Derived.Test.YtccepmpebioeiaaGreatWb01
import Derived.Test.YtccepmpebioeiaaGreatWb02
import Derived.Test.YtccepmpebioeiaaGreatWb03
import Derived.Test.YtccepmpebioeiaaGreatWb04
import Derived.Test.YtccepmpebioeiaaGreatWb05
import Derived.Test.YtccepmpebioeiaaGreatWb06
import Derived.Test.YtccepmpebioeiaaGreatWb07
import Derived.Test.YtccepmpebioeiaaGreatWb08
import Derived.Test.YtccepmpebioeiaaGreatWb09
import Derived.Test.YtccepmpebioeiaaGreatWb10
import Derived.Test.YtccepmpebioeiaaGreatWb11
import Derived.Test.YtccepmpebioeiaaGreatWb12
import Derived.Test.YtccepmpebioeiaaGreatWb13
import Derived.Test.YtccepmpebioeiaaGreatWb14
import Derived.Test.YtccepmpebioeiaaGreatWb15
import Derived.Test.YtccepmpebioeiaaGreatWb16
import Derived.Test.YtccepmpebioeiaaGreatWb17
import Derived.Test.YtccepmpebioeiaaGreatWb18
import Derived.Test.YtccepmpebioeiaaGreatWb19
import Derived.Test.YtccepmpebioeiaaGreatWb20
import Derived.Test.YtccepmpebioeiaaGreatWb21
import Derived.Test.YtccepmpebioeiaaGreatWb22
import Derived.Test.YtccepmpebioeiaaGreatWb23
import Derived.Test.YtccepmpebioeiaaGreatWb24
import Derived.Test.YtccepmpebioeiaaGreatWb25
import Derived.Test.YtccepmpebioeiaaGreatWb26
import Derived.Test.YtccepmpebioeiaaGreatWb27
import Derived.Test.YtccepmpebioeiaaGreatWb28
import Derived.Test.YtccepmpebioeiaaGreatWb29
import Derived.Test.YtccepmpebioeiaaGreatWb30
import Derived.Test.YtccepmpebioeiaaGreatWb31
import Derived.Test.YtccepmpebioeiaaGreatWb32
import Derived.Test.YtccepmpebioeiaaGreatWb33
import Derived.Test.YtccepmpebioeiaaGreatWb34
import Derived.Test.YtccepmpebioeiaaGreatWb35
import Derived.Test.YtccepmpebioeiaaGreatWb36
import Derived.Test.YtccepmpebioeiaaGreatWb37
import Derived.Test.YtccepmpebioeiaaGreatWb38
import Derived.Test.YtccepmpebioeiaaGreatWb39
import Derived.Test.YtccepmpebioeiaaGreatWb40
import Derived.Test.YtccepmpebioeiaaGreatWb41
import Derived.Test.YtccepmpebioeiaaGreatWb42
import Derived.Test.YtccepmpebioeiaaGreatWb43
import Derived.Test.YtccepmpebioeiaaGreatWb44
import Derived.Shelf.Bits.Mul64
import Derived.Deep.AppendLies
import Derived.WalkKit
import Derived.WalkSpells
import Derived.WalkLawsBesides
import Derived.Lib.Hide
import Derived.Deep.RegionHeld3
import Derived.Deep.QuietTactic
import Derived.BigQuiet
import Derived.Maps.AppendAt
import Derived.Deep.DeepCutAuto
import Derived.Deep.RegionWith
import Derived.Deep.DeepMust
import Derived.Deep.CutBlock
import Derived.OrdersIn
import Derived.RegionTactic
import Derived.RangeFuncNested
import Derived.RangeFuncBound
import Derived.RangeFuncCalls
import Derived.RangeFuncLeaves
import Derived.RangeFuncBox
import Derived.Shelf.Abstract
import Derived.OwnWalkIn
import Derived.TacticsInMore
import Derived.LoopNIn
import Derived.LoopIn
import Derived.Laws.IdiomCopy
import Derived.Deep.RegionLaw
import Derived.Lib.SliceRun
set_option linter.all false
set_option maxHeartbeats 8000000
namespace Go.Proofs.YtccepmpebioeiaaGreat
open Go.RowKit
theorem upd_cells (g:Nat):∀ (vs:List Value) (o:Nat) (w w':World),Upd g w w'→Upd g w (w'.setCells g o vs)
 | [],_,_,_,h=>h
 | v :: r,o,w,w',h=>upd_cells g r (o+1) w _ (h.set o v)
theorem blk_cells (g:Nat) (t:TypeId) (fr:Nat×Nat):∀ (vs:List Value) (o:Nat) (cs:Array Value) (w:World),w.heap[g]?=some (.cells cs t fr)→∃ cs',(w.setCells g o vs).heap[g]?=some (.cells cs' t fr)∧cs'.size=cs.size
 | [],_,cs,_,h=>⟨cs,h,rfl⟩
 | v :: r,o,cs,w,h=>by
  obtain⟨cs',h1,h2⟩:=blk_cells g t fr r (o+1) _ (w.setCell ⟨g,o,none⟩ v) (heap_set h o v)
  exact⟨cs',h1,by rw [h2]; simp⟩
structure FewLin (Z:Lin) (n:Nat) (X:Nat→Nat→Rat) (y p:Nat→Rat):Prop where
 m0:0 < Z.m
 m6:Z.m≤6
 n0:0 < n
 n4:n≤4
 L:∀ i,i < Z.m→Z.L i=n
 eA:∀ i,i < Z.m→∀ j,j < n→Z.A i j=raw (X i j)
 nl:Z.nl=Z.m
 el:∀ i,i < Z.m→Z.l i=raw (y i)
 np:Z.np=Z.m
 ep:∀ i,i < Z.m→Z.p i=raw (p i)
 pos:∀ i,i < Z.m→0 < p i
 hX:HtM Z.m n 17 X
 hy:HtL Z.m 17 y
 hp:HtL Z.m 17 p
theorem FewLin.mem {Z:Lin} {n:Nat} {X:Nat→Nat→Rat} {y p:Nat→Rat} (f:FewLin Z n X y p) {N lo hi:Nat} {w:World} {A1 A2 A3:Option Addr} {c1 c2 c3:Nat} (h1:MtR N lo hi w (.slice A1 Z.m c1) Z.m Z.L Z.A) (h2:LsR N lo hi w (.slice A2 Z.nl c2) Z.nl Z.l) (h3:LsR N lo hi w (.slice A3 Z.np c3) Z.np Z.p) :
  MtV N lo hi w (.slice A1 Z.m c1) Z.m n X∧LsV N lo hi w (.slice A2 Z.m c2) Z.m y∧LsV N lo hi w (.slice A3 Z.m c3) Z.m p:=by
 refine⟨MtR.congr h1 f.L (fun i hi j hj=>f.eA i hi j (by rw [←f.L i hi]; exact hj)),?_,?_⟩
 ·rw [f.nl] at h2; exact LsR.congr h2 f.el
 ·rw [f.np] at h3; exact LsR.congr h3 f.ep
theorem shB_sz {most n:Nat} {R:Nat→Raw} (h:shB most n R=true):∀ i,i < n→RawSz (R i):=fun i hi=>(brief_raw ((shB_all h).2 i hi)).1
theorem FewG.mem {r c:Nat} {Z:Lin} {n:Nat} {X:Nat→Nat→Rat} {y p:Nat→Rat} (f:FewG r c Z n X y p) {N lo hi:Nat} {w:World} {A1 A2 A3:Option Addr} {c1 c2 c3:Nat} (h1:MtR N lo hi w (.slice A1 Z.m c1) Z.m Z.L Z.A) (h2:LsR N lo hi w (.slice A2 Z.nl c2) Z.nl Z.l) (h3:LsR N lo hi w (.slice A3 Z.np c3) Z.np Z.p) :
  MtV N lo hi w (.slice A1 Z.m c1) Z.m n X∧LsV N lo hi w (.slice A2 Z.m c2) Z.m y∧LsV N lo hi w (.slice A3 Z.m c3) Z.m p:=by
 refine⟨MtR.congr h1 f.L (fun i hi j hj=>f.eA i hi j (by rw [←f.L i hi]; exact hj)),?_,?_⟩
 ·rw [f.nl] at h2; exact LsR.congr h2 f.el
 ·rw [f.np] at h3; exact LsR.congr h3 f.ep
theorem step_copy_row {ops:Array Oper} {o:Oper} {a:Act} {w:World} {K:Act→World→Prop} {Q:Exit→Act→World→Prop} {E:Prop}
  (hg:o.guard=none) (d x:Operand) (dT sT:TypeId) (hop:o.op=Op.call { callee:=Callee.builtin Builtin.copy,args:=#[d,x],argTypes:=#[dT,sT] })
  (v u:Value) (hd:a.eval d=v) (hx:a.eval x=u) {v':Value} {w':World} (hr:(Builtin.copy_ #[dT,sT] o.type #[v,u]).run Tryz.prog w=.ok v' w') (hK:K (a.put o.dst v') w') :
  if Region.wanted o (yielded ops a.tmps)=true then Oper.wp Tryz.prog o a w K Q else E:=by
 have hw:Region.wanted o (yielded ops a.tmps)=true:=by simp [Region.wanted,hg]
 rw [if_pos hw]
 unfold Oper.wp
 simp [execOp,hop,resolve,invoke,builtin,hd,hx,hr,Result.andThen]
 exact hK
theorem run_copy_row {N:Nat} {w:World} (t ty:TypeId) (ht:Tryz.prog.underlying t=some (.slice 44)) {g k n:Nat} {x y:Nat→Rat} (h:RowB N w g k n x) {b so s:Nat} (hs:∀ j,j < s→At4 N w b (so+j*4) (raw (y j))) (hsn:s≤n) {dc sc:Nat} :
  ∃ w',(Builtin.copy_ #[t,t] ty #[.slice (some ⟨g,0,none⟩) n dc,.slice (some ⟨b,so,none⟩) s sc]).run Tryz.prog w=.ok (.int .i64 ((s:Nat):Int)) w'∧RowB N w' g k n (fun j=>if j < s then y j else x j)∧Chg g (g+1) w w'∧w'.heap.size=w.heap.size:=by
 obtain⟨i0,hi0,hz0,hz1,hz2⟩:=info_parts info_rat
 have hn:Nat.min s n=s:=Nat.min_eq_left hsn
 have hck:=h.2.1
 have hN:=h.1
 have hone:∀ j,j < s*4→∃ v,w.cell? ⟨b,so+j,none⟩=some v∧v.oneCell'=true:=by
  intro j hj
  have:=(hs (j / 4) (by omega)).one (r:=j % 4) (by omega)
  rwa [show so+j / 4*4+j % 4=so+j by omega] at this
 obtain⟨cs,hcs⟩:∃ cs,cs=(List.range (s*4)).map (fun j=>(w.cell? ⟨b,so+j,none⟩).getD undef):=⟨_,rfl⟩
 have hlen:cs.length=s*4:=by rw [hcs]; simp
 have hat:∀ j v,cs[j]?=some v→w.cell? ⟨b,so+j,none⟩=some v:=by
  intro j v hv
  have hj:j < cs.length:=(List.getElem?_eq_some_iff.1 hv).1
  rw [hlen] at hj
  obtain⟨u,hu,-⟩:=hone j hj
  rw [hcs] at hv
  simp [hj,hu] at hv
  rw [hu,hv]
 have h1:∀ v∈cs,v.oneCell'=true:=by
  intro v hv
  obtain⟨j,hj,hjv⟩:=List.getElem_of_mem hv
  have hj2:=hat j v (by rw [←hjv]; exact List.getElem?_eq_getElem hj)
  rw [hlen] at hj
  obtain⟨u,hu,ho⟩:=hone j hj
  rw [hu] at hj2; have h7:=Option.some.inj hj2; rw [←h7]; exact ho
 have hl:=run_loadCells_list (P:=Tryz.prog) w ⟨b,so,none⟩ cs (fun j v hv=>by rw [add_none]; exact hat j v hv)
 have hc:∀ j,j < cs.length→(w.cell? ⟨g,0+j,none⟩).isSome=true:=by
  intro j hj
  obtain⟨u,hu⟩:=h.there (o:=0+j) (by omega)
  rw [hu]; rfl
 have hf:∀ j,j < cs.length→w.frozen? ⟨g,0+j,none⟩=false:=fun j _=>h.frozen _
 have hst:=run_storeCells_cells (P:=Tryz.prog) g 0 cs 0 w (by simpa using hc) (by simpa using hf) h1
 have hT:=h.noU
 have U:=upd_cells g cs 0 w w (Upd.refl g w)
 have hC:=U.chg hT
 have hin:=World.cell?_setCells_in g cs 0 w hc
 refine⟨w.setCells g 0 cs,?_,?_,hC,U.size⟩
 ·rw [hlen] at hl
  simp [Builtin.copy_,run_underlying ht,Builtin.lenOf,Builtin.firstCells,sizeOf,typeInfo,hi0,hz1,hn,hl,hst,goInt]
 ·obtain⟨a1,a2,⟨cs0,a3,a3'⟩,a4⟩:=h
  refine⟨a1,by omega,?_,fun i hi=>?_⟩
  ·obtain⟨cs',b1,b2⟩:=blk_cells g _ _ cs 0 cs0 w a3
   exact⟨cs',b1,by omega⟩
  ·by_cases hic:s≤i
   ·obtain⟨s',t',d0,d1,d2,d3,g1,g2⟩:=a4 i hi
    simp only [if_neg (show ¬ i < s by omega)]
    refine⟨s',t',?_,?_,?_,?_,g1.chg hC hN,g2.chg hC hN⟩ <;> rw [World.cell?_setCells_out g cs 0 w _ (fun _ _=>.inr (by simp only; omega))] <;> assumption
   ·obtain⟨s',t',d0,d1,d2,d3,g1,g2⟩:=hs i (by omega)
    simp only [if_pos (show i < s by omega)]
    have hget:∀ r v,r < 4→w.cell? ⟨b,so+i*4+r,none⟩=some v→(w.setCells g 0 cs).cell? ⟨g,i*4+r,none⟩=some v:=by
     intro r v hr hv
     have h9:=hin (i*4+r) (by omega)
     rw [Nat.zero_add] at h9
     rw [h9]
     have h8:=hat (i*4+r) _ (List.getElem?_eq_getElem (by omega))
     rw [show so+(i*4+r)=so+i*4+r by omega,hv] at h8
     exact h8.symm
    exact⟨s',t',hget 0 _ (by omega) d0,hget 1 _ (by omega) d1,hget 2 _ (by omega) d2,hget 3 _ (by omega) d3,g1.chg hC hN,g2.chg hC hN⟩
def bst (n:Nat) (K C:Nat→Nat→Rat) (i j a b:Nat):Rat :=
 if a < n then (if b < n then K a b else if b - n < i∨(b - n=i∧a < j) then C (b - n) a else 0)
 else if b < n∧(a - n < i∨(a - n=i∧b < j)) then C (a - n) b else 0
theorem bst_step {n:Nat} {K C B:Nat→Nat→Rat} {i j s:Nat} (hj:j < n) (hB:∀ a,a < s→∀ b,b < s→B a b=bst n K C i j a b) :
  ∀ a,a < s→∀ b,b < s→updM (updM B (n+i) (upd (B (n+i)) j (C i j))) j (upd (updM B (n+i) (upd (B (n+i)) j (C i j)) j) (n+i) (C i j)) a b=bst n K C i (j+1) a b:=by
 intro a ha b hb
 have h0:=hB a ha b hb
 unfold updM upd
 unfold bst at h0 ⊢
 by_cases e1:a=j
 ·subst e1
  rw [if_pos rfl]
  by_cases e2:b=n+i
  ·subst e2
   rw [if_pos rfl,if_pos hj,if_neg (by omega),if_pos (by omega)]
   rw [Nat.add_sub_cancel_left]
  ·rw [if_neg e2,if_neg (by omega),h0,if_pos hj,if_pos hj]
   by_cases e3:b < n
   ·rw [if_pos e3,if_pos e3]
   ·rw [if_neg e3,if_neg e3]
    by_cases e4:b - n < i∨(b - n=i∧a < a)
    ·rw [if_pos e4,if_pos (by omega)]
    ·rw [if_neg e4,if_neg (by omega)]
 ·rw [if_neg e1]
  by_cases e2:a=n+i
  ·subst e2
   rw [if_pos rfl]
   by_cases e3:b=j
   ·subst e3
    rw [if_pos rfl,if_neg (by omega),if_pos (by omega),Nat.add_sub_cancel_left]
   ·rw [if_neg e3,h0,if_neg (show ¬ n+i < n by omega),if_neg (show ¬ n+i < n by omega)]
    by_cases e4:b < n∧(n+i - n < i∨(n+i - n=i∧b < j))
    ·rw [if_pos e4,if_pos (by omega)]
    ·rw [if_neg e4,if_neg (by omega)]
  ·rw [if_neg e2,h0]
   by_cases e3:a < n
   ·rw [if_pos e3,if_pos e3]
    by_cases e4:b < n
    ·rw [if_pos e4,if_pos e4]
    ·rw [if_neg e4,if_neg e4]
     by_cases e5:b - n < i∨(b - n=i∧a < j)
     ·rw [if_pos e5,if_pos (by omega)]
     ·rw [if_neg e5,if_neg (by omega)]
   ·rw [if_neg e3,if_neg e3]
    by_cases e4:b < n∧(a - n < i∨(a - n=i∧b < j))
    ·rw [if_pos e4,if_pos (by omega)]
    ·rw [if_neg e4,if_neg (by omega)]
theorem bst_next (n:Nat) (K C:Nat→Nat→Rat) (i a b:Nat):bst n K C i n a b=bst n K C (i+1) 0 a b:=by
 unfold bst
 by_cases e1:a < n
 ·rw [if_pos e1,if_pos e1]
  by_cases e2:b < n
  ·rw [if_pos e2,if_pos e2]
  ·rw [if_neg e2,if_neg e2]
   by_cases e3:b - n < i∨(b - n=i∧a < n)
   ·rw [if_pos e3,if_pos (by omega)]
   ·rw [if_neg e3,if_neg (by omega)]
 ·rw [if_neg e1,if_neg e1]
  by_cases e3:b < n∧(a - n < i∨(a - n=i∧b < n))
  ·rw [if_pos e3,if_pos (by omega)]
  ·rw [if_neg e3,if_neg (by omega)]
theorem bst_end {n k:Nat} (K C:Nat→Nat→Rat) {a b:Nat} (ha:a < n+k) (hb:b < n+k):bst n K C k 0 a b=bord n K C a b:=by
 unfold bst bord
 by_cases e1:a < n
 ·rw [if_pos e1,if_pos e1]
  by_cases e2:b < n
  ·rw [if_pos e2,if_pos e2]
  ·rw [if_neg e2,if_neg e2,if_pos (by omega)]
 ·rw [if_neg e1,if_neg e1]
  by_cases e2:b < n
  ·rw [if_pos (by omega),if_pos e2]
  ·rw [if_neg (by omega),if_neg e2]
def RetCo (N:Nat) (w:World) (n k:Nat) (ok:Bool) (x:Nat→Rat) (e:Ending) (w':World):Prop :=
 Ext w w'∧((ok=false∧e=.returned (.tuple #[.slice none 0 0,.slice none 0 0,.bool false]))∨(ok=true∧∃ A c A' c',e=.returned (.tuple #[.slice A n c,.slice A' k c',.bool true])∧LsV N 0 w'.heap.size w' (.slice A n c) n x∧LsV N 0 w'.heap.size w' (.slice A' k c') k (fun t=>x (n+t))))
set_option maxRecDepth 100000 in
theorem l34_constrained {N lo hi loc hic lod hid:Nat} {w:World} {v1 v2 v3 vc vd:Value} {m n k:Nat} {X C:Nat→Nat→Rat} {y p d:Nat→Rat} (h1:MtV N lo hi w v1 m n X) (h2:LsV N lo hi w v2 m y) (h3:LsV N lo hi w v3 m p) (hc:MtV N loc hic w vc k n C) (hd:LsV N lod hid w vd k d) (hm0:0 < m) (hm:m≤64) (hn0:0 < n) (hn:n≤24) (hk0:0 < k) (hk:k≤12)
  {q Q P:Nat} (hkx:HtM m n q X) (hky:HtL m q y) (hkp:HtL m q p) (hkc:HtM k n Q C) (hkd:HtL k Q d) (hQ:m*(3*q+1)+3*q+2≤Q) (hP:P=5 ^ (n+k)*(Q+1)) (hK:40*(P+Q+1)+5≤29000000000) :
  Calls Tryz.prog 30 #[.agg #[v1,v2,v3],vc,vd] w (RetCo N w n k (ivB (n+k) (bord n (nmat X p m) C)) (fun i=>sum (n+k) (fun c=>invM (n+k) (bord n (nmat X p m) C) i c*cat n (nrhs X y p m) d c))):=by
 have HX:=Lib.hid hkx
 have HY:=Lib.hid hky
 have HP:=Lib.hid hkp
 have HKK:Hid (HtM n n Q (nmat X p m)):=(nmat_ht hkx hkp (Nat.le_refl _) (Nat.le_refl _)).mono (by omega)
 have HKR:Hid (HtL n Q (nrhs X y p m)):=(nrhs_ht hkx hky hkp (Nat.le_refl _) (Nat.le_refl _)).mono (by omega)
 have HQ:Hid (m*(3*q+1)+3*q+2≤29000000000):=by rw [Hid]; omega
 obtain⟨KM,hKd⟩:=hid_eq (nmat X p m)
 obtain⟨R,hRd⟩:=hid_eq (nrhs X y p m)
 rw [←hKd.out] at HKK ⊢
 rw [←hRd.out] at HKR ⊢
 obtain⟨s,hs⟩:∃ s,s=n+k:=⟨_,rfl⟩
 rw [←hs] at hP ⊢
 have HBH:Hid (HtM s s Q (bord n KM C)):=fun i hi j hj=>by
  unfold bord
  by_cases e1:i < n
  ·rw [if_pos e1]
   by_cases e2:j < n
   ·rw [if_pos e2]; exact HKK.out i e1 j e2
   ·rw [if_neg e2]; exact hkc (j - n) (by omega) i e1
  ·rw [if_neg e1]
   by_cases e2:j < n
   ·rw [if_pos e2]; exact hkc (i - n) (by omega) j e2
   ·rw [if_neg e2]; exact Ht.zero.mono (by omega)
 have HRH:Hid (HtL s Q (cat n R d)):=fun i hi=>by
  unfold cat
  by_cases e1:i < n
  ·rw [if_pos e1]; exact HKR.out i e1
  ·rw [if_neg e1]; exact hkd (i - n) (by omega)
 have HIH:Hid (HtM s s P (invM s (bord n KM C))):=by rw [hP]; exact invM_ht HBH.out
 have HSZ:Hid (5*(5 ^ s*(Q+1))≤29000000000∧s*(P+Q+1)+1≤29000000000):=by
  rw [Hid,←hP]
  have h9:s*(P+Q+1)≤40*(P+Q+1):=Nat.mul_le_mul_right _ (by omega)
  omega
 obtain⟨BM,hBM⟩:=hid_eq (bord n KM C)
 obtain⟨ok,hok⟩:=hid_eq (ivB s (bord n KM C))
 obtain⟨SO,hSO⟩:=hid_eq (fun i=>sum s (fun c=>invM s (bord n KM C) i c*cat n R d c))
 obtain⟨Rf,hRf⟩:=hid_eq (RetCo N w n k ok SO)
 rw [←hok.out,←hSO.out,←hRf.out]
 have hN:=h1.le
 obtain⟨A1,c1,rfl,hmc,hcm⟩:=h1.form
 obtain⟨A2,c2,rfl,hmc2,hcm2⟩:=h2.form
 obtain⟨A3,c3,rfl,hmc3,hcm3⟩:=h3.form
 obtain⟨Ac,cc,rfl,hmcc,hcmc⟩:=hc.form
 obtain⟨Ad,cd,rfl,hmcd,hcmd⟩:=hd.form
 have hI1:=h1
 have hI2:=h2
 have hI3:=h3
 have hIc:=hc
 have hId:=hd
 have hs36:s≤36:=by omega
 have hnks:n+k≤s:=by omega
 have hsnk:s≤n+k:=by omega
 have HSE:=Lib.hid hs
 clear hs
 clear h1 h2 h3 hc hd hkx hky hkp hkc hkd hQ hP hK
 go_enter Tryz.func30,Tryz.ntmps30
 go_upto_region 1 with (fail)
 refine boxes1 ?_
 intro W hE hsz B0
 obtain⟨a0,a1,a2,-⟩:=cells3 B0
 go_wp2_with (go_at_call 15; refine Hid.out ?_)
 refine (l34_normal (hI1.ext hE) (hI2.ext hE) (hI3.ext hE) hm0 (by omega) hn0 (by omega) HX.out HY.out HP.out HQ.out).mono ?_
 rintro e9 w1 ⟨A6,c6,A7,c7,rfl,h6,h7,e1⟩
 rw [←hKd.out] at h6
 rw [←hRd.out] at h7
 replace hE:=hE.trans e1
 replace h6:=MtV.all h6
 replace h7:=LsV.all h7
 obtain⟨b6,off6,rfl,-,-,-⟩:=h6.addr hn0
 clear a0 a1 a2 e1 hsz B0
 have hNw:N≤w1.heap.size:=h6.le
 go_wp2_with (go_at_call 61; refine Hid.out ?_)
 refine (r5_zeros hNw s s (M':=(n:Int)+(k:Int)) (N':=(n:Int)+(k:Int)) (by omega) (by omega) (by omega) (by omega) (by omega)).mono ?_
 rintro e9 w2 ⟨h,cap,β,κ,rfl,hcap,ho,e2⟩
 have hs2:=e2.size
 obtain⟨lo2,hlo2⟩:∃ lo2,lo2=w1.heap.size:=⟨_,rfl⟩
 obtain⟨hi2,hhi2⟩:∃ hi2,hi2=w2.heap.size:=⟨_,rfl⟩
 rw [←hlo2,←hhi2] at ho
 rw [←hlo2] at h6 h7
 have HT6:Hid (∀ wr,Ext w1 wr→MtV N 0 lo2 wr (.slice (some ⟨b6,off6,none⟩) n c6) n n KM):=fun wr e=>h6.ext e
 have HT7:Hid (∀ wr,Ext w1 wr→LsV N 0 lo2 wr (.slice A7 n c7) n R):=fun wr e=>h7.ext e
 clear h6 h7
 go_wp2
 go_loopw [39] (fun i wr=>∃ a:Nat,a≤n∧i=.int .i64 a∧Ext w1 wr∧∃ B,OwnM N lo2 hi2 wr h cap s s β κ B∧Hid (∀ x,x < s→∀ z,z < s→B x z=if x < a∧z < n then KM x z else 0)) (fun i _=>n - (intOf i).toNat)
 case atStart=>exact⟨0,Nat.zero_le _,rfl,e2,_,ho,fun x _ z _=>by rw [if_neg (by omega)]⟩
 case round =>
  clear ho e2
  obtain⟨a,ha,rfl,eW,B,ho,HB⟩:=hrel
  by_cases hlt:a < n
  ·obtain⟨b',off',hA,-,-,hx⟩:=(HT6.out wr eW).addr hn0
   obtain⟨rfl,rfl⟩:b6=b'∧off6=off':=by injection hA with hA; injection hA with e1 e2; exact⟨e1,e2⟩
   obtain⟨Ar,cr,o0,-,-,hrow⟩:=hx a hlt
   obtain⟨br,offr,rfl,-,-,-⟩:=hrow.addr hn0
   have r0:=ho.hcell (i:=a) (by omega)
   clear hx hA
   go_upto_region 7 with (fail)
   have eC:=(Ext.refl wr).drew
   refine region_late (fun w'=>w'.cell? ⟨h,a,none⟩=some (.slice (some ⟨β a,0,none⟩) s (κ a))∧w'.cell? ⟨b6,off6+a,none⟩=some (.slice (some ⟨br,offr,none⟩) n cr)) [8] (by kernel_rfl) (by exact⟨eC.cell r0,eC.cell o0⟩) (fun hHeld=>?_)
   refine sP 0 (h:=?_)
   try simp only [nr]
   refine sP 1 (h:=?_)
   try simp only [nr]
   refine sP 2 (h:=?_)
   try simp only [nr]
   refine sT 3 (h:=?_)
   try simp only [nr]
   refine sP 4 (h:=?_)
   try simp only [nr]
   refine sP 5 (h:=?_)
   try simp only [nr]
   refine sP 6 (h:=?_)
   try simp only [nr]
   refine sT 7 (h:=?_)
   try simp only [nr]
   refine stepL_late (i:=8) rfl (by kernel_rfl) (by kernel_rfl) (fun K hK=>?_)
   obtain⟨bs,offs,hA,-,-,hx⟩:=(hrow.ext eC).addr hn0
   obtain⟨rfl,rfl⟩:br=bs∧offr=offs:=by injection hA with hA; injection hA with e1 e2; exact⟨e1,e2⟩
   obtain⟨w6,hrun,hr6,C6,hs6⟩:=run_copy_row 24 3 Tryz.underlying24 (y:=KM a) ((ho.ext eC).row a (by omega)) (b:=br) (so:=offr) (s:=n) hx (by omega) (dc:=κ a) (sc:=cr)
   refine step_copy_row rfl _ _ _ _ rfl _ _ (by rfl) (by rfl) hrun ?_
   have ho6:=(ho.ext eC).setRow (r:=a) (by omega) C6 hr6
   have eW6:=C6.ext (eW.trans eC) (by have:=ho.lo_ a (by omega); omega)
   have HB6:Hid (∀ x,x < s→∀ z,z < s→updM B a (fun j=>if j < n then KM a j else B a j) x z=if x < a+1∧z < n then KM x z else 0):=fun x hxs z hzs=>by
    unfold updM
    by_cases e1:x=a
    ·subst e1
     rw [if_pos rfl]
     by_cases e2:z < n
     ·rw [if_pos e2,if_pos ⟨by omega,e2⟩]
     ·rw [if_neg e2,HB.out x hxs z hzs,if_neg (by omega),if_neg (by omega)]
    ·rw [if_neg e1,HB.out x hxs z hzs]
     by_cases e2:x < a∧z < n
     ·rw [if_pos e2,if_pos (by omega)]
     ·rw [if_neg e2,if_neg (by omega)]
   refine hK.out _ _ ?_
   clear hK K
   try simp only [nr]
   refine stepL_done (by kernel_rfl) ?_ _
   clear hHeld
   clear r0 o0 hrow ho HB eW eC C6 hr6 hrun hx hA
   go_wp2
   go_roundw
   case rel=>exact⟨a+1,by omega,by go_num,eW6,_,ho6,HB6⟩
   case measure=>simp [intOf]; omega
  ·obtain rfl:n=a:=by omega
   have HB2:Hid (∀ x,x < s→∀ z,z < s→B x z=bst n KM C 0 0 x z):=fun x hx z hz=>by
    rw [HB.out x hx z hz]
    unfold bst
    by_cases e1:x < n
    ·rw [if_pos e1]
     by_cases e2:z < n
     ·rw [if_pos ⟨e1,e2⟩,if_pos e2]
     ·rw [if_neg (by omega),if_neg e2,if_neg (by omega)]
    ·rw [if_neg (by omega),if_neg e1,if_neg (by omega)]
   clear HB
   go_wp2
   go_loopw [54] (fun i wr2=>∃ a:Nat,a≤k∧i=.int .i64 a∧Ext w1 wr2∧∃ B,OwnM N lo2 hi2 wr2 h cap s s β κ B∧Hid (∀ x,x < s→∀ z,z < s→B x z=bst n KM C a 0 x z)) (fun i _=>k - (intOf i).toNat)
   case atStart=>exact⟨0,Nat.zero_le _,rfl,eW,B,ho,HB2⟩
   case round =>
    clear ho eW HB2 B
    obtain⟨a,ha2,rfl,eW,B,ho,HB⟩:=hrel
    by_cases hlta:a < k
    ·obtain⟨bc,offc,rfl,-,-,hx⟩:=(hIc.ext hE).addr hk0
     obtain⟨Ar,cr,o0,-,hcr,hrow⟩:=hx a hlta
     obtain⟨br,offr,rfl,-,-,-⟩:=hrow.addr hn0
     unfold maxLen at hcr
     obtain⟨wi,hwi⟩:∃ wi,wi=wr:=⟨wr,rfl⟩
     subst hwi
     replace o0:=eW.cell o0
     have HRW:Hid (∀ w9,Ext w1 w9→LsV N loc hic w9 (.slice (some ⟨br,offr,none⟩) n cr) n (C a)):=fun w9 e9=>hrow.ext e9
     clear hx hrow
     go_wp2
     clear o0
     go_loopw [61] (fun i wr3=>∃ l:Nat,l≤n∧i=.int .i64 l∧Ext w1 wr3∧∃ B,OwnM N lo2 hi2 wr3 h cap s s β κ B∧Hid (∀ x,x < s→∀ z,z < s→B x z=bst n KM C a l x z)) (fun i _=>n - (intOf i).toNat)
     case atStart=>exact⟨0,Nat.zero_le _,rfl,eW,B,ho,HB⟩
     case round =>
      clear ho HB B eW
      obtain⟨l,hl,rfl,eX,B,ho,HB⟩:=hrel
      by_cases hltl:l < n
      ·obtain⟨bs,offs,hA,-,-,hx⟩:=(HRW.out wr eX).addr hn0
       obtain⟨rfl,rfl⟩:br=bs∧offr=offs:=by injection hA with hA; injection hA with e1 e2; exact⟨e1,e2⟩
       obtain⟨n1,A3,k3,c3',A4,k4,c4,p0,p1,p2,p3,hb1,g1,g2⟩:=(hx l hltl).open
       clear hx hA
       go_upto_region 15 with (fail)
       refine boxes1 ?_
       intro w5 e5 hsz5 B5
       obtain⟨t0,t1,t2,t3,-⟩:=cells4 B5
       have ho5:=ho.ext e5
       obtain⟨na,hna⟩:∃ na,na=n+a:=⟨_,rfl⟩
       have hwr:IntKind.i64.wrap ((n:Int)+(a:Int))=(na:Int):=by rw [Go.IntWalk.i64_in _ (by omega)]; omega
       have hna1:n+a≤na:=by omega
       have hna2:na≤n+a:=by omega
       have HNA:=Lib.hid hna
       clear hna
       have r0:=ho5.hcell (i:=na) (by omega)
       have r1:=ho5.hcell (i:=l) (by omega)
       replace g1:=g1.ext e5
       replace g2:=g2.ext e5
       have eX5:=eX.trans e5
       obtain⟨gz,hgz⟩:∃ gz,gz=wr.heap.size:=⟨_,rfl⟩
       have hgi:=ho.his
       rw [←hgz] at t0 t1 t2 t3 hsz5 hgi ⊢
       have hnl:na≠l:=by omega
       have hws5:=eX5.size
       clear p0 p1 p2 p3 B5 e5 hgz ho eX
       have hne1:=ho5.ne (i:=na) (by omega)
       have hne2:=ho5.ne (i:=l) (by omega)
       have hgb1:=ho5.hi_ na (by omega)
       have hgb2:=ho5.hi_ l (by omega)
       have eC:=(Ext.refl w5).drew
       refine region_late (fun w'=>w'.cell? ⟨h,na,none⟩=some (.slice (some ⟨β (na),0,none⟩) s (κ (na)))∧w'.cell? ⟨h,l,none⟩=some (.slice (some ⟨β l,0,none⟩) s (κ l))∧w'.cell? ⟨gz,0,none⟩=some (.bool n1)∧w'.cell? ⟨gz,1,none⟩=some (.slice A3 k3 c3')∧w'.cell? ⟨gz,2,none⟩=some (.bool false)∧w'.cell? ⟨gz,3,none⟩=some (.slice A4 k4 c4)) [] (by kernel_rfl) (by exact⟨eC.cell r0,eC.cell r1,eC.cell t0,eC.cell t1,eC.cell t2,eC.cell t3⟩) (fun hHeld=>?_)
       refine sP 0 (h:=?_)
       try simp only [nr]
       refine sP 1 (h:=?_)
       try simp only [nr]
       refine sP 2 (h:=?_)
       try simp only [nr]
       refine sP 3 (h:=?_)
       try simp only [nr]
       refine sP 4 (h:=?_)
       try simp only [nr]
       refine sT 5 (h:=?_)
       try simp only [nr]
       refine sP 6 (h:=?_)
       try simp only [nr]
       refine sP 7 (h:=?_)
       try simp only [nr]
       refine sP 8 (h:=?_)
       try simp only [nr]
       refine sP 9 (h:=?_)
       try simp only [nr]
       refine sT 10 (h:=?_)
       try simp only [nr]
       refine sP 11 (h:=?_)
       try simp only [nr]
       refine sP 12 (h:=?_)
       try simp only [nr]
       refine sP 13 (h:=?_)
       try simp only [nr]
       refine sT 14 (h:=?_)
       try simp only [nr]
       refine sT 15 (h:=?_)
       try simp only [nr]
       refine sP 16 (h:=?_)
       try simp only [nr]
       refine stepL_only (i:=17) rfl (by kernel_rfl) (fun K hK=>?_)
       obtain⟨zb,zA,zn,zc,zA2,zn2,zc2,u0,u1,u2,u3,u4,u5,u6,u7,-⟩:=(ho5.row (na) (by omega)).at_ (i:=l) (by omega)
       go_simp
       obtain⟨w6,E6,C6,hs6,hr6⟩:=(ho5.row (na) (by omega)).set (i:=l) (q:=C a l) (by have:=(ho5.row (na) (by omega)).2.1; omega) (by omega) hb1 g1 g2
       rw [E6]
       have ho6:=ho5.setRow (r:=na) (by omega) C6 (hr6.less (n':=s) (by omega))
       have eW6:=C6.ext eX5 (by have:=ho5.lo_ (na) (by omega); omega)
       have hlo9:=ho5.lo_ (na) (by omega)
       replace r0:=C6.cell r0 (by show h < _∨_≤h; omega)
       replace r1:=C6.cell r1 (by show h < _∨_≤h; omega)
       replace t0:=C6.cell t0 (.inr (by show _≤gz; omega))
       replace t1:=C6.cell t1 (.inr (by show _≤gz; omega))
       replace t2:=C6.cell t2 (.inr (by show _≤gz; omega))
       replace t3:=C6.cell t3 (.inr (by show _≤gz; omega))
       replace eC:=(Ext.refl w6).drew
       have g1':=g1.chg C6 (by have:=ho5.le; omega)
       have g2':=g2.chg C6 (by have:=ho5.le; omega)
       clear u0 u1 u2 u3 u4 u5 u6 u7
       clear hHeld
       refine hK.out _ _ (by exact⟨eC.cell r0,eC.cell r1,eC.cell t0,eC.cell t1,eC.cell t2,eC.cell t3⟩) fun hHeld=>?_
       clear hK K
       try simp only [nr]
       refine sP 18 (h:=?_)
       try simp only [nr]
       refine stepL_only (i:=19) rfl (by kernel_rfl) (fun K hK=>?_)
       obtain⟨zb,zA,zn,zc,zA2,zn2,zc2,u0,u1,u2,u3,u4,u5,u6,u7,-⟩:=(ho6.row l (by omega)).at_ (i:=na) (by omega)
       go_simp
       obtain⟨w7,E7,C7,hs7,hr7⟩:=(ho6.row l (by omega)).set (i:=na) (q:=C a l) (by have:=(ho6.row l (by omega)).2.1; omega) (by omega) hb1 g1' g2'
       rw [E7]
       have ho7:=ho6.setRow (r:=l) (by omega) C7 (hr7.less (n':=s) (by omega))
       have eW7:=C7.ext eW6 (by have:=ho6.lo_ l (by omega); omega)
       replace r0:=C7.cell r0 (by show h < _∨_≤h; omega)
       replace r1:=C7.cell r1 (by show h < _∨_≤h; omega)
       replace t0:=C7.cell t0 (.inr (by show _≤gz; omega))
       replace t1:=C7.cell t1 (.inr (by show _≤gz; omega))
       replace t2:=C7.cell t2 (.inr (by show _≤gz; omega))
       replace t3:=C7.cell t3 (.inr (by show _≤gz; omega))
       replace eC:=(Ext.refl w7).drew
       have HB7:=Lib.hid (bst_step hltl HB.out)
       rw [←HNA.out] at HB7
       clear u0 u1 u2 u3 u4 u5 u6 u7
       clear hHeld
       refine hK.out _ _ (by exact⟨eC.cell r0,eC.cell r1,eC.cell t0,eC.cell t1,eC.cell t2,eC.cell t3⟩) fun hHeld=>?_
       clear hK K
       try simp only [nr]
       refine stepL_done (by kernel_rfl) ?_ _
       clear hHeld
       clear t0 t1 t2 t3 r0 r1 g1 g2 g1' g2' hb1 hr6 hr7 C6 C7 ho6 ho5
       have eX7:=eW7
       go_wp2
       go_roundw
       case rel=>exact⟨l+1,by omega,by go_num,eX7.drew,_,ho7.ext (Ext.refl _).drew,HB7⟩
       case measure=>simp [intOf]; omega
      ·obtain rfl:n=l:=by omega
       go_wp2
       go_roundw
       case rel=>exact⟨a+1,by omega,by go_num,eX,B,ho,fun x hxs z hzs=>by rw [HB.out x hxs z hzs]; exact bst_next _ _ _ _ _ _⟩
       case measure=>simp [intOf]; omega
    ·obtain rfl:k=a:=by omega
     have ho2:OwnM N lo2 hi2 wr h cap s s β κ BM:=ho.congr (fun x hxs z hzs=>by
      rw [HB.out x hxs z hzs,hBM.out]
      have h9:=HSE.out
      exact bst_end KM C (by omega) (by omega))
     have hEr:=hE.trans eW
     have hlo1:lo2≤wr.heap.size:=by have:=eW.size; omega
     have hMB:MtV N 0 wr.heap.size wr (.slice (some ⟨h,0,none⟩) s cap) s s BM:=MtV.all (ho2.mtv ho2.mle hcap)
     have h7r:=LsV.all (HT7.out wr eW)
     have hdr:=LsV.all (hId.ext hEr)
     have hNr:N≤wr.heap.size:=h7r.le
     clear ho ho2 HB
     go_wp2_with (at_builtin; refine Hid.out ?_)
     refine boxes1 ?_
     intro w5 e5 hsz5 B5
     refine wpList_append_list rfl _ _ 24 Tryz.underlying24 rfl (by rfl) (Grow.empty hNr (Nat.le_refl _) B5 R) (by rfl) (h7r.ext e5) (by omega:0+n < 1000000000) ?_
     rintro A' c' w6 hG ⟨g',hg',C6,-⟩
     rw [Nat.zero_add] at hG ⊢
     replace hG:Grow N wr.heap.size w6 (.slice A' n c') n R:=hG.congr (fun j _=>by unfold cat; rw [if_neg (by omega),Nat.sub_zero])
     have e6:=C6.ext e5 hg'
     clear e5 B5 C6 hsz5
     go_wp2_with (at_builtin; refine Hid.out ?_)
     refine wpList_append_list rfl _ _ 24 Tryz.underlying24 rfl (by rfl) hG (by rfl) (hdr.ext e6) (by omega:n+k < 1000000000) ?_
     rintro A8 c8 w7 hG7 ⟨g8,hg8,C8,-⟩
     have e7:=C8.ext e6 hg8
     have hRR:LsV N 0 w7.heap.size w7 (.slice A8 (n+k) c8) (n+k) (cat n R d):=hG7.lsv (Nat.zero_le _) rfl
     have hMB7:=MtV.all (hMB.ext e7)
     have hE7:=hEr.trans e7
     rw [←HSE.out] at hRR
     clear hG hG7 C8 e6 e7 hMB h7r hdr hlo1
     obtain⟨hnc8,hcm8⟩:n+k≤c8∧c8≤maxLen:=by
      obtain⟨Ax,cx,hvx,h8,h9⟩:=hRR.form
      injection hvx with ex1 ex2 ex3
      subst ex3
      exact⟨by rw [←HSE.out]; exact h8,h9⟩
     go_wp2_with (go_at_call 71; refine Hid.out ?_)
     refine (r5_inverse hMB7 (by omega) (by omega) (by rw [hBM.out]; exact HBH.out) HSZ.out.1).mono ?_
     have hok2:=hok.out
     rw [←hBM.out] at hok2
     rw [←hok2]
     rintro e9 w8 ⟨e8,⟨h9,rfl⟩ | ⟨h9,A9,c9,rfl,h9'⟩⟩
     ·go_wp2
      first | go_ret3 | skip
      rw [hRf.out]
      exact⟨hE7.trans e8,.inl ⟨h9,rfl⟩⟩
     have HOK:=Lib.hid h9
     clear h9 hMB7 hok2
     replace h9':=MtV.all h9'
     have hRR8:=LsV.all (hRR.ext e8)
     rw [HSE.out] at hRR8
     go_wp2_with (go_at_call 26; refine Hid.out ?_)
     rw [←HSE.out] at hRR8 ⊢
     refine (r5_apply h9' hRR8 (by omega) (by omega) (by omega) (by rw [hBM.out]; exact HIH.out) HRH.out HSZ.out.2).mono ?_
     have hSO2:=hSO.out
     rw [←hBM.out] at hSO2
     rw [←hSO2]
     rintro e9 w9 ⟨A10,c10,rfl,h10,e10⟩
     replace h10:=LsV.all h10
     have hE9:=hE7.trans (e8.trans e10)
     obtain⟨b10,off10,rfl,-,-,-⟩:=h10.addr (by omega)
     obtain⟨hnc10,hcm10⟩:s≤c10∧c10≤maxLen:=by
      obtain⟨Ax,cx,hvx,h8,h9⟩:=h10.form
      injection hvx with ex1 ex2 ex3
      subst ex3
      exact⟨h8,h9⟩
     have hs1:=LsV.sub h10 (show 0 < n by omega) (show n≤s by omega) (show n - 0≤c10 by omega) hcm10
     have hs2':=LsV.sub h10 (show n < s by omega) (Nat.le_refl s) (show s - n≤c10 - n by omega) (by unfold maxLen at hcm10 ⊢; omega)
     rw [Nat.zero_mul,Nat.add_zero,Nat.sub_zero] at hs1
     rw [show s - n=k by omega] at hs2'
     replace hs1:=hs1.congr (y:=SO) (fun i _=>by rw [Nat.zero_add])
     have hl1:¬ c10=0:=by omega
     have hl2:¬ c10=n:=by omega
     have hl3:n≤s:=by omega
     have hl4:s - n=k:=by omega
     have hl5:n≤c10:=by omega
     unfold maxLen at hcm10
     clear h10 hRR hRR8 h9' e8 e10 hSO2
     go_upto_region 23 with (fail)
     refine region_inv [Mn.eq (.slice (some ⟨b10,off10,none⟩) s c10),Mn.eq (.int .i64 (n:Int)),Mn.eq (.slice (some ⟨b10,off10,none⟩) n c10),Mn.eq (.slice (some ⟨b10,off10,none⟩) s c10),Mn.eq (.int .i64 (n:Int)),Mn.eq (.slice (some ⟨b10,off10+n*4,none⟩) k (c10 - n)),Mn.eq (.slice (some ⟨b10,off10,none⟩) n c10),Mn.eq (.slice (some ⟨b10,off10+n*4,none⟩) k (c10 - n)),Mn.eq (.bool true)] [some 101,some 102,some 103,some 104,some 105,some 106,some 6,some 7,some 8] [] [true,true,true,true,true,true,true,true,true] 0 (by kernel_rfl) (by kernel_rfl) (by kernel_rfl) (by kernel_rfl) (by kernel_rfl) (by kernel_rfl) (by kernel_rfl) (by kernel_rfl) ?_ ?_
     ·intro i hi hl
      have hi':i=0∨i=1∨i=2∨i=3∨i=4∨i=5∨i=6∨i=7∨i=8:=by have h9:i < 9:=hi; omega
      clear hi
      rcases hi' with rfl | rfl | rfl | rfl | rfl | rfl | rfl | rfl | rfl
      ·clear hl
       refine stp rfl ?_
       intro ac wi eI hB hA K hK
       have o21:=hB 21 (by kernel_rfl)
       simp only [List.getElem?_toArray,List.getElem?_cons_succ,List.getElem?_cons_zero] at o21
       clear hB hA
       go_simp
       exact hK.out _ _ (Ext.refl _) rfl
      ·clear hl
       refine stp rfl ?_
       intro ac wi eI hB hA K hK
       have o11:=hB 11 (by kernel_rfl)
       simp only [List.getElem?_toArray,List.getElem?_cons_succ,List.getElem?_cons_zero] at o11
       clear hB hA
       go_simp
       exact hK.out _ _ (Ext.refl _) rfl
      ·clear hl
       refine stp rfl ?_
       intro ac wi eI hB hA K hK
       obtain⟨x101,s101,j101⟩:=hA 0 (by kernel_rfl) 101 rfl
       obtain rfl:x101=(.slice (some ⟨b10,off10,none⟩) s c10):=j101
       obtain⟨x102,s102,j102⟩:=hA 1 (by kernel_rfl) 102 rfl
       obtain rfl:x102=(.int .i64 (n:Int)):=j102
       clear hB hA
       go_simp
       exact hK.out _ _ (Ext.refl _) rfl
      ·clear hl
       refine stp rfl ?_
       intro ac wi eI hB hA K hK
       have o21:=hB 21 (by kernel_rfl)
       simp only [List.getElem?_toArray,List.getElem?_cons_succ,List.getElem?_cons_zero] at o21
       clear hB hA
       go_simp
       exact hK.out _ _ (Ext.refl _) rfl
      ·clear hl
       refine stp rfl ?_
       intro ac wi eI hB hA K hK
       have o11:=hB 11 (by kernel_rfl)
       simp only [List.getElem?_toArray,List.getElem?_cons_succ,List.getElem?_cons_zero] at o11
       clear hB hA
       go_simp
       exact hK.out _ _ (Ext.refl _) rfl
      ·clear hl
       refine stp rfl ?_
       intro ac wi eI hB hA K hK
       obtain⟨x104,s104,j104⟩:=hA 3 (by kernel_rfl) 104 rfl
       obtain rfl:x104=(.slice (some ⟨b10,off10,none⟩) s c10):=j104
       obtain⟨x105,s105,j105⟩:=hA 4 (by kernel_rfl) 105 rfl
       obtain rfl:x105=(.int .i64 (n:Int)):=j105
       clear hB hA
       go_simp
       exact hK.out _ _ (Ext.refl _) rfl
      ·clear hl
       refine stp rfl ?_
       intro ac wi eI hB hA K hK
       obtain⟨x103,s103,j103⟩:=hA 2 (by kernel_rfl) 103 rfl
       obtain rfl:x103=(.slice (some ⟨b10,off10,none⟩) n c10):=j103
       clear hB hA
       go_simp
       exact hK.out _ _ (Ext.refl _) rfl
      ·clear hl
       refine stp rfl ?_
       intro ac wi eI hB hA K hK
       obtain⟨x106,s106,j106⟩:=hA 5 (by kernel_rfl) 106 rfl
       obtain rfl:x106=(.slice (some ⟨b10,off10+n*4,none⟩) k (c10 - n)):=j106
       clear hB hA
       go_simp
       exact hK.out _ _ (Ext.refl _) rfl
      ·clear hl
       refine stp rfl ?_
       intro ac wi eI hB hA K hK
       clear hB hA
       go_simp
       exact hK.out _ _ (Ext.refl _) rfl
     intro vals wz eZ hJ
     have J101:vals 0=(.slice (some ⟨b10,off10,none⟩) s c10):=hJ 0 (by decide) (by decide)
     have J102:vals 1=(.int .i64 (n:Int)):=hJ 1 (by decide) (by decide)
     have J103:vals 2=(.slice (some ⟨b10,off10,none⟩) n c10):=hJ 2 (by decide) (by decide)
     have J104:vals 3=(.slice (some ⟨b10,off10,none⟩) s c10):=hJ 3 (by decide) (by decide)
     have J105:vals 4=(.int .i64 (n:Int)):=hJ 4 (by decide) (by decide)
     have J106:vals 5=(.slice (some ⟨b10,off10+n*4,none⟩) k (c10 - n)):=hJ 5 (by decide) (by decide)
     have J6:vals 6=(.slice (some ⟨b10,off10,none⟩) n c10):=hJ 6 (by decide) (by decide)
     have J7:vals 7=(.slice (some ⟨b10,off10+n*4,none⟩) k (c10 - n)):=hJ 7 (by decide) (by decide)
     have J8:vals 8=(.bool true):=hJ 8 (by decide) (by decide)
     clear hJ
     simp only [putAll,if_true,Bool.false_eq_true,if_false,Act.put,Nat.zero_add,Nat.reduceAdd,List.setIfInBounds_toArray,List.set_cons_zero,List.set_cons_succ,J101,J102,J103,J104,J105,J106,J6,J7,J8]
     clear J101 J102 J103 J104 J105 J106 J6 J7 J8
     refine stepL_done (by kernel_rfl) ?_ _
     go_wp2
     first | go_ret3 | skip
     rw [hRf.out]
     exact⟨hE9.trans eZ,.inr ⟨HOK.out,_,_,_,_,rfl,LsV.all (hs1.ext eZ),LsV.all (hs2'.ext eZ)⟩⟩
theorem sign_zero {x y:Rat}:(x - y).num.sign=0↔x=y:=by
 constructor
 ·intro h
  have h1:=Int.sign_eq_zero_iff_zero.1 h
  have h2:=Rat.num_eq_zero.1 h1
  grind
 ·rintro rfl
  rw [Rat.sub_self]; rfl
theorem r2_sameD {N:Nat} {w:World} {v v':Value} {x y:Rat} (h:RatV N w v x) (h':RatV N w v' y) (hz:Sz x) (hz':Sz y) (hd:Sz (x - y)) :
  Calls Tryz.prog 36 #[v,v'] w (RetV w (.bool (decide (x=y)))):=by
 obtain⟨r,hr⟩:=hid_eq (decide (x=y))
 obtain⟨s,hs⟩:=hid_eq (x - y).num.sign
 have hrs:r=decide (s=0):=by
  rw [hr.out,hs.out]
  by_cases he:x=y
  ·rw [decide_eq_true he,decide_eq_true (sign_zero.2 he)]
  ·rw [decide_eq_false he,decide_eq_false (fun h=>he (sign_zero.1 h))]
 rw [←hr.out]
 have HD:=Lib.hid hd
 have hI:=h
 have hI':=h'
 have HZ:=Lib.hid hz
 have HZ':=Lib.hid hz'
 have HR:=Lib.hid hrs
 obtain⟨m1,X1,i1,d1,X2,i2,d2,rfl,hm1,gx1,gx2⟩:=h.parts
 obtain⟨m2,Y1,i3,d3,Y2,i4,d4,rfl,hm2,gy1,gy2⟩:=h'.parts
 clear hz hz' hd h h' gx1 gx2 gy1 gy2 hrs
 go_enter Tryz.func36,Tryz.ntmps36
 go_wp2_with (go_at_call 43; refine Hid.out ?_)
 refine boxesC2 ?_
 intro W hE hsz B0 B1
 refine (r2_valid (R:=raw x) (hI.ext hE) (sz_len HZ.out).1 (sz_len HZ.out).2).mono ?_
 rintro e w1 ⟨rfl,e1⟩
 rw [okR_raw]
 replace hE:=hE.trans e1
 replace B0:=e1.block B0
 replace B1:=e1.block B1
 obtain⟨b0,b1,b2,b3,-⟩:=cells4 B1
 go_wp2_with (go_at_call 43; refine Hid.out ?_)
 refine (r2_valid (R:=raw y) (hI'.ext hE) (sz_len HZ'.out).1 (sz_len HZ'.out).2).mono ?_
 rintro e w2 ⟨rfl,e2⟩
 rw [okR_raw]
 replace hE:=hE.trans e2
 replace B0:=e2.block B0
 replace B1:=e2.block B1
 clear b0 b1 b2 b3
 obtain⟨a0,a1,a2,a3,-⟩:=cells4 B0
 obtain⟨b0,b1,b2,b3,-⟩:=cells4 B1
 go_wp2_with (go_at_call 20; refine Hid.out ?_)
 refine (r2_compare (hI.ext hE) (hI'.ext hE) HZ.out HZ'.out HD.out).mono ?_
 rintro e w3 ⟨rfl,e3⟩
 rw [←hs.out]
 by_cases h0:s=0
 ·have HR1:Hid (r=true):=by rw [Hid,HR.out,decide_eq_true h0]
  subst h0
  go_wp2
  go_ret
  exact⟨ret_bool HR1.out.symm,hE.trans e3⟩
 ·have HR1:Hid (r=false):=by rw [Hid,HR.out,decide_eq_false h0]
  have hs0:(s == 0)=false:=by simpa using h0
  go_wp2
  go_ret
  exact⟨ret_bool HR1.out.symm,hE.trans e3⟩
theorem r2_sameListD {N lo hi lo' hi':Nat} {w:World} {v v':Value} {n:Nat} {x y:Nat→Rat} (h:LsV N lo hi w v n x) (h':LsV N lo' hi' w v' n y) (hz:∀ i,i < n→Sz (x i)∧Sz (y i)∧Sz (x i - y i)) :
  Calls Tryz.prog 25 #[v,v'] w (RetV w (.bool (allB n (fun i=>decide (x i=y i))))):=by
 obtain⟨r,hr⟩:=hid_eq (allB n (fun i=>decide (x i=y i)))
 rw [←hr.out]
 obtain⟨A,c,rfl,hnc,hcm⟩:=h.form
 obtain⟨A',c',rfl,hnc',hcm'⟩:=h'.form
 unfold maxLen at hcm hcm'
 have hI:=h
 have hI':=h'
 have HZ:=Lib.hid hz
 clear hz h h'
 go_enter Tryz.func25,Tryz.ntmps25
 go_wp2
 go_loopw [5] (fun i wr=>∃ k:Nat,k≤n∧i=.int .i64 k∧Ext w wr∧Hid (∀ j,j < k→decide (x j=y j)=true)) (fun i _=>n - (intOf i).toNat)
 case atStart=>exact⟨0,Nat.zero_le _,rfl,Ext.refl w,fun j hj=>absurd hj (by omega)⟩
 case round =>
  obtain⟨k,hk,rfl,hE,HA⟩:=hrel
  by_cases hlt:k < n
  ·obtain⟨b,off,rfl,-,-,hx⟩:=(hI.ext hE).addr (by omega)
   obtain⟨b',off',rfl,-,-,hx'⟩:=(hI'.ext hE).addr (by omega)
   obtain⟨A1,n1,c1,A2,n2,c2,p0,p1,p2,p3,hv⟩:=(hx k hlt).val
   obtain⟨A3,n3,c3,A4,n4,c4,q0,q1,q2,q3,hv'⟩:=(hx' k hlt).val
   obtain⟨o,ho⟩:=hid_eq (decide (x k=y k))
   clear hx hx'
   go_wp2
   go_cut [26] (fun pb wx=>pb=.bool (!o)∧Ext wr wx)
   case first =>
    have eC:=(Ext.refl wr).drew
    refine region_late (fun w'=>w'.cell? ⟨b,off+k*4,none⟩=some (.bool (raw (x k)).b1)∧w'.cell? ⟨b,off+k*4+1,none⟩=some (.slice A1 n1 c1)∧w'.cell? ⟨b,off+k*4+2,none⟩=some (.bool (raw (x k)).b2)∧w'.cell? ⟨b,off+k*4+3,none⟩=some (.slice A2 n2 c2)∧w'.cell? ⟨b',off'+k*4,none⟩=some (.bool (raw (y k)).b1)∧w'.cell? ⟨b',off'+k*4+1,none⟩=some (.slice A3 n3 c3)∧w'.cell? ⟨b',off'+k*4+2,none⟩=some (.bool (raw (y k)).b2)∧w'.cell? ⟨b',off'+k*4+3,none⟩=some (.slice A4 n4 c4)) [] (by kernel_rfl) (by exact⟨eC.cell p0,eC.cell p1,eC.cell p2,eC.cell p3,eC.cell q0,eC.cell q1,eC.cell q2,eC.cell q3⟩) (fun hHeld=>?_)
    refine sP 0 (h:=?_)
    try simp only [nr]
    refine sP 1 (h:=?_)
    try simp only [nr]
    refine sP 2 (h:=?_)
    try simp only [nr]
    refine sT 3 (h:=?_)
    try simp only [nr]
    refine sP 4 (h:=?_)
    try simp only [nr]
    refine sP 5 (h:=?_)
    try simp only [nr]
    refine sP 6 (h:=?_)
    try simp only [nr]
    refine sT 7 (h:=?_)
    try simp only [nr]
    refine stepL_only (i:=8) rfl (by kernel_rfl) (fun K hK=>?_)
    go_simp
    refine (r2_sameD (x:=x k) (y:=y k) (by exact hv.ext eC) (by exact hv'.ext eC) (HZ.out k hlt).1 (HZ.out k hlt).2.1 (HZ.out k hlt).2.2).mono ?_
    rw [←ho.out]
    rintro e w1 ⟨rfl,e1⟩
    replace eC:=eC.trans e1
    go_wp2_with fail
    clear hHeld
    refine hK.out _ _ (by exact⟨eC.cell p0,eC.cell p1,eC.cell p2,eC.cell p3,eC.cell q0,eC.cell q1,eC.cell q2,eC.cell q3⟩) fun hHeld=>?_
    clear hK K
    try simp only [nr]
    refine sP 9 (h:=?_)
    try simp only [nr]
    refine stepL_done (by kernel_rfl) ?_ _
    clear hHeld
    go_wp2_with fail
    go_meet
    exact⟨rfl,eC⟩
   case rest =>
    obtain⟨rfl,e1⟩:=hcut
    replace hE:=hE.trans e1
    have HO:Hid (decide (x k=y k)=o):=ho.out.symm
    clear p0 p1 p2 p3 q0 q1 q2 q3 hv hv' ho
    cases ho':o with
    | true =>
     subst ho'
     go_wp2
     go_roundw
     case rel=>exact⟨k+1,by omega,by go_num,hE,all_succ (p:=fun j=>decide (x j=y j)=true) HA.out HO.out⟩
     case measure=>simp [intOf]; omega
    | false =>
     subst ho'
     have HF:Hid (r=false):=by rw [Hid,hr.out]; exact allB_false hlt HO.out
     go_wp2
     go_ret
     exact⟨ret_bool HF.out.symm,hE⟩
  ·have HF:Hid (r=true):=by rw [Hid,hr.out]; exact allB_true.2 (fun j hj=>HA.out j (by omega))
   go_wp2
   go_ret
   exact⟨ret_bool HF.out.symm,hE⟩
theorem shM_all {most m:Nat} {L:Nat→Nat} {R:Nat→Nat→Raw} (h:shM most m L R=true):m≤most∧∀ i,i < m→L i≤most∧∀ j,j < L i→briefB (R i j)=true:=by
 unfold shM at h
 rw [Bool.and_eq_true,decide_eq_true_eq,allB_true] at h
 exact⟨h.1,fun i hi=>shB_all (h.2 i hi)⟩
theorem con_k {k:Nat} (h:k≤3∨12 < k):(¬ 3 < k∧decide (3 < k)=false∧True∧True)∨(3 < k∧decide (3 < k)=true∧¬ k≤12∧decide (k≤12)=false):=by
 rcases h with h | h
 ·exact .inl ⟨by omega,by simp; omega,trivial,trivial⟩
 ·exact .inr ⟨by omega,by simp; omega,by omega,by simp; omega⟩
theorem con_zero {n k:Nat} {L:Nat→Nat} {C:Nat→Nat→Raw} {nd:Nat} {D:Nat→Raw} (h:conCode n k L C nd D=0):(∀ i,i < k→∀ j,j < L i→okR (C i j)=true)∧(∀ i,i < nd→okR (D i)=true)∧1≤k∧k≤12∧(∀ i,i < k→L i=n)∧nd=k:=by
 unfold conCode at h
 by_cases h1:allB k (fun i=>allB (L i) (fun j=>okR (C i j)))=false
 ·rw [if_pos h1] at h; exact absurd h (by decide)
 rw [if_neg h1] at h
 by_cases h2:allB nd (fun i=>okR (D i))=false
 ·rw [if_pos h2] at h; exact absurd h (by decide)
 rw [if_neg h2] at h
 by_cases h3:k < 1∨12 < k
 ·rw [if_pos h3] at h; exact absurd h (by decide)
 rw [if_neg h3] at h
 by_cases h4:allB k (fun i=>decide (L i=n))=false
 ·rw [if_pos h4] at h; exact absurd h (by decide)
 rw [if_neg h4] at h
 by_cases h5:nd≠k
 ·rw [if_pos h5] at h; exact absurd h (by decide)
 have g1:allB k (fun i=>allB (L i) (fun j=>okR (C i j)))=true:=by simpa using h1
 have g2:allB nd (fun i=>okR (D i))=true:=by simpa using h2
 have g4:allB k (fun i=>decide (L i=n))=true:=by simpa using h4
 rw [allB_true] at g1 g2 g4
 exact⟨fun i hi j hj=>allB_true.1 (g1 i hi) j hj,g2,by omega,by omega,fun i hi=>of_decide_eq_true (g4 i hi),by omega⟩
set_option maxRecDepth 100000 in
theorem con_out {N lo hi loc hic lod hid lor hir:Nat} {w:World} {v vc vd vr:Value} {Z:Lin} {k nd nx:Nat} {L:Nat→Nat} {C:Nat→Nat→Raw} {D R:Nat→Raw} (hI:LinV N lo hi w v Z) (hIC:MtR N loc hic w vc k L C) (hID:LsR N lod hid w vd nd D) (hIR:LsR N lor hir w vr nx R)
  (hs:few34 6 4 Z=false∨(few34 6 4 Z=true∧(shM 14 k L C=false∨(shM 14 k L C=true∧((3 < k∧k≤12)∨((k≤3∨12 < k)∧(shB 14 nd D=false∨(shB 14 nd D=true∧shB 8 nx R=false)))))))) :
  Calls Tryz.prog 5 #[v,.agg #[vc,vd],vr] w (RetV w (.bool true)):=by
 have hI0:=hI
 obtain⟨A1,c1,A2,c2,A3,c3,rfl,-⟩:=hI0.parts
 clear hI0
 obtain⟨A4,c4,rfl,-⟩:=hIC.form
 obtain⟨A5,c5,rfl,-⟩:=hID.form
 obtain⟨A6,c6,rfl,-⟩:=hIR.form
 rcases hs with hs | ⟨hs,hs⟩
 ·have HS:=Lib.hid hs
  clear hs
  go_enter Tryz.func5,Tryz.ntmps5
  go_wp2_with (go_at_call 10; refine Hid.out ?_)
  refine boxesC2 ?_
  intro W hE hsz B0 B1
  refine (l34_known W).mono ?_
  rintro e w1 ⟨rfl,e1⟩
  replace hE:=hE.trans e1
  replace B0:=e1.block B0
  replace B1:=e1.block B1
  have hsz1:=blk_lt B1
  clear e1 hsz
  obtain⟨a0,a1,a2,-⟩:=cells3 B0
  obtain⟨d0,d1,-⟩:=cells2 B1
  go_wp2_with (go_at_call 11; refine Hid.out ?_)
  refine (l34_few (hI.ext hE) 6 4 rfl rfl (by omega) (by omega)).mono ?_
  rintro e w2 ⟨rfl,e2⟩
  rw [HS.out]
  replace hE:=hE.trans e2
  replace B0:=e2.block B0
  replace B1:=e2.block B1
  replace hsz1:=blk_lt B1
  clear a0 a1 a2 d0 d1
  obtain⟨a0,a1,a2,-⟩:=cells3 B0
  obtain⟨d0,d1,-⟩:=cells2 B1
  clear e2
  go_wp2
  go_ret
  exact⟨rfl,hE⟩
 rename_i hs0
 have HS:=Lib.hid hs0
 clear hs0
 rcases hs with hs | ⟨hm,hs⟩
 ·have HM:=Lib.hid hs
  clear hs
  go_enter Tryz.func5,Tryz.ntmps5
  go_wp2_with (go_at_call 10; refine Hid.out ?_)
  refine boxesC2 ?_
  intro W hE hsz B0 B1
  refine (l34_known W).mono ?_
  rintro e w1 ⟨rfl,e1⟩
  replace hE:=hE.trans e1
  replace B0:=e1.block B0
  replace B1:=e1.block B1
  have hsz1:=blk_lt B1
  clear e1 hsz
  obtain⟨a0,a1,a2,-⟩:=cells3 B0
  obtain⟨d0,d1,-⟩:=cells2 B1
  go_wp2_with (go_at_call 11; refine Hid.out ?_)
  refine (l34_few (hI.ext hE) 6 4 rfl rfl (by omega) (by omega)).mono ?_
  rintro e w2 ⟨rfl,e2⟩
  rw [HS.out]
  replace hE:=hE.trans e2
  replace B0:=e2.block B0
  replace B1:=e2.block B1
  replace hsz1:=blk_lt B1
  clear a0 a1 a2 d0 d1
  obtain⟨a0,a1,a2,-⟩:=cells3 B0
  obtain⟨d0,d1,-⟩:=cells2 B1
  clear e2
  go_wp2_with (go_at_call 27; refine Hid.out ?_)
  refine (r2_shortMatrix (hIC.ext hE) 14 rfl (by omega)).mono ?_
  rintro e w3 ⟨rfl,e3⟩
  rw [HM.out]
  replace hE:=hE.trans e3
  replace B0:=e3.block B0
  replace B1:=e3.block B1
  replace hsz1:=blk_lt B1
  clear a0 a1 a2 d0 d1
  obtain⟨a0,a1,a2,-⟩:=cells3 B0
  obtain⟨d0,d1,-⟩:=cells2 B1
  clear e3
  go_wp2
  go_ret
  exact⟨rfl,hE⟩
 have HM:=Lib.hid hm
 clear hm
 rcases hs with ⟨hk1,hk2⟩ | ⟨hk,hs⟩
 ·have t1:decide (3 < k)=true:=by simpa using hk1
  have t2:decide (k≤12)=true:=by simpa using hk2
  go_enter Tryz.func5,Tryz.ntmps5
  go_wp2_with (go_at_call 10; refine Hid.out ?_)
  refine boxesC2 ?_
  intro W hE hsz B0 B1
  refine (l34_known W).mono ?_
  rintro e w1 ⟨rfl,e1⟩
  replace hE:=hE.trans e1
  replace B0:=e1.block B0
  replace B1:=e1.block B1
  have hsz1:=blk_lt B1
  clear e1 hsz
  obtain⟨a0,a1,a2,-⟩:=cells3 B0
  obtain⟨d0,d1,-⟩:=cells2 B1
  go_wp2_with (go_at_call 11; refine Hid.out ?_)
  refine (l34_few (hI.ext hE) 6 4 rfl rfl (by omega) (by omega)).mono ?_
  rintro e w2 ⟨rfl,e2⟩
  rw [HS.out]
  replace hE:=hE.trans e2
  replace B0:=e2.block B0
  replace B1:=e2.block B1
  replace hsz1:=blk_lt B1
  clear a0 a1 a2 d0 d1
  obtain⟨a0,a1,a2,-⟩:=cells3 B0
  obtain⟨d0,d1,-⟩:=cells2 B1
  clear e2
  go_wp2_with (go_at_call 27; refine Hid.out ?_)
  refine (r2_shortMatrix (hIC.ext hE) 14 rfl (by omega)).mono ?_
  rintro e w3 ⟨rfl,e3⟩
  rw [HM.out]
  replace hE:=hE.trans e3
  replace B0:=e3.block B0
  replace B1:=e3.block B1
  replace hsz1:=blk_lt B1
  clear a0 a1 a2 d0 d1
  obtain⟨a0,a1,a2,-⟩:=cells3 B0
  obtain⟨d0,d1,-⟩:=cells2 B1
  clear e3
  go_wp2
  go_ret
  exact⟨rfl,hE⟩
 rcases hs with hs | ⟨hd,hs⟩
 ·have HD:=Lib.hid hs
  clear hs
  rcases con_k hk with ⟨t0,t1,t2,t3⟩ | ⟨t0,t1,t2,t3⟩
  all_goals
   clear hk
   go_enter Tryz.func5,Tryz.ntmps5
   go_wp2_with (go_at_call 10; refine Hid.out ?_)
   refine boxesC2 ?_
   intro W hE hsz B0 B1
   refine (l34_known W).mono ?_
   rintro e w1 ⟨rfl,e1⟩
   replace hE:=hE.trans e1
   replace B0:=e1.block B0
   replace B1:=e1.block B1
   have hsz1:=blk_lt B1
   clear e1 hsz
   obtain⟨a0,a1,a2,-⟩:=cells3 B0
   obtain⟨d0,d1,-⟩:=cells2 B1
   go_wp2_with (go_at_call 11; refine Hid.out ?_)
   refine (l34_few (hI.ext hE) 6 4 rfl rfl (by omega) (by omega)).mono ?_
   rintro e w2 ⟨rfl,e2⟩
   rw [HS.out]
   replace hE:=hE.trans e2
   replace B0:=e2.block B0
   replace B1:=e2.block B1
   replace hsz1:=blk_lt B1
   clear a0 a1 a2 d0 d1
   obtain⟨a0,a1,a2,-⟩:=cells3 B0
   obtain⟨d0,d1,-⟩:=cells2 B1
   clear e2
   go_wp2_with (go_at_call 27; refine Hid.out ?_)
   refine (r2_shortMatrix (hIC.ext hE) 14 rfl (by omega)).mono ?_
   rintro e w3 ⟨rfl,e3⟩
   rw [HM.out]
   replace hE:=hE.trans e3
   replace B0:=e3.block B0
   replace B1:=e3.block B1
   replace hsz1:=blk_lt B1
   clear a0 a1 a2 d0 d1
   obtain⟨a0,a1,a2,-⟩:=cells3 B0
   obtain⟨d0,d1,-⟩:=cells2 B1
   clear e3
   go_wp2_with (go_at_call 12; refine Hid.out ?_)
   refine (r2_short (hID.ext hE) 14 rfl (by omega)).mono ?_
   rintro e w3 ⟨rfl,e3⟩
   rw [HD.out]
   replace hE:=hE.trans e3
   replace B0:=e3.block B0
   replace B1:=e3.block B1
   replace hsz1:=blk_lt B1
   clear a0 a1 a2 d0 d1
   obtain⟨a0,a1,a2,-⟩:=cells3 B0
   obtain⟨d0,d1,-⟩:=cells2 B1
   clear e3
   go_wp2
   go_ret
   exact⟨rfl,hE⟩
 ·have HD:=Lib.hid hd
  have HR:=Lib.hid hs
  clear hs hd
  rcases con_k hk with ⟨t0,t1,t2,t3⟩ | ⟨t0,t1,t2,t3⟩
  all_goals
   clear hk
   go_enter Tryz.func5,Tryz.ntmps5
   go_wp2_with (go_at_call 10; refine Hid.out ?_)
   refine boxesC2 ?_
   intro W hE hsz B0 B1
   refine (l34_known W).mono ?_
   rintro e w1 ⟨rfl,e1⟩
   replace hE:=hE.trans e1
   replace B0:=e1.block B0
   replace B1:=e1.block B1
   have hsz1:=blk_lt B1
   clear e1 hsz
   obtain⟨a0,a1,a2,-⟩:=cells3 B0
   obtain⟨d0,d1,-⟩:=cells2 B1
   go_wp2_with (go_at_call 11; refine Hid.out ?_)
   refine (l34_few (hI.ext hE) 6 4 rfl rfl (by omega) (by omega)).mono ?_
   rintro e w2 ⟨rfl,e2⟩
   rw [HS.out]
   replace hE:=hE.trans e2
   replace B0:=e2.block B0
   replace B1:=e2.block B1
   replace hsz1:=blk_lt B1
   clear a0 a1 a2 d0 d1
   obtain⟨a0,a1,a2,-⟩:=cells3 B0
   obtain⟨d0,d1,-⟩:=cells2 B1
   clear e2
   go_wp2_with (go_at_call 27; refine Hid.out ?_)
   refine (r2_shortMatrix (hIC.ext hE) 14 rfl (by omega)).mono ?_
   rintro e w3 ⟨rfl,e3⟩
   rw [HM.out]
   replace hE:=hE.trans e3
   replace B0:=e3.block B0
   replace B1:=e3.block B1
   replace hsz1:=blk_lt B1
   clear a0 a1 a2 d0 d1
   obtain⟨a0,a1,a2,-⟩:=cells3 B0
   obtain⟨d0,d1,-⟩:=cells2 B1
   clear e3
   go_wp2_with (go_at_call 12; refine Hid.out ?_)
   refine (r2_short (hID.ext hE) 14 rfl (by omega)).mono ?_
   rintro e w3 ⟨rfl,e3⟩
   rw [HD.out]
   replace hE:=hE.trans e3
   replace B0:=e3.block B0
   replace B1:=e3.block B1
   replace hsz1:=blk_lt B1
   clear a0 a1 a2 d0 d1
   obtain⟨a0,a1,a2,-⟩:=cells3 B0
   obtain⟨d0,d1,-⟩:=cells2 B1
   clear e3
   go_wp2_with (go_at_call 12; refine Hid.out ?_)
   refine (r2_short (hIR.ext hE) 8 rfl (by omega)).mono ?_
   rintro e w3 ⟨rfl,e3⟩
   rw [HR.out]
   replace hE:=hE.trans e3
   replace B0:=e3.block B0
   replace B1:=e3.block B1
   replace hsz1:=blk_lt B1
   clear a0 a1 a2 d0 d1
   obtain⟨a0,a1,a2,-⟩:=cells3 B0
   obtain⟨d0,d1,-⟩:=cells2 B1
   clear e3
   go_wp2
   go_ret
   exact⟨rfl,hE⟩
set_option maxRecDepth 100000 in
theorem con_lbad {N lo hi loc hic lod hid lor hir:Nat} {w:World} {v vc vd vr:Value} {Z:Lin} {k nd nx:Nat} {L:Nat→Nat} {C:Nat→Nat→Raw} {D R:Nat→Raw} (hI:LinV N lo hi w v Z) (hIC:MtR N loc hic w vc k L C) (hID:LsR N lod hid w vd nd D) (hIR:LsR N lor hir w vr nx R)
  (hs:few34 6 4 Z=true) (hm:shM 14 k L C=true) (hk:k≤3∨12 < k) (hd:shB 14 nd D=true) (hr:shB 8 nx R=true) (hc:codeOf Z≠0) :
  Calls Tryz.prog 5 #[v,.agg #[vc,vd],vr] w (RetV w (.bool true)):=by
 have hI0:=hI
 obtain⟨A1,c1,A2,c2,A3,c3,rfl,-⟩:=hI0.parts
 clear hI0
 obtain⟨A4,c4,rfl,-⟩:=hIC.form
 obtain⟨A5,c5,rfl,-⟩:=hID.form
 obtain⟨A6,c6,rfl,-⟩:=hIR.form
 obtain⟨-,f2,f3⟩:=few34_sz hs
 have HS:=Lib.hid hs
 have HM:=Lib.hid hm
 have HD:=Lib.hid hd
 have HR:=Lib.hid hr
 have HC:=Lib.hid hc
 have HF2:=Lib.hid f2
 have HF3:=Lib.hid f3
 obtain⟨r,hrr⟩:=hid_eq (codeOf Z)
 have hr0:(r == 0)=false:=by rw [hrr.out]; simpa using hc
 have hr1:(r != 0)=true:=by simpa using hr0
 have hr2:(r == r)=true:=by simp
 clear hs hm hd hr hc f2 f3
 rcases con_k hk with ⟨t0,t1,t2,t3⟩ | ⟨t0,t1,t2,t3⟩
 all_goals
  clear hk
  go_enter Tryz.func5,Tryz.ntmps5
  go_wp2_with (go_at_call 10; refine Hid.out ?_)
  refine boxesC2 ?_
  intro W hE hsz B0 B1
  refine (l34_known W).mono ?_
  rintro e w1 ⟨rfl,e1⟩
  replace hE:=hE.trans e1
  replace B0:=e1.block B0
  replace B1:=e1.block B1
  have hsz1:=blk_lt B1
  clear e1 hsz
  obtain⟨a0,a1,a2,-⟩:=cells3 B0
  obtain⟨d0,d1,-⟩:=cells2 B1
  go_wp2_with (go_at_call 11; refine Hid.out ?_)
  refine (l34_few (hI.ext hE) 6 4 rfl rfl (by omega) (by omega)).mono ?_
  rintro e w2 ⟨rfl,e2⟩
  rw [HS.out]
  replace hE:=hE.trans e2
  replace B0:=e2.block B0
  replace B1:=e2.block B1
  replace hsz1:=blk_lt B1
  clear a0 a1 a2 d0 d1
  obtain⟨a0,a1,a2,-⟩:=cells3 B0
  obtain⟨d0,d1,-⟩:=cells2 B1
  clear e2
  go_wp2_with (go_at_call 27; refine Hid.out ?_)
  refine (r2_shortMatrix (hIC.ext hE) 14 rfl (by omega)).mono ?_
  rintro e w3 ⟨rfl,e3⟩
  rw [HM.out]
  replace hE:=hE.trans e3
  replace B0:=e3.block B0
  replace B1:=e3.block B1
  replace hsz1:=blk_lt B1
  clear a0 a1 a2 d0 d1
  obtain⟨a0,a1,a2,-⟩:=cells3 B0
  obtain⟨d0,d1,-⟩:=cells2 B1
  clear e3
  go_wp2_with (go_at_call 12; refine Hid.out ?_)
  refine (r2_short (hID.ext hE) 14 rfl (by omega)).mono ?_
  rintro e w3 ⟨rfl,e3⟩
  rw [HD.out]
  replace hE:=hE.trans e3
  replace B0:=e3.block B0
  replace B1:=e3.block B1
  replace hsz1:=blk_lt B1
  clear a0 a1 a2 d0 d1
  obtain⟨a0,a1,a2,-⟩:=cells3 B0
  obtain⟨d0,d1,-⟩:=cells2 B1
  clear e3
  go_wp2_with (go_at_call 12; refine Hid.out ?_)
  refine (r2_short (hIR.ext hE) 8 rfl (by omega)).mono ?_
  rintro e w3 ⟨rfl,e3⟩
  rw [HR.out]
  replace hE:=hE.trans e3
  replace B0:=e3.block B0
  replace B1:=e3.block B1
  replace hsz1:=blk_lt B1
  clear a0 a1 a2 d0 d1
  obtain⟨a0,a1,a2,-⟩:=cells3 B0
  obtain⟨d0,d1,-⟩:=cells2 B1
  clear e3
  go_wp2_with (go_at_call 28; refine Hid.out ?_)
  refine (n_Constrained_lbad (hI.ext hE) HF2.out HF3.out HC.out _ _ _ _ _ _).mono ?_
  rintro e w4 ⟨rfl,e4⟩
  rw [←hrr.out]
  replace hE:=hE.trans e4
  replace B0:=e4.block B0
  replace B1:=e4.block B1
  replace hsz1:=blk_lt B1
  clear a0 a1 a2 d0 d1
  obtain⟨a0,a1,a2,-⟩:=cells3 B0
  obtain⟨d0,d1,-⟩:=cells2 B1
  go_wp2_with (go_at_call 14; refine Hid.out ?_)
  refine (l34_checked (hI.ext hE) HF2.out HF3.out).mono ?_
  rintro e w5 ⟨rfl,e5⟩
  rw [←hrr.out]
  replace hE:=hE.trans e5
  replace B0:=e5.block B0
  replace B1:=e5.block B1
  replace hsz1:=blk_lt B1
  clear a0 a1 a2 d0 d1
  obtain⟨a0,a1,a2,-⟩:=cells3 B0
  obtain⟨d0,d1,-⟩:=cells2 B1
  go_wp2
  go_ret
  exact⟨rfl,hE⟩
set_option maxRecDepth 100000 in
theorem con_cbad {N lo hi loc hic lod hid lor hir:Nat} {w:World} {A1 A2 A3:Option Addr} {c1 c2 c3 m n:Nat} {X:Nat→Nat→Rat} {y p:Nat→Rat} {vc vd vr:Value} {Z:Lin} {k nd nx:Nat} {L:Nat→Nat} {C:Nat→Nat→Raw} {D R:Nat→Raw}
  (hI:LinV N lo hi w (.agg #[.slice A1 m c1,.slice A2 m c2,.slice A3 m c3]) Z) (hIC:MtR N loc hic w vc k L C) (hID:LsR N lod hid w vd nd D) (hIR:LsR N lor hir w vr nx R)
  (hs:few34 6 4 Z=true) (hm':shM 14 k L C=true) (hk:k≤3∨12 < k) (hd:shB 14 nd D=true) (hr:shB 8 nx R=true) (hc:codeOf Z=0) (hb:conCode n k L C nd D≠0)
  (h1:MtV N lo hi w (.slice A1 m c1) m n X) (h2:LsV N lo hi w (.slice A2 m c2) m y) (h3:LsV N lo hi w (.slice A3 m c3) m p) (hm0:0 < m) (hm:m≤6) (hn0:0 < n) (hn:n≤4) (hpos:∀ i,i < m→0 < p i)
  (hkx:HtM m n 17 X) (hky:HtL m 17 y) (hkp:HtL m 17 p) :
  Calls Tryz.prog 5 #[.agg #[.slice A1 m c1,.slice A2 m c2,.slice A3 m c3],.agg #[vc,vd],vr] w (RetV w (.bool true)):=by
 obtain⟨A4,c4,rfl,-⟩:=hIC.form
 obtain⟨A5,c5,rfl,-⟩:=hID.form
 obtain⟨A6,c6,rfl,-⟩:=hIR.form
 obtain⟨-,f2,f3⟩:=few34_sz hs
 have HCS:Hid (∀ i,i < k→∀ j,j < L i→RawSz (C i j)):=fun i hi j hj=>(brief_raw (((shM_all hm').2 i hi).2 j hj)).1
 have HDS:Hid (∀ i,i < nd→RawSz (D i)):=shB_sz hd
 have HX:=Lib.hid hkx
 have HY:=Lib.hid hky
 have HP:=Lib.hid hkp
 have HPOS:=Lib.hid hpos
 have HS:=Lib.hid hs
 have HM:=Lib.hid hm'
 have HD:=Lib.hid hd
 have HR:=Lib.hid hr
 have HC:=Lib.hid hc
 have HB:=Lib.hid hb
 have HF2:=Lib.hid f2
 have HF3:=Lib.hid f3
 obtain⟨r,hrr⟩:=hid_eq (conCode n k L C nd D)
 have hr0:(r == 0)=false:=by rw [hrr.out]; simpa using hb
 have hr1:(r != 0)=true:=by simpa using hr0
 have hr2:(r == r)=true:=by simp
 clear hs hm' hd hr hc hb f2 f3 hkx hky hkp hpos
 rcases con_k hk with ⟨t0,t1,t2,t3⟩ | ⟨t0,t1,t2,t3⟩
 all_goals
  clear hk
  go_enter Tryz.func5,Tryz.ntmps5
  go_wp2_with (go_at_call 10; refine Hid.out ?_)
  refine boxesC2 ?_
  intro W hE hsz B0 B1
  refine (l34_known W).mono ?_
  rintro e w1 ⟨rfl,e1⟩
  replace hE:=hE.trans e1
  replace B0:=e1.block B0
  replace B1:=e1.block B1
  have hsz1:=blk_lt B1
  clear e1 hsz
  obtain⟨a0,a1,a2,-⟩:=cells3 B0
  obtain⟨d0,d1,-⟩:=cells2 B1
  go_wp2_with (go_at_call 11; refine Hid.out ?_)
  refine (l34_few (hI.ext hE) 6 4 rfl rfl (by omega) (by omega)).mono ?_
  rintro e w2 ⟨rfl,e2⟩
  rw [HS.out]
  replace hE:=hE.trans e2
  replace B0:=e2.block B0
  replace B1:=e2.block B1
  replace hsz1:=blk_lt B1
  clear a0 a1 a2 d0 d1
  obtain⟨a0,a1,a2,-⟩:=cells3 B0
  obtain⟨d0,d1,-⟩:=cells2 B1
  clear e2
  go_wp2_with (go_at_call 27; refine Hid.out ?_)
  refine (r2_shortMatrix (hIC.ext hE) 14 rfl (by omega)).mono ?_
  rintro e w3 ⟨rfl,e3⟩
  rw [HM.out]
  replace hE:=hE.trans e3
  replace B0:=e3.block B0
  replace B1:=e3.block B1
  replace hsz1:=blk_lt B1
  clear a0 a1 a2 d0 d1
  obtain⟨a0,a1,a2,-⟩:=cells3 B0
  obtain⟨d0,d1,-⟩:=cells2 B1
  clear e3
  go_wp2_with (go_at_call 12; refine Hid.out ?_)
  refine (r2_short (hID.ext hE) 14 rfl (by omega)).mono ?_
  rintro e w3 ⟨rfl,e3⟩
  rw [HD.out]
  replace hE:=hE.trans e3
  replace B0:=e3.block B0
  replace B1:=e3.block B1
  replace hsz1:=blk_lt B1
  clear a0 a1 a2 d0 d1
  obtain⟨a0,a1,a2,-⟩:=cells3 B0
  obtain⟨d0,d1,-⟩:=cells2 B1
  clear e3
  go_wp2_with (go_at_call 12; refine Hid.out ?_)
  refine (r2_short (hIR.ext hE) 8 rfl (by omega)).mono ?_
  rintro e w3 ⟨rfl,e3⟩
  rw [HR.out]
  replace hE:=hE.trans e3
  replace B0:=e3.block B0
  replace B1:=e3.block B1
  replace hsz1:=blk_lt B1
  clear a0 a1 a2 d0 d1
  obtain⟨a0,a1,a2,-⟩:=cells3 B0
  obtain⟨d0,d1,-⟩:=cells2 B1
  clear e3
  go_wp2_with (go_at_call 28; refine Hid.out ?_)
  refine (n_Constrained_bad (h1.ext hE) (h2.ext hE) (h3.ext hE) (hIC.ext hE) (hID.ext hE) hm0 (by omega) hn0 (by omega) HPOS.out HX.out HY.out HP.out (by omega) HCS.out HDS.out HB.out).mono ?_
  rintro e w4 ⟨rfl,e4⟩
  rw [←hrr.out]
  replace hE:=hE.trans e4
  replace B0:=e4.block B0
  replace B1:=e4.block B1
  replace hsz1:=blk_lt B1
  clear a0 a1 a2 d0 d1
  obtain⟨a0,a1,a2,-⟩:=cells3 B0
  obtain⟨d0,d1,-⟩:=cells2 B1
  go_wp2_with (go_at_call 14; refine Hid.out ?_)
  refine (l34_checked (hI.ext hE) HF2.out HF3.out).mono ?_
  rw [HC.out]
  rintro e w5 ⟨rfl,e5⟩
  replace hE:=hE.trans e5
  replace B0:=e5.block B0
  replace B1:=e5.block B1
  replace hsz1:=blk_lt B1
  clear a0 a1 a2 d0 d1
  obtain⟨a0,a1,a2,-⟩:=cells3 B0
  obtain⟨d0,d1,-⟩:=cells2 B1
  go_wp2_with (go_at_call 29; refine Hid.out ?_)
  refine (l34_constrainedCode (h1.ext hE) (h2.ext hE) (h3.ext hE) (hIC.ext hE) (hID.ext hE) hm0 HCS.out HDS.out).mono ?_
  rintro e w6 ⟨rfl,e6⟩
  rw [←hrr.out]
  replace hE:=hE.trans e6
  replace B0:=e6.block B0
  replace B1:=e6.block B1
  replace hsz1:=blk_lt B1
  clear a0 a1 a2 d0 d1
  obtain⟨a0,a1,a2,-⟩:=cells3 B0
  obtain⟨d0,d1,-⟩:=cells2 B1
  go_wp2
  go_ret
  exact⟨rfl,hE⟩
end Go.Proofs.YtccepmpebioeiaaGreat
