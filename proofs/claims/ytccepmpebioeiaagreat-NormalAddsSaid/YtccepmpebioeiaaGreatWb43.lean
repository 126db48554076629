import Derived.Test.YtccepmpebioeiaaGreatWb42
import Derived.Test.YtccepmpebioeiaaGreatWb26
import Derived.Deep.CutBlock
set_option linter.all false
set_option maxHeartbeats 8000000
namespace Go.Proofs.YtccepmpebioeiaaGreat
open Go.RowKit
def Bk (β:Nat) (a b:World):Prop:=∀ (p:Addr) (v:Value),p.block < β→a.cell? p=some v→b.cell? p=some v
def BC (β:Nat) (w:World) (p:Addr) (v:Value):Prop:=p.block < β∧w.cell? p=some v
theorem Bk.cell {β:Nat} {a b:World} (h:Bk β a b) {p:Addr} {v:Value} (hc:BC β a p v):b.cell? p=some v:=h p v hc.1 hc.2
theorem Bk.of {β:Nat} {a b:World} (e:Ext a b):Bk β a b:=fun _ _ _ hc=>e.cell hc
theorem Bk.ext {β:Nat} {a b c:World} (h:Bk β a b) (e:Ext b c):Bk β a c:=fun p v hp hc=>e.cell (h p v hp hc)
theorem Bk.chg {β g:Nat} {a b c:World} (h:Bk β a b) (k:Chg g (g+1) b c) (hg:β≤g):Bk β a c:=fun p v hp hc=>k.cell (h p v hp hc) (.inl (by omega))
structure St (N base:Nat) (w:World) (vA:Value) (xs:List Value) (vL:Value) (n:Nat) (fL:Nat→Rat) (vP:Value) (m:Nat) (fP:Nat→Rat) (D:List Nat):Prop where
 A:GrowS base w vA xs
 L:Grow N base w vL n fL
 P:Grow N base w vP m fP
 AL:∀ k,vA.ownBlock=some k→vL.ownBlock≠some k
 AP:∀ k,vA.ownBlock=some k→vP.ownBlock≠some k
 LP:∀ k,vL.ownBlock=some k→vP.ownBlock≠some k
 DA:∀ k∈D,vA.ownBlock≠some k
 DL:∀ k∈D,vL.ownBlock≠some k
 DP:∀ k∈D,vP.ownBlock≠some k
 D_:∀ k∈D,k < w.heap.size
section
variable {N base:Nat} {w w':World} {vA vL vP:Value} {xs:List Value} {n m:Nat} {fL fP:Nat→Rat} {D:List Nat}
theorem St.new (h:St N base w vA xs vL n fL vP m fP D) (e:Ext w w') (hs:w.heap.size < w'.heap.size):St N base w' vA xs vL n fL vP m fP (w.heap.size :: D):=by
 refine⟨h.A.ext e,h.L.ext e,h.P.ext e,h.AL,h.AP,h.LP,?_,?_,?_,?_⟩
 all_goals intro k hk
 all_goals rcases List.mem_cons.1 hk with rfl | hk
 ·intro h9; have:=(h.A.own_lt h9).2; omega
 ·exact h.DA k hk
 ·intro h9; have:=(grow_lt h.L h9).2; omega
 ·exact h.DL k hk
 ·intro h9; have:=(grow_lt h.P h9).2; omega
 ·exact h.DP k hk
 ·exact hs
 ·have:=h.D_ k hk; have:=e.size; omega
theorem St.appA (h:St N base w vA xs vL n fL vP m fP D) (hN:N≤base) {g g' cap:Nat} {k1:Nat} {ys:List Value} (hA:GrowS base w' (.slice (some ⟨g,0,none⟩) k1 cap) ys) (hb:base≤g') (c:Chg g' (g'+1) w w') (o1:vA.ownBlock=some g'∨g'=w.heap.size) (o2:vA.ownBlock=some g∨g=w.heap.size) :
  St N base w' (.slice (some ⟨g,0,none⟩) k1 cap) ys vL n fL vP m fP D∧∀ k∈D,k≠g':=by
 have nL:vL.ownBlock≠some g':=by
  rcases o1 with o1 | o1
  ·exact h.AL g' o1
  ·intro h9; have:=(grow_lt h.L h9).2; omega
 have nP:vP.ownBlock≠some g':=by
  rcases o1 with o1 | o1
  ·exact h.AP g' o1
  ·intro h9; have:=(grow_lt h.P h9).2; omega
 have mL:vL.ownBlock≠some g:=by
  rcases o2 with o2 | o2
  ·exact h.AL g o2
  ·intro h9; have:=(grow_lt h.L h9).2; omega
 have mP:vP.ownBlock≠some g:=by
  rcases o2 with o2 | o2
  ·exact h.AP g o2
  ·intro h9; have:=(grow_lt h.P h9).2; omega
 have hD:∀ k∈D,k≠g'∧k≠g:=fun k hk=>by
  have h1:=h.DA k hk;have h2:=h.D_ k hk
  constructor
  ·rintro rfl; rcases o1 with o1 | o1; exact h1 o1; omega
  ·rintro rfl; rcases o2 with o2 | o2; exact h1 o2; omega
 refine⟨⟨hA,grow_chgB h.L c (by omega) nL,grow_chgB h.P c (by omega) nP,?_,?_,h.LP,?_,h.DL,h.DP,?_⟩,fun k hk=>(hD k hk).1⟩
 ·intro k hk; have:g=k:=by simpa [Value.ownBlock] using hk
  rw [←this]; exact mL
 ·intro k hk; have:g=k:=by simpa [Value.ownBlock] using hk
  rw [←this]; exact mP
 ·intro k hk h9; have:g=k:=by simpa [Value.ownBlock] using h9
  exact (hD k hk).2 this.symm
 ·intro k hk; have:=h.D_ k hk; have:=c.size; omega
theorem St.appL (h:St N base w vA xs vL n fL vP m fP D) (hN:N≤base) {g g' cap k1:Nat} {f1:Nat→Rat} (hL:Grow N base w' (.slice (some ⟨g,0,none⟩) k1 cap) k1 f1) (hb:base≤g') (c:Chg g' (g'+1) w w') (o1:vL.ownBlock=some g'∨g'=w.heap.size) (o2:vL.ownBlock=some g∨g=w.heap.size) :
  St N base w' vA xs (.slice (some ⟨g,0,none⟩) k1 cap) k1 f1 vP m fP D∧∀ k∈D,k≠g':=by
 have nA:vA.ownBlock≠some g':=by
  rcases o1 with o1 | o1
  ·exact fun h9=>h.AL g' h9 o1
  ·intro h9; have:=(h.A.own_lt h9).2; omega
 have nP:vP.ownBlock≠some g':=by
  rcases o1 with o1 | o1
  ·exact h.LP g' o1
  ·intro h9; have:=(grow_lt h.P h9).2; omega
 have mA:vA.ownBlock≠some g:=by
  rcases o2 with o2 | o2
  ·exact fun h9=>h.AL g h9 o2
  ·intro h9; have:=(h.A.own_lt h9).2; omega
 have mP:vP.ownBlock≠some g:=by
  rcases o2 with o2 | o2
  ·exact h.LP g o2
  ·intro h9; have:=(grow_lt h.P h9).2; omega
 have hD:∀ k∈D,k≠g'∧k≠g:=fun k hk=>by
  have h1:=h.DL k hk;have h2:=h.D_ k hk
  constructor
  ·rintro rfl; rcases o1 with o1 | o1; exact h1 o1; omega
  ·rintro rfl; rcases o2 with o2 | o2; exact h1 o2; omega
 refine⟨⟨h.A.chgB c nA,hL,grow_chgB h.P c (by omega) nP,?_,h.AP,?_,h.DA,?_,h.DP,?_⟩,fun k hk=>(hD k hk).1⟩
 ·intro k hk h9; have:g=k:=by simpa [Value.ownBlock] using h9
  rw [←this] at hk; exact mA hk
 ·intro k hk; have:g=k:=by simpa [Value.ownBlock] using hk
  rw [←this]; exact mP
 ·intro k hk h9; have:g=k:=by simpa [Value.ownBlock] using h9
  exact (hD k hk).2 this.symm
 ·intro k hk; have:=h.D_ k hk; have:=c.size; omega
theorem St.appP (h:St N base w vA xs vL n fL vP m fP D) (hN:N≤base) {g g' cap k1:Nat} {f1:Nat→Rat} (hP:Grow N base w' (.slice (some ⟨g,0,none⟩) k1 cap) k1 f1) (hb:base≤g') (c:Chg g' (g'+1) w w') (o1:vP.ownBlock=some g'∨g'=w.heap.size) (o2:vP.ownBlock=some g∨g=w.heap.size) :
  St N base w' vA xs vL n fL (.slice (some ⟨g,0,none⟩) k1 cap) k1 f1 D∧∀ k∈D,k≠g':=by
 have nA:vA.ownBlock≠some g':=by
  rcases o1 with o1 | o1
  ·exact fun h9=>h.AP g' h9 o1
  ·intro h9; have:=(h.A.own_lt h9).2; omega
 have nL:vL.ownBlock≠some g':=by
  rcases o1 with o1 | o1
  ·exact fun h9=>h.LP g' h9 o1
  ·intro h9; have:=(grow_lt h.L h9).2; omega
 have mA:vA.ownBlock≠some g:=by
  rcases o2 with o2 | o2
  ·exact fun h9=>h.AP g h9 o2
  ·intro h9; have:=(h.A.own_lt h9).2; omega
 have mL:vL.ownBlock≠some g:=by
  rcases o2 with o2 | o2
  ·exact fun h9=>h.LP g h9 o2
  ·intro h9; have:=(grow_lt h.L h9).2; omega
 have hD:∀ k∈D,k≠g'∧k≠g:=fun k hk=>by
  have h1:=h.DP k hk;have h2:=h.D_ k hk
  constructor
  ·rintro rfl; rcases o1 with o1 | o1; exact h1 o1; omega
  ·rintro rfl; rcases o2 with o2 | o2; exact h1 o2; omega
 refine⟨⟨h.A.chgB c nA,grow_chgB h.L c (by omega) nL,hP,h.AL,?_,?_,h.DA,h.DL,?_,?_⟩,fun k hk=>(hD k hk).1⟩
 ·intro k hk h9; have:g=k:=by simpa [Value.ownBlock] using h9
  rw [←this] at hk; exact mA hk
 ·intro k hk h9; have:g=k:=by simpa [Value.ownBlock] using h9
  rw [←this] at hk; exact mL hk
 ·intro k hk h9; have:g=k:=by simpa [Value.ownBlock] using h9
  exact (hD k hk).2 this.symm
 ·intro k hk; have:=h.D_ k hk; have:=c.size; omega
theorem St.forget (h:St N base w vA xs vL n fL vP m fP D):St N base w vA xs vL n fL vP m fP []:=⟨h.A,h.L,h.P,h.AL,h.AP,h.LP,fun k hk=>absurd hk (by simp),fun k hk=>absurd hk (by simp),fun k hk=>absurd hk (by simp),fun k hk=>absurd hk (by simp)⟩
theorem St.chg (h:St N base w vA xs vL n fL vP m fP []) {g:Nat} (c:Chg g (g+1) w w') (hN:N≤g) (hg:g < base):St N base w' vA xs vL n fL vP m fP []:=by
 have nA:vA.ownBlock≠some g:=fun h9=>by have:=(h.A.own_lt h9).1; omega
 have nL:vL.ownBlock≠some g:=fun h9=>by have:=(grow_lt h.L h9).1; omega
 have nP:vP.ownBlock≠some g:=fun h9=>by have:=(grow_lt h.P h9).1; omega
 exact⟨h.A.chgB c nA,grow_chgB h.L c hN nL,grow_chgB h.P c hN nP,h.AL,h.AP,h.LP,h.DA,h.DL,h.DP,fun k hk=>absurd hk (by simp)⟩
theorem St.drew (h:St N base w vA xs vL n fL vP m fP D):St N base w.drew vA xs vL n fL vP m fP D :=
 ⟨h.A.ext (Ext.refl w).drew,h.L.ext (Ext.refl w).drew,h.P.ext (Ext.refl w).drew,h.AL,h.AP,h.LP,h.DA,h.DL,h.DP,h.D_⟩
end
structure SX (N base gt gw:Nat) (T:TypeId) (w wr cur:World) (cA cL cP:Value) (o0 o4:Obj) (vA:Value) (xs:List Value) (vL:Value) (n:Nat) (fL:Nat→Rat) (vP:Value) (m:Nat) (fP:Nat→Rat) (TB:List (Nat×Obj)):Prop where
 st:St N base cur vA xs vL n fL vP m fP (TB.map Prod.fst)
 bk:Bk base wr cur
 ex:Ext w cur
 bt:cur.heap[gt]?=some (.cells #[cA,cL,cP] T (0,0))
 b0:cur.heap[gw]?=some o0
 b4:cur.heap[gw+1]?=some o4
 tb:∀ p∈TB,cur.heap[p.1]?=some p.2
structure SY (N base gt gw:Nat) (T:TypeId) (w cur:World) (cA cL cP:Value) (o0 o4:Obj) (vA:Value) (xs:List Value) (vL:Value) (n:Nat) (fL:Nat→Rat) (vP:Value) (m:Nat) (fP:Nat→Rat):Prop where
 st:St N base cur vA xs vL n fL vP m fP []
 ex:Ext w cur
 bt:cur.heap[gt]?=some (.cells #[cA,cL,cP] T (0,0))
 b0:cur.heap[gw]?=some o0
 b4:cur.heap[gw+1]?=some o4
section
variable {N base gt gw:Nat} {T:TypeId} {w wr cur w':World} {cA cL cP:Value} {o0 o4:Obj} {vA vL vP:Value} {xs:List Value} {n m:Nat} {fL fP:Nat→Rat} {TB:List (Nat×Obj)}
theorem SX.new (h:SX N base gt gw T w wr cur cA cL cP o0 o4 vA xs vL n fL vP m fP TB) (e:Ext cur w') (hs:cur.heap.size+1≤w'.heap.size) {o:Obj} (B:w'.heap[cur.heap.size]?=some o) :
  ∃ j,j=cur.heap.size∧SX N base gt gw T w wr w' cA cL cP o0 o4 vA xs vL n fL vP m fP ((j,o) :: TB) :=
 ⟨_,rfl,⟨h.st.new e (by omega),h.bk.ext e,h.ex.trans e,e.block h.bt,e.block h.b0,e.block h.b4,fun p hp=>by
  rcases List.mem_cons.1 hp with rfl | hp
  ·exact B
  ·exact e.block (h.tb p hp)⟩⟩
theorem SX.app (h:SX N base gt gw T w wr cur cA cL cP o0 o4 vA xs vL n fL vP m fP TB) (hgw:gw+1 < gt) (hgt:gt < base) (hw:w.heap.size≤base) {g':Nat} {vA' vL' vP':Value} {ys:List Value} {n' m':Nat} (hS:St N base w' vA' ys vL' n' fL vP' m' fP (TB.map Prod.fst)∧∀ k∈TB.map Prod.fst,k≠g') (hb:base≤g') (c:Chg g' (g'+1) cur w') :
  SX N base gt gw T w wr w' cA cL cP o0 o4 vA' ys vL' n' fL vP' m' fP TB :=
 ⟨hS.1,h.bk.chg c hb,c.ext h.ex (by omega),c.blk h.bt (.inl (by omega)),c.blk h.b0 (.inl (by omega)),c.blk h.b4 (.inl (by omega)),fun p hp=>by
  have h1:=hS.2 p.1 (List.mem_map_of_mem hp)
  exact c.blk (h.tb p hp) (by omega)⟩
theorem SX.fin (h:SX N base gt gw T w wr cur cA cL cP o0 o4 vA xs vL n fL vP m fP TB):SY N base gt gw T w cur cA cL cP o0 o4 vA xs vL n fL vP m fP:=⟨h.st.forget,h.ex,h.bt,h.b0,h.b4⟩
theorem SY.set (h:SY N base gt gw T w cur cA cL cP o0 o4 vA xs vL n fL vP m fP) (hN:N≤gt) (hT:T≠141) (hgw:gw+1 < gt) (hgt:gt < base) (hw:w.heap.size≤gt) {cA' cL' cP':Value} (hB:w'.heap[gt]?=some (.cells #[cA',cL',cP'] T (0,0))) (U:Upd gt cur w') :
  SY N base gt gw T w w' cA' cL' cP' o0 o4 vA xs vL n fL vP m fP:=by
 have c:=U.chg (NoU.mk h.bt hT);exact⟨h.st.chg c hN hgt,c.ext h.ex hw,hB,c.blk h.b0 (.inl (by omega)),c.blk h.b4 (.inl (by omega))⟩
end
end Go.Proofs.YtccepmpebioeiaaGreat
