import Derived.Test.YtphpkhoeplcedaaGreatWb07
import Derived.Deep.AppendLies
import Derived.Deep.RegionHeld3
import Derived.Test.YtphpkhoeplcedaaGreatWb18
import Derived.Test.YtphpkhoeplcedaaGreatWb20
import Derived.Test.YtphpkhoeplcedaaGreatWb21
import Derived.Test.YtphpkhoeplcedaaGreatWb22
set_option linter.all false
set_option maxHeartbeats 8000000
namespace Go.Proofs.YtphpkhoeplcedaaGreat
open Go.RowKit
structure Chg (lo hi:Nat) (w w':World):Prop where
 os:w'.os=w.os
 tape:w'.tape=w.tape
 output:w'.output=w.output
 size:w.heap.size≤w'.heap.size
 block:∀ k,k < w.heap.size→(k < lo∨hi≤k∨∃ cs fr,w.heap[k]?=some (.cells cs 152 fr))→w'.heap[k]?=w.heap[k]?
theorem Ext.chg {w w':World} (h:Ext w w') (lo hi:Nat):Chg lo hi w w':=by
 have h':Below w.heap.size w w':=h;exact⟨h'.os,h'.tape,h'.output,h'.size,fun k hk _=>h'.block k hk⟩
theorem Chg.refl (lo hi:Nat) (w:World):Chg lo hi w w:=(Ext.refl w).chg lo hi
theorem Chg.trans {lo hi:Nat} {a b c:World} (h:Chg lo hi a b) (h':Chg lo hi b c):Chg lo hi a c :=
 ⟨h'.os.trans h.os,h'.tape.trans h.tape,h'.output.trans h.output,Nat.le_trans h.size h'.size,fun k hk hc=>by
  have e:=h.block k hk hc;rw [←e];refine h'.block k (Nat.lt_of_lt_of_le hk h.size) ?_
  rcases hc with hc | hc | ⟨cs,fr,hc⟩
  ·exact .inl hc
  ·exact .inr (.inl hc)
  ·exact .inr (.inr ⟨cs,fr,e.trans hc⟩)⟩
theorem Chg.wide {lo hi lo' hi':Nat} {w w':World} (h:Chg lo hi w w') (h1:lo'≤lo) (h2:hi≤hi'):Chg lo' hi' w w' :=
 ⟨h.os,h.tape,h.output,h.size,fun k hk hc=>h.block k hk (hc.imp (fun h=>by omega) (fun h=>h.imp (fun h=>by omega) id))⟩
theorem Upd.chg {g:Nat} {w w':World} (h:Upd g w w') (ht:NoU w g):Chg g (g+1) w w' :=
 ⟨h.os,h.tape,h.output,by rw [h.size]; exact Nat.le_refl _,fun k _ hc=>h.block k (by
  rintro rfl
  rcases hc with hc | hc | ⟨cs,fr,hc⟩
  ·omega
  ·omega
  ·exact ht cs fr hc)⟩
theorem Chg.ext {lo hi:Nat} {a w w':World} (h:Chg lo hi w w') (e:Ext a w) (hl:a.heap.size≤lo):Ext a w':=by
 have e':Below a.heap.size a w:=e;exact⟨h.os.trans e'.os,h.tape.trans e'.tape,h.output.trans e'.output,Nat.le_trans e'.size h.size,fun k hk=>(h.block k (Nat.lt_of_lt_of_le hk e'.size) (.inl (by omega))).trans (e'.block k hk)⟩
theorem blk_lt {w:World} {k:Nat} {o:Obj} (h:w.heap[k]?=some o):k < w.heap.size:=by
 rcases Nat.lt_or_ge k w.heap.size with h1 | h1
 ·exact h1
 ·rw [Array.getElem?_eq_none h1] at h; cases h
theorem Chg.blk {lo hi:Nat} {w w':World} (h:Chg lo hi w w') {k:Nat} {o:Obj} (hk:w.heap[k]?=some o) (hc:k < lo∨hi≤k):w'.heap[k]?=some o :=
 (h.block k (blk_lt hk) (hc.imp id .inl)).trans hk
theorem cell_lt {w:World} {p:Addr} {v:Value} (h:w.cell? p=some v):p.block < w.heap.size:=World.block_lt_of_cell? w p h
theorem Chg.cell {lo hi:Nat} {w w':World} (h:Chg lo hi w w') {p:Addr} {v:Value} (hp:w.cell? p=some v) (hc:p.block < lo∨hi≤p.block):w'.cell? p=some v:=by
 have e:=h.block p.block (cell_lt hp) (hc.imp id .inl);rw [World.cell?_of_block (w:=w) e]; exact hp
theorem Gs.chg {N lo hi:Nat} {w w':World} {v:Value} {l:List Nat} (h:Gs N w v l) (c:Chg lo hi w w') (hN:N≤lo):Gs N w' v l:=by
 obtain⟨hN',A,n,k,hv,h1,h2,h3,h4,h5⟩:=h;refine⟨Nat.le_trans hN' c.size,A,n,k,hv,h1,h2,h3,h4,fun hn=>?_⟩;obtain⟨b,off,hA,⟨hs1,hs2⟩,hc⟩:=h5 hn;have e:w'.heap[b]?=w.heap[b]?:=c.block b hs1 (hs2.imp (fun h=>by omega) (fun h=>.inr h));refine⟨b,off,hA,⟨Nat.lt_of_lt_of_le hs1 c.size,?_⟩,fun i hi=>by rw [World.cell?_of_block (w:=w) e]; exact hc i hi⟩
 rcases hs2 with hs2 | ⟨cs,fr,hs2⟩
 ·exact .inl hs2
 ·exact .inr ⟨cs,fr,e.trans hs2⟩
theorem RawV.chg {N lo hi:Nat} {w w':World} {v:Value} {R:Raw} (h:RawV N w v R) (c:Chg lo hi w w') (hN:N≤lo):RawV N w' v R:=by
 obtain⟨s,t,hv,h1,h2⟩:=h; exact⟨s,t,hv,h1.chg c hN,h2.chg c hN⟩
theorem RatV.chg {N lo hi:Nat} {w w':World} {v:Value} {q:Rat} (h:RatV N w v q) (c:Chg lo hi w w') (hN:N≤lo):RatV N w' v q:=RawV.chg h c hN
def At4 (N:Nat) (w:World) (b o:Nat) (R:Raw):Prop :=
 ∃ s t,w.cell? ⟨b,o,none⟩=some (.bool R.b1)∧w.cell? ⟨b,o+1,none⟩=some s∧w.cell? ⟨b,o+2,none⟩=some (.bool R.b2)∧w.cell? ⟨b,o+3,none⟩=some t∧Gs N w s R.l1∧Gs N w t R.l2
theorem At4.move {N:Nat} {w w':World} {b o:Nat} {R:Raw} (h:At4 N w b o R) (hc:∀ k v,w.cell? ⟨b,k,none⟩=some v→w'.cell? ⟨b,k,none⟩=some v) (hg:∀ v l,Gs N w v l→Gs N w' v l):At4 N w' b o R:=by
 obtain⟨s,t,h0,h1,h2,h3,g1,g2⟩:=h;exact⟨s,t,hc _ _ h0,hc _ _ h1,hc _ _ h2,hc _ _ h3,hg _ _ g1,hg _ _ g2⟩
theorem At4.ext {N:Nat} {w w':World} {b o:Nat} {R:Raw} (h:At4 N w b o R) (e:Ext w w'):At4 N w' b o R:=h.move (fun _ _ h=>e.cell h) (fun _ _ h=>h.ext e)
theorem At4.chg {N lo hi:Nat} {w w':World} {b o:Nat} {R:Raw} (h:At4 N w b o R) (c:Chg lo hi w w') (hN:N≤lo) (hb:b < lo∨hi≤b):At4 N w' b o R :=
 h.move (fun k _ h=>c.cell (p:=⟨b,k,none⟩) h hb) (fun _ _ h=>h.chg c hN)
theorem At4.val {N:Nat} {w:World} {b o:Nat} {R:Raw} (h:At4 N w b o R):∃ (A:Option Addr) (n c:Nat) (A':Option Addr) (n' c':Nat),w.cell? ⟨b,o,none⟩=some (.bool R.b1)∧w.cell? ⟨b,o+1,none⟩=some (.slice A n c)∧w.cell? ⟨b,o+2,none⟩=some (.bool R.b2)∧w.cell? ⟨b,o+3,none⟩=some (.slice A' n' c')∧RawV N w (.agg #[.bool R.b1,.slice A n c,.bool R.b2,.slice A' n' c']) R:=by
 obtain⟨s,t,h0,h1,h2,h3,g1,g2⟩:=h;obtain⟨A,n,c,rfl,-,-,-⟩:=g1.form;obtain⟨A',n',c',rfl,-,-,-⟩:=g2.form;exact⟨A,n,c,A',n',c',h0,h1,h2,h3,_,_,rfl,g1,g2⟩
def LsR (N lo hi:Nat) (w:World) (v:Value) (n:Nat) (R:Nat→Raw):Prop :=
 N≤w.heap.size∧hi≤w.heap.size∧∃ (A:Option Addr) (c:Nat),v=.slice A n c∧n≤c∧c≤maxLen ∧
  (0 < n→∃ b off,A=some ⟨b,off,none⟩∧lo≤b∧b < hi∧∀ i,i < n→At4 N w b (off+i*4) (R i))
theorem LsR.le {N lo hi:Nat} {w:World} {v:Value} {n:Nat} {R:Nat→Raw} (h:LsR N lo hi w v n R):N≤w.heap.size:=h.1
theorem LsR.ext {N lo hi:Nat} {w w':World} {v:Value} {n:Nat} {R:Nat→Raw} (h:LsR N lo hi w v n R) (e:Ext w w'):LsR N lo hi w' v n R:=by
 obtain⟨h1,h2,A,c,hv,h3,h4,h5⟩:=h;refine⟨Nat.le_trans h1 e.size,Nat.le_trans h2 e.size,A,c,hv,h3,h4,fun hn=>?_⟩;obtain⟨b,off,hA,hl,hh,hx⟩:=h5 hn;exact⟨b,off,hA,hl,hh,fun i hi=>(hx i hi).ext e⟩
theorem LsR.chg {N lo hi l h:Nat} {w w':World} {v:Value} {n:Nat} {R:Nat→Raw} (hx:LsR N lo hi w v n R) (c:Chg l h w w') (hN:N≤l) (hd:hi≤l∨h≤lo):LsR N lo hi w' v n R:=by
 obtain⟨h1,h2,A,k,hv,h3,h4,h5⟩:=hx;refine⟨Nat.le_trans h1 c.size,Nat.le_trans h2 c.size,A,k,hv,h3,h4,fun hn=>?_⟩;obtain⟨b,off,hA,hl,hh,hx⟩:=h5 hn;exact⟨b,off,hA,hl,hh,fun i hi=>(hx i hi).chg c hN (by omega)⟩
theorem LsR.wide {N lo hi lo' hi':Nat} {w:World} {v:Value} {n:Nat} {R:Nat→Raw} (h:LsR N lo hi w v n R) (h1:lo'≤lo) (h2:hi≤hi') (h3:hi'≤w.heap.size):LsR N lo' hi' w v n R:=by
 obtain⟨a1,a2,A,c,hv,a3,a4,a5⟩:=h;refine⟨a1,h3,A,c,hv,a3,a4,fun hn=>?_⟩;obtain⟨b,off,hA,hl,hh,hx⟩:=a5 hn;exact⟨b,off,hA,by omega,by omega,hx⟩
theorem LsR.form {N lo hi:Nat} {w:World} {v:Value} {n:Nat} {R:Nat→Raw} (h:LsR N lo hi w v n R):∃ (A:Option Addr) (c:Nat),v=.slice A n c∧n≤c∧c≤maxLen:=by
 obtain⟨a1,a2,A,c,hv,a3,a4,a5⟩:=h;exact⟨A,c,hv,a3,a4⟩
theorem LsR.addr {N lo hi:Nat} {w:World} {A:Option Addr} {n c:Nat} {R:Nat→Raw} (h:LsR N lo hi w (.slice A n c) n R) (hn:0 < n):∃ b off,A=some ⟨b,off,none⟩∧lo≤b∧b < hi∧∀ i,i < n→At4 N w b (off+i*4) (R i):=by
 obtain⟨a1,a2,A,c,hv,a3,a4,a5⟩:=h;injection hv with e1 e2 e3
 subst e1;exact a5 hn
theorem LsR.congr {N lo hi:Nat} {w:World} {v:Value} {n:Nat} {R R':Nat→Raw} (h:LsR N lo hi w v n R) (he:∀ i,i < n→R i=R' i):LsR N lo hi w v n R':=by
 obtain⟨a1,a2,A,c,hv,a3,a4,a5⟩:=h;refine⟨a1,a2,A,c,hv,a3,a4,fun hn=>?_⟩;obtain⟨b,off,hA,hl,hh,hx⟩:=a5 hn;exact⟨b,off,hA,hl,hh,fun i hi=>by rw [←he i hi]; exact hx i hi⟩
def LsV (N lo hi:Nat) (w:World) (v:Value) (n:Nat) (x:Nat→Rat):Prop:=LsR N lo hi w v n (fun i=>raw (x i))
def MtR (N lo hi:Nat) (w:World) (v:Value) (m:Nat) (L:Nat→Nat) (R:Nat→Nat→Raw):Prop :=
 N≤w.heap.size∧hi≤w.heap.size∧∃ (A:Option Addr) (c:Nat),v=.slice A m c∧m≤c∧c≤maxLen ∧
  (0 < m→∃ b off,A=some ⟨b,off,none⟩∧lo≤b∧b < hi∧∀ i,i < m→∃ u,w.cell? ⟨b,off+i,none⟩=some u∧LsR N lo hi w u (L i) (R i))
theorem MtR.le {N lo hi:Nat} {w:World} {v:Value} {m:Nat} {L:Nat→Nat} {R:Nat→Nat→Raw} (h:MtR N lo hi w v m L R):N≤w.heap.size:=h.1
theorem MtR.ext {N lo hi:Nat} {w w':World} {v:Value} {m:Nat} {L:Nat→Nat} {R:Nat→Nat→Raw} (h:MtR N lo hi w v m L R) (e:Ext w w'):MtR N lo hi w' v m L R:=by
 obtain⟨h1,h2,A,c,hv,h3,h4,h5⟩:=h;refine⟨Nat.le_trans h1 e.size,Nat.le_trans h2 e.size,A,c,hv,h3,h4,fun hn=>?_⟩;obtain⟨b,off,hA,hl,hh,hx⟩:=h5 hn;refine⟨b,off,hA,hl,hh,fun i hi=>?_⟩;obtain⟨u,hu,hr⟩:=hx i hi;exact⟨u,e.cell hu,hr.ext e⟩
theorem MtR.chg {N lo hi l h:Nat} {w w':World} {v:Value} {m:Nat} {L:Nat→Nat} {R:Nat→Nat→Raw} (hx:MtR N lo hi w v m L R) (c:Chg l h w w') (hN:N≤l) (hd:hi≤l∨h≤lo):MtR N lo hi w' v m L R:=by
 obtain⟨h1,h2,A,k,hv,h3,h4,h5⟩:=hx;refine⟨Nat.le_trans h1 c.size,Nat.le_trans h2 c.size,A,k,hv,h3,h4,fun hn=>?_⟩;obtain⟨b,off,hA,hl,hh,hx⟩:=h5 hn;refine⟨b,off,hA,hl,hh,fun i hi=>?_⟩;obtain⟨u,hu,hr⟩:=hx i hi;exact⟨u,c.cell (p:=⟨b,off+i,none⟩) hu (by simp only; omega),hr.chg c hN hd⟩
theorem MtR.wide {N lo hi lo' hi':Nat} {w:World} {v:Value} {m:Nat} {L:Nat→Nat} {R:Nat→Nat→Raw} (h:MtR N lo hi w v m L R) (h1:lo'≤lo) (h2:hi≤hi') (h3:hi'≤w.heap.size):MtR N lo' hi' w v m L R:=by
 obtain⟨a1,a2,A,c,hv,a3,a4,a5⟩:=h;refine⟨a1,h3,A,c,hv,a3,a4,fun hn=>?_⟩;obtain⟨b,off,hA,hl,hh,hx⟩:=a5 hn;refine⟨b,off,hA,by omega,by omega,fun i hi=>?_⟩;obtain⟨u,hu,hr⟩:=hx i hi;exact⟨u,hu,hr.wide h1 h2 h3⟩
theorem MtR.form {N lo hi:Nat} {w:World} {v:Value} {m:Nat} {L:Nat→Nat} {R:Nat→Nat→Raw} (h:MtR N lo hi w v m L R):∃ (A:Option Addr) (c:Nat),v=.slice A m c∧m≤c∧c≤maxLen:=by
 obtain⟨a1,a2,A,c,hv,a3,a4,a5⟩:=h;exact⟨A,c,hv,a3,a4⟩
theorem MtR.addr {N lo hi:Nat} {w:World} {A:Option Addr} {m c:Nat} {L:Nat→Nat} {R:Nat→Nat→Raw} (h:MtR N lo hi w (.slice A m c) m L R) (hm:0 < m):∃ b off,A=some ⟨b,off,none⟩∧lo≤b∧b < hi∧∀ i,i < m→∃ (A':Option Addr) (c':Nat),w.cell? ⟨b,off+i,none⟩=some (.slice A' (L i) c')∧L i≤c'∧c'≤maxLen∧LsR N lo hi w (.slice A' (L i) c') (L i) (R i):=by
 obtain⟨a1,a2,A,c,hv,a3,a4,a5⟩:=h;injection hv with e1 e2 e3
 subst e1;obtain⟨b,off,hA,hl,hh,hx⟩:=a5 hm;refine⟨b,off,hA,hl,hh,fun i hi=>?_⟩;obtain⟨u,hu,hr⟩:=hx i hi;obtain⟨A',c',rfl,h6,h7⟩:=hr.form;exact⟨A',c',hu,h6,h7,hr⟩
theorem MtR.congr {N lo hi:Nat} {w:World} {v:Value} {m:Nat} {L L':Nat→Nat} {R R':Nat→Nat→Raw} (h:MtR N lo hi w v m L R) (hl:∀ i,i < m→L i=L' i) (he:∀ i,i < m→∀ j,j < L i→R i j=R' i j):MtR N lo hi w v m L' R':=by
 obtain⟨a1,a2,A,c,hv,a3,a4,a5⟩:=h;refine⟨a1,a2,A,c,hv,a3,a4,fun hn=>?_⟩;obtain⟨b,off,hA,hlo,hh,hx⟩:=a5 hn;refine⟨b,off,hA,hlo,hh,fun i hi=>?_⟩;obtain⟨u,hu,hr⟩:=hx i hi;exact⟨u,hu,by rw [←hl i hi]; exact hr.congr (he i hi)⟩
def MtV (N lo hi:Nat) (w:World) (v:Value) (m n:Nat) (A:Nat→Nat→Rat):Prop:=MtR N lo hi w v m (fun _=>n) (fun i j=>raw (A i j))
theorem grown_chg {w w':World} {row:Option Nat} (h:w.grownBy w' row) {g:Nat} (hg:∀ k,row=some k→k=g) (ht:NoU w g):Chg g (g+1) w w':=by
 have hb:=(Below.refl w.heap.size w)
 refine⟨h.os,h.tape,h.output,h.size,fun k hk hc=>h.block k hk (fun e=>?_)⟩;have:=hg k e.symm;subst this
 rcases hc with hc | hc | ⟨cs,fr,hc⟩
 ·omega
 ·omega
 ·exact ht cs fr hc
theorem st4 {w:World} {b o:Nat} {cs:Array Value} {t:TypeId} (hb:w.heap[b]?=some (.cells cs t (0,0))) (ho:o+4≤cs.size) (v0 v1 v2 v3:Value) :
  ∃ w' cs',(((w.setCell ⟨b,o,none⟩ v0).setCell ⟨b,o+1,none⟩ v1).setCell ⟨b,o+2,none⟩ v2).setCell ⟨b,o+3,none⟩ v3=w'∧Upd b w w'∧w'.heap[b]?=some (.cells cs' t (0,0))∧cs'.size=cs.size ∧
   (∀ k,k < o∨o+4≤k→cs'[k]?=cs[k]?)∧cs'[o]?=some v0∧cs'[o+1]?=some v1∧cs'[o+2]?=some v2∧cs'[o+3]?=some v3:=by
 refine⟨_,_,rfl,((((Upd.refl b w).set o v0).set (o+1) v1).set (o+2) v2).set (o+3) v3,heap_set (heap_set (heap_set (heap_set hb o v0) (o+1) v1) (o+2) v2) (o+3) v3,by simp,fun k hk=>?_,?_,?_,?_,?_⟩
 ·rw [Array.getElem?_setIfInBounds_ne (by omega),Array.getElem?_setIfInBounds_ne (by omega),Array.getElem?_setIfInBounds_ne (by omega),Array.getElem?_setIfInBounds_ne (by omega)]
 ·rw [Array.getElem?_setIfInBounds_ne (by omega),Array.getElem?_setIfInBounds_ne (by omega),Array.getElem?_setIfInBounds_ne (by omega),Array.getElem?_setIfInBounds_self_of_lt (by omega)]
 ·rw [Array.getElem?_setIfInBounds_ne (by omega),Array.getElem?_setIfInBounds_ne (by omega),Array.getElem?_setIfInBounds_self_of_lt (by simp; omega)]
 ·rw [Array.getElem?_setIfInBounds_ne (by omega),Array.getElem?_setIfInBounds_self_of_lt (by simp; omega)]
 ·rw [Array.getElem?_setIfInBounds_self_of_lt (by simp; omega)]
def RowB (N:Nat) (w:World) (b k n:Nat) (x:Nat→Rat):Prop :=
 N≤b∧n≤k∧(∃ cs,w.heap[b]?=some (.cells cs 29 (0,0))∧cs.size=k*4)∧∀ j,j < n→At4 N w b (j*4) (raw (x j))
theorem RowB.lt {N:Nat} {w:World} {b k n:Nat} {x:Nat→Rat} (h:RowB N w b k n x):b < w.heap.size:=by
 obtain⟨-,-,⟨cs,h2,-⟩,-⟩:=h; exact blk_lt h2
theorem RowB.noU {N:Nat} {w:World} {b k n:Nat} {x:Nat→Rat} (h:RowB N w b k n x):NoU w b:=by
 obtain⟨-,-,⟨cs,h2,-⟩,-⟩:=h; exact NoU.mk h2 (by decide)
theorem RowB.frozen {N:Nat} {w:World} {b k n:Nat} {x:Nat→Rat} (h:RowB N w b k n x) (o:Nat):w.frozen? ⟨b,o,none⟩=false:=by
 obtain⟨-,-,⟨cs,h2,-⟩,-⟩:=h; exact frozen_blk h2 o
theorem RowB.there {N:Nat} {w:World} {b k n:Nat} {x:Nat→Rat} (h:RowB N w b k n x) {o:Nat} (ho:o < k*4):∃ u,w.cell? ⟨b,o,none⟩=some u:=by
 obtain⟨-,-,⟨cs,h2,h3⟩,-⟩:=h;rw [cell_blk h2];exact⟨_,Array.getElem?_eq_getElem (by omega)⟩
theorem RowB.ext {N:Nat} {w w':World} {b k n:Nat} {x:Nat→Rat} (h:RowB N w b k n x) (e:Ext w w'):RowB N w' b k n x:=by
 obtain⟨h1,h0,⟨cs,h2,h3⟩,h4⟩:=h;exact⟨h1,h0,⟨cs,e.block h2,h3⟩,fun j hj=>(h4 j hj).ext e⟩
theorem RowB.chg {N lo hi:Nat} {w w':World} {b k n:Nat} {x:Nat→Rat} (h:RowB N w b k n x) (c:Chg lo hi w w') (hN:N≤lo) (hb:b < lo∨hi≤b):RowB N w' b k n x:=by
 obtain⟨h1,h0,⟨cs,h2,h3⟩,h4⟩:=h;exact⟨h1,h0,⟨cs,c.blk h2 hb,h3⟩,fun j hj=>(h4 j hj).chg c hN hb⟩
theorem RowB.congr {N:Nat} {w:World} {b k n:Nat} {x y:Nat→Rat} (h:RowB N w b k n x) (he:∀ j,j < n→x j=y j):RowB N w b k n y:=by
 obtain⟨h1,h0,h2,h4⟩:=h;exact⟨h1,h0,h2,fun j hj=>by rw [←he j hj]; exact h4 j hj⟩
def upd (x:Nat→Rat) (i:Nat) (q:Rat) (j:Nat):Rat:=if j=i then q else x j
theorem upd_same (x:Nat→Rat) (i:Nat) (q:Rat):upd x i q i=q:=by simp [upd]
theorem upd_ne (x:Nat→Rat) {i j:Nat} (q:Rat) (h:j≠i):upd x i q j=x j:=by simp [upd,h]
theorem RowB.set {N:Nat} {w:World} {b k n:Nat} {x:Nat→Rat} (h:RowB N w b k n x) {i:Nat} (hi:i < k) (hin:i≤n) {neg:Bool} {s t:Value} {q:Rat} (hneg:Hid (neg=decide (q.num < 0))) (hs:Gs N w s (dg q.num.natAbs)) (ht:Gs N w t (dg q.den)) :
  ∃ w',(((w.setCell ⟨b,i*4,none⟩ (.bool neg)).setCell ⟨b,i*4+1,none⟩ s).setCell ⟨b,i*4+2,none⟩ (.bool false)).setCell ⟨b,i*4+3,none⟩ t=w'∧Chg b (b+1) w w'∧w'.heap.size=w.heap.size∧RowB N w' b k (max n (i+1)) (upd x i q):=by
 obtain⟨h1,h0,⟨cs,h2,h3⟩,h4⟩:=h;obtain⟨w',cs',E,U,hb,hsz,hoth,c0,c1,c2,c3⟩:=st4 (o:=i*4) h2 (by omega) (.bool neg) s (.bool false) t;have c:=U.chg (NoU.mk h2 (by decide));refine⟨w',E,c,U.size,h1,by omega,⟨cs',hb,by omega⟩,fun j hj=>?_⟩
 by_cases hji:j=i
 ·subst hji;rw [upd_same];refine⟨s,t,?_,?_,?_,?_,hs.chg c (by omega),ht.chg c (by omega)⟩
  ·rw [cell_blk hb,c0,hneg.out]; rfl
  ·rw [cell_blk hb,c1]
  ·rw [cell_blk hb,c2]; rfl
  ·rw [cell_blk hb,c3]
 ·rw [upd_ne x q hji];obtain⟨s',t',d0,d1,d2,d3,g1,g2⟩:=h4 j (by omega);rw [cell_blk h2] at d0 d1 d2 d3;refine⟨s',t',?_,?_,?_,?_,g1.chg c (by omega),g2.chg c (by omega)⟩ <;> rw [cell_blk hb,hoth _ (by omega)] <;> assumption
theorem RowB.lsv {N:Nat} {w:World} {b k n:Nat} {x:Nat→Rat} (h:RowB N w b k n x) {c lo hi:Nat} (hc:n≤c) (hm:c≤maxLen) (h1:lo≤b) (h2:b < hi) (h3:hi≤w.heap.size):LsV N lo hi w (.slice (some ⟨b,0,none⟩) n c) n x:=by
 have hl:=h.lt;obtain⟨a1,a0,-,a4⟩:=h;refine⟨by omega,h3,_,c,rfl,hc,hm,fun _=>⟨b,0,rfl,h1,h2,fun i hi=>?_⟩⟩;rw [Nat.zero_add]; exact a4 i hi
theorem info_rat:(Tryz.prog.info? 29).map (fun i=>(i.zero,i.size,i.bytes))=some (some (.agg #[.bool false,.slice none 0 0,.bool false,.slice none 0 0]),4,64):=by kernel_rfl
def Grow (N base:Nat) (w:World) (v:Value) (n:Nat) (x:Nat→Rat):Prop :=
 N≤base∧base≤w.heap.size∧((v=.slice none 0 0∧n=0)∨∃ g cap,v=.slice (some ⟨g,0,none⟩) n cap∧base≤g∧cap≤maxLen∧RowB N w g cap n x)
theorem Grow.nil {N base:Nat} {w:World} (h1:N≤base) (h2:base≤w.heap.size) (x:Nat→Rat):Grow N base w (.slice none 0 0) 0 x:=⟨h1,h2,.inl ⟨rfl,rfl⟩⟩
theorem Grow.form {N base:Nat} {w:World} {v:Value} {n:Nat} {x:Nat→Rat} (h:Grow N base w v n x):∃ A c,v=.slice A n c∧n≤c:=by
 obtain⟨-,-,⟨rfl,rfl⟩ | ⟨g,cap,rfl,-,-,hr⟩⟩:=h
 ·exact⟨_,_,rfl,Nat.le_refl _⟩
 ·exact⟨_,_,rfl,hr.2.1⟩
theorem Grow.ext {N base:Nat} {w w':World} {v:Value} {n:Nat} {x:Nat→Rat} (h:Grow N base w v n x) (e:Ext w w'):Grow N base w' v n x:=by
 obtain⟨h1,h2,h3⟩:=h;refine⟨h1,Nat.le_trans h2 e.size,?_⟩
 rcases h3 with h3 | ⟨g,cap,hv,hg,hm,hr⟩
 ·exact .inl h3
 ·exact .inr ⟨g,cap,hv,hg,hm,hr.ext e⟩
theorem Grow.chg {N base lo hi:Nat} {w w':World} {v:Value} {n:Nat} {x:Nat→Rat} (h:Grow N base w v n x) (c:Chg lo hi w w') (hN:N≤lo) (hb:hi≤base):Grow N base w' v n x:=by
 obtain⟨h1,h2,h3⟩:=h;refine⟨h1,Nat.le_trans h2 c.size,?_⟩
 rcases h3 with h3 | ⟨g,cap,hv,hg,hm,hr⟩
 ·exact .inl h3
 ·exact .inr ⟨g,cap,hv,hg,hm,hr.chg c hN (by omega)⟩
theorem Grow.congr {N base:Nat} {w:World} {v:Value} {n:Nat} {x y:Nat→Rat} (h:Grow N base w v n x) (he:∀ j,j < n→x j=y j):Grow N base w v n y:=by
 obtain⟨h1,h2,h3⟩:=h;refine⟨h1,h2,?_⟩
 rcases h3 with h3 | ⟨g,cap,hv,hg,hm,hr⟩
 ·exact .inl h3
 ·exact .inr ⟨g,cap,hv,hg,hm,hr.congr he⟩
theorem Grow.lsv {N base:Nat} {w:World} {v:Value} {n:Nat} {x:Nat→Rat} (h:Grow N base w v n x) {lo hi:Nat} (h1:lo≤base) (h2:hi=w.heap.size):LsV N lo hi w v n x:=by
 subst h2;obtain⟨a1,a2,⟨rfl,rfl⟩ | ⟨g,cap,rfl,hg,hm,hr⟩⟩:=h
 ·exact⟨by omega,Nat.le_refl _,none,0,rfl,Nat.le_refl _,Nat.zero_le _,fun h=>absurd h (by omega)⟩
 ·exact hr.lsv hr.2.1 hm (by omega) hr.lt (Nat.le_refl _)
theorem row_cells {N:Nat} {w:World} {g cap n:Nat} {x:Nat→Rat} (h:RowB N w g cap n x) (hm:cap≤maxLen) {base:Nat} (hb:base≤g):∃ xs,w.ownsRow base 29 4 (.slice (some ⟨g,0,none⟩) n cap) n xs∧∀ k,k < n*4→xs[k]?=w.cell? ⟨g,k,none⟩:=by
 obtain⟨h1,h0,⟨cs,h2,h3⟩,h4⟩:=h;refine⟨cs.toList.take (n*4),⟨by rw [List.length_take]; simp; omega,.inr ⟨g,cap,cs,rfl,hb,h2,h0,hm,h3,rfl⟩⟩,fun k hk=>?_⟩;rw [List.getElem?_take,if_pos hk,cell_blk h2]; simp
theorem run_append_rat {N base:Nat} {w:World} (t ty:TypeId) (ht:Tryz.prog.underlying t=some (.slice 29)) {v:Value} {n:Nat} {x:Nat→Rat} (h:Grow N base w v n x)
  {b:Nat} {neg:Bool} {s u:Value} {q:Rat} {fr:Nat×Nat} (hb:w.heap[b]?=some (.cells #[.bool neg,s,.bool false,u] 29 fr)) (hneg:Hid (neg=decide (q.num < 0))) (hs:Gs N w s (dg q.num.natAbs)) (hu:Gs N w u (dg q.den)) (hn:n < 1000000000) :
  ∃ g cap w',(Builtin.append_ #[t,t] ty #[v,.slice (some ⟨b,0,none⟩) 1 1]).run Tryz.prog w=.ok (.slice (some ⟨g,0,none⟩) (n+1) cap) w'∧Grow N base w' (.slice (some ⟨g,0,none⟩) (n+1) cap) (n+1) (upd x n q)∧(∃ g',base≤g'∧Chg g' (g'+1) w w'∧NoU w g')∧g < w'.heap.size:=by
 obtain⟨i0,hi0,hz0,hz1,hz2⟩:=info_parts info_rat;obtain⟨h1,h2,h3⟩:=h
 have hown:∃ xs,w.ownsRow base 29 4 v n xs∧∀ g k,v.ownBlock=some g→k < n*4→xs[k]?=w.cell? ⟨g,k,none⟩:=by
  rcases h3 with ⟨rfl,rfl⟩ | ⟨g,cap,rfl,hg,hm,hr⟩
  ·exact⟨[],⟨by simp,.inl ⟨rfl,rfl⟩⟩,fun g k hg hk=>by omega⟩
  ·obtain⟨xs,hx,hc⟩:=row_cells hr hm hg
   exact⟨xs,hx,fun g' k hg' hk=>by
    have:g=g':=by simpa [Value.ownBlock] using hg'
    subst this; exact hc k hk⟩
 obtain⟨xs,hown,hcell⟩:=hown;obtain⟨As,ns,cs0,rfl,-,-,-⟩:=hs.form;obtain⟨Au,nu,cu,rfl,-,-,-⟩:=hu.form
 obtain⟨g,cap,w',hrun,ho,hgr,hat,hlt⟩:=run_append_lies (P:=Tryz.prog) w t ty base 29 i0 _ 4 64 ht hi0 hz0 hz1 hz2 rfl (by omega) v n xs hown ⟨b,0,none⟩ 1 1 [.bool neg,.slice As ns cs0,.bool false,.slice Au nu cu] rfl
  (fun j u hj=>by
   have e:(⟨b,0,none⟩:Addr).add j=⟨b,j,none⟩:=by
    unfold Addr.add; split
    ·rename_i e; subst e; rfl
    ·simp
   rw [e,cell_blk hb]
   simpa using hj)
  (fun u hu=>by simp at hu; rcases hu with rfl | rfl | rfl | rfl <;> rfl) (by omega) (by unfold maxLen; omega) (by omega) h2 w.heap.size rfl
 have hchg:∃ g',base≤g'∧Chg g' (g'+1) w w'∧NoU w g':=by
  rcases h3 with ⟨rfl,rfl⟩ | ⟨g0,cap0,rfl,hg,hm,hr⟩
  ·have hT:NoU w w.heap.size:=fun cs fr h=>by rw [Array.getElem?_eq_none (Nat.le_refl _)] at h; cases h
   exact⟨w.heap.size,h2,grown_chg hgr (fun k hk=>by simp [Value.ownBlock] at hk) hT,hT⟩
  ·exact⟨g0,hg,grown_chg hgr (fun k hk=>by simpa [Value.ownBlock] using hk.symm) hr.noU,hr.noU⟩
 refine⟨g,cap,w',hrun,⟨h1,Nat.le_trans h2 hgr.size,.inr ⟨g,cap,rfl,?_,?_,?_⟩⟩,hchg,hlt⟩
 ·rcases ho.2 with ⟨h,_⟩ | ⟨g2,cap2,cur,hv,hbg,_⟩
  ·cases h
  ·injection hv with e1 _ _; injection e1 with e1; injection e1 with e1 _; omega
 ·rcases ho.2 with ⟨h,_⟩ | ⟨g2,cap2,cur,hv,hbg,_,_,hcm,_⟩
  ·cases h
  ·injection hv with _ _ e3; subst e3; exact hcm
 ·rcases ho.2 with ⟨h,_⟩ | ⟨g2,cap2,cur,hv,hbg,hh,hnc,hcm,hcs,htk⟩
  ·cases h
  ·injection hv with e1 _ e3
   injection e1 with e1
   injection e1 with e1 _
   subst e1 e3;obtain⟨g',hg',hc,hT⟩:=hchg;have hNg:N≤g':=by omega
   have hx:∀ k,k < (n+1)*4→w'.cell? ⟨g,k,none⟩=(xs ++ [.bool neg,.slice As ns cs0,.bool false,.slice Au nu cu])[k]?:=by
    intro k hk;rw [cell_blk hh,←htk,List.getElem?_take,if_pos hk]; simp
   have hxl:xs.length=n*4:=hown.1;refine⟨by omega,hnc,⟨cur,hh,hcs⟩,fun j hj=>?_⟩
   by_cases hjn:j=n
   ·subst hjn;rw [upd_same];refine⟨.slice As ns cs0,.slice Au nu cu,?_,?_,?_,?_,hs.chg hc hNg,hu.chg hc hNg⟩
    ·rw [hx _ (by omega),List.getElem?_append_right (by omega),show j*4 - xs.length=0 by omega,hneg.out]; rfl
    ·rw [hx _ (by omega),List.getElem?_append_right (by omega),show j*4+1 - xs.length=1 by omega]; rfl
    ·rw [hx _ (by omega),List.getElem?_append_right (by omega),show j*4+2 - xs.length=2 by omega]; rfl
    ·rw [hx _ (by omega),List.getElem?_append_right (by omega),show j*4+3 - xs.length=3 by omega]; rfl
   ·rw [upd_ne x q hjn]
    rcases h3 with ⟨rfl,rfl⟩ | ⟨g0,cap0,rfl,hg,hm,hr⟩
    ·omega
    ·obtain⟨s',t',d0,d1,d2,d3,g1,g2⟩:=hr.2.2.2 j (by omega)
     have hy:∀ k,k < n*4→w'.cell? ⟨g,k,none⟩=w.cell? ⟨g0,k,none⟩:=fun k hk=>by
      rw [hx k (by omega),List.getElem?_append_left (by omega),hcell g0 k rfl hk]
     exact⟨s',t',(hy _ (by omega)).trans d0,(hy _ (by omega)).trans d1,(hy _ (by omega)).trans d2,(hy _ (by omega)).trans d3,g1.chg hc hNg,g2.chg hc hNg⟩
end Go.Proofs.YtphpkhoeplcedaaGreat
namespace Go.Proofs.YtphpkhoeplcedaaGreat
section
variable {P:Program} {ops:Array Oper} {Q:Exit→Act→World→Prop} {S:World→Prop} {late:List Nat}
def preds (ops:Array Oper) (i:Nat):List Nat :=
 match ops[i]? with
 | some o=>(o.after.toList.filter (fun e=>Region.binds .any e)).map (·.on)
 | none=>[]
def sweep (ops:Array Oper):Nat→List Nat→List Nat
 | 0,s=>s
 | i+1,s=>sweep ops i (if s.contains i then preds ops i ++ s else s)
def waitsB (ops:Array Oper) (late:List Nat) (i:Nat):Bool :=
 !late.contains i && late.all fun t=>(sweep ops t (preds ops t)).contains i
def Closed (ops:Array Oper) (listed:Array Bool):Prop:=∀ i,listed.getD i false=true→∀ j∈preds ops i,listed.getD j false=true
theorem preds_ready {listed:Array Bool} {i:Nat} (h:i∈Region.ready .any ops listed):∀ j∈preds ops i,listed.getD j false=true:=by
 obtain⟨_,o,ho,hall⟩:=mem_ready.1 h;intro j hj;unfold preds at hj;rw [ho] at hj;simp only [List.mem_map,List.mem_filter] at hj;obtain⟨e,⟨he,hb⟩,rfl⟩:=hj;exact hall e (by simpa using he) hb
theorem Closed.start (n:Nat):Closed ops (Array.replicate n false):=by
 intro i hi
 exfalso
 rw [Array.getD_eq_getD_getElem?,Array.getElem?_replicate] at hi
 split at hi <;> simp at hi
theorem Closed.set {listed:Array Bool} (h:Closed ops listed) {i:Nat} (hi:i∈Region.ready .any ops listed):Closed ops (listed.setIfInBounds i true):=by
 intro k hk j hj
 by_cases hki:i=k
 ·subst hki; exact getD_set_true (preds_ready hi j hj)
 ·rw [Go.getD_set_ne false hki] at hk; exact getD_set_true (h k hk j hj)
theorem sweep_listed {listed:Array Bool} (h:Closed ops listed):∀ (n:Nat) (s:List Nat),(∀ j∈s,listed.getD j false=true)→∀ j∈sweep ops n s,listed.getD j false=true
 | 0,_,hs=>hs
 | n+1,s,hs=>by
  unfold sweep;refine sweep_listed h n _ ?_
  split
  ·rename_i hc
   intro j hj
   rcases List.mem_append.1 hj with h1 | h1
   ·exact h n (hs n (by simpa using hc)) j h1
   ·exact hs j h1
  ·exact hs
theorem late_listed {i:Nat} (hl:waitsB ops late i=true) {listed:Array Bool} (h:Closed ops listed) {t:Nat} (ht:t∈Region.ready .any ops listed) (htl:late.contains t=true):listed.getD i false=true:=by
 unfold waitsB at hl;rw [Bool.and_eq_true] at hl;have h2:=List.all_eq_true.1 hl.2 t (by simpa using htl);exact sweep_listed h t _ (preds_ready ht) i (by simpa using h2)
def anyL (P:Program) (ops:Array Oper) (Q:Exit→Act→World→Prop) (S:World→Prop) (late:List Nat):Nat→Array Bool→Act→World→Prop
 | 0,listed,a,w=>Region.ready .any ops listed=[]∧Q .normal a w
 | fuel+1,listed,a,w =>
  (Region.ready .any ops listed=[]→Q .normal a w) ∧
  ∀ i∈Region.ready .any ops listed,wpOp P ops Q i (fun a' w'=>(late.contains i=false→S w→S w')∧anyL P ops Q S late fuel (listed.setIfInBounds i true) a' w') a w
theorem any_of_anyL:∀ (fuel:Nat) (listed:Array Bool) (a:Act) (w:World),anyL P ops Q S late fuel listed a w→wpAny P .any ops Q fuel listed a w
 | 0,_,_,_,h=>h
 | fuel+1,_,_,_,h=>⟨h.1,fun i hi=>wpOp_mono (fun a' w' h'=>any_of_anyL fuel _ a' w' h'.2) (h.2 i hi)⟩
theorem ready_not {listed:Array Bool} {i:Nat} (h:i∈Region.ready .any ops listed):listed.getD i false=false:=by
 have h0:=(mem_ready.1 h).1
 rcases Nat.lt_or_ge i listed.size with h' | h'
 ·simp [h'] at h0 ⊢; exact h0
 ·simp [Array.getElem?_eq_none h']
theorem anyL_first {i:Nat} {oi:Oper} {v:Value} (hi:ops[i]?=some oi) (hl:waitsB ops late i=true) (hsel:∀ (j:Nat) (o:Oper) cs b,ops[j]?=some o→o.op≠.select cs b)
  (hQ:∀ c a w,Q (.panic c) (a.put oi.dst v) w→Q (.panic c) a w) :
  ∀ (fuel:Nat) (listed:Array Bool) (a:Act) (w:World),Closed ops listed →
   (∀ j oj,ops[j]?=some oj→j≠i→listed.getD j true=false→(∀ e∈oj.after,Region.binds .any e=true→e.on≠i)→oi.apart ops oj=true) →
   i∈Region.ready .any ops listed→YieldsIf P ops S oi v a→S w →
   anyL P ops Q S late fuel (listed.setIfInBounds i true) (a.put oi.dst v) w→anyL P ops Q S late (fuel+1) listed a w:=by
 intro fuel
 induction fuel with
 | zero =>
  intro listed a w _ _ hr hy hS H;refine⟨fun h=>(by rw [h] at hr; cases hr),fun j hj=>?_⟩
  by_cases hji:j=i
  ·subst hji; exact hy.wpOp hi hS ⟨fun _ h=>h,H⟩
  ·have:=ready_mono hj hji;rw [H.1] at this;cases this
 | succ fuel ih =>
  intro listed a w hcl hfree hr hy hS H;refine⟨fun h=>(by rw [h] at hr; cases hr),fun j hj=>?_⟩
  by_cases hji:j=i
  ·subst hji; exact hy.wpOp hi hS ⟨fun _ h=>h,H⟩
  ·have h1:=H.2 j (ready_mono hj hji);obtain⟨hjun,oj,hoj,hall⟩:=mem_ready.1 hj;have hun:=ready_not hr
   have hjt:late.contains j=false:=by
    cases hc:late.contains j with
    | false=>rfl
    | true =>
     have:=late_listed hl hcl hj hc;rw [hun] at this; cases this
   have hnot:∀ e∈oj.after,Region.binds .any e=true→e.on≠i:=fun e he hb heq=>by
    have h2:=hall e he hb;rw [heq,hun] at h2;cases h2
   have h2:=wpOp_putIf hoj (hfree j oj hoj hji hjun hnot) (fun cs b=>hsel i oi cs b hi) (fun cs b=>hsel j oj cs b hoj) hQ hy h1
   have hfree':∀ k ok,ops[k]?=some ok→k≠i→(listed.setIfInBounds j true).getD k true=false →
     (∀ e∈ok.after,Region.binds .any e=true→e.on≠i)→oi.apart ops ok=true:=fun k ok hk hki hun' hno=>by
    refine hfree k ok hk hki ?_ hno
    by_cases hjk:j=k
    ·subst hjk; exact hjun
    ·rw [Go.getD_set_ne true hjk] at hun'; exact hun'
   refine wpOp_mono (fun a' w' h3=>⟨h3.2.1,ih (listed.setIfInBounds j true) a' w' (hcl.set hj) hfree' (ready_mono hr (Ne.symm hji)) h3.1 (h3.2.1 hjt hS) ?_⟩) h2;rw [Array.setIfInBounds_comm _ _ hji];exact h3.2.2
theorem anyL_pure {i:Nat} {oi:Oper} {v:Value} (hi:ops[i]?=some oi) (hsel:∀ (j:Nat) (o:Oper) cs b,ops[j]?=some o→o.op≠.select cs b)
  (hQ:∀ c a w,Q (.panic c) (a.put oi.dst v) w→Q (.panic c) a w) :
  ∀ (fuel:Nat) (listed:Array Bool) (a:Act) (w:World),
   (∀ j oj,ops[j]?=some oj→j≠i→listed.getD j true=false→(∀ e∈oj.after,Region.binds .any e=true→e.on≠i)→oi.apart ops oj=true) →
   i∈Region.ready .any ops listed→YieldsIf P ops (fun _=>True) oi v a →
   anyL P ops Q S late fuel (listed.setIfInBounds i true) (a.put oi.dst v) w→anyL P ops Q S late (fuel+1) listed a w:=by
 intro fuel
 induction fuel with
 | zero =>
  intro listed a w _ hr hy H;refine⟨fun h=>(by rw [h] at hr; cases hr),fun j hj=>?_⟩
  by_cases hji:j=i
  ·subst hji; exact hy.wpOp hi trivial ⟨fun _ h=>h,H⟩
  ·have:=ready_mono hj hji;rw [H.1] at this;cases this
 | succ fuel ih =>
  intro listed a w hfree hr hy H;refine⟨fun h=>(by rw [h] at hr; cases hr),fun j hj=>?_⟩
  by_cases hji:j=i
  ·subst hji; exact hy.wpOp hi trivial ⟨fun _ h=>h,H⟩
  ·have h1:=H.2 j (ready_mono hj hji);obtain⟨hjun,oj,hoj,hall⟩:=mem_ready.1 hj;have hun:=ready_not hr
   have hnot:∀ e∈oj.after,Region.binds .any e=true→e.on≠i:=fun e he hb heq=>by
    have h2:=hall e he hb;rw [heq,hun] at h2;cases h2
   have h2:=wpOp_putIf hoj (hfree j oj hoj hji hjun hnot) (fun cs b=>hsel i oi cs b hi) (fun cs b=>hsel j oj cs b hoj) hQ hy h1
   have hfree':∀ k ok,ops[k]?=some ok→k≠i→(listed.setIfInBounds j true).getD k true=false →
     (∀ e∈ok.after,Region.binds .any e=true→e.on≠i)→oi.apart ops ok=true:=fun k ok hk hki hun' hno=>by
    refine hfree k ok hk hki ?_ hno
    by_cases hjk:j=k
    ·subst hjk; exact hjun
    ·rw [Go.getD_set_ne true hjk] at hun'; exact hun'
   refine wpOp_mono (fun a' w' h3=>⟨h3.2.1,ih (listed.setIfInBounds j true) a' w' hfree' (ready_mono hr (Ne.symm hji)) h3.1 ?_⟩) h2;rw [Array.setIfInBounds_comm _ _ hji];exact h3.2.2
def stepL (P:Program) (ops:Array Oper) (Q:Exit→Act→World→Prop) (S:World→Prop) (late:List Nat) (fuel:Nat) (listed:Array Bool) (a:Act) (w:World):Prop:=Closed ops listed→anyL P ops Q S late fuel listed a w
theorem stepL_take {i:Nat} {oi:Oper} {v:Value} {fuel:Nat} {listed:Array Bool} {a:Act} {w:World} (hi:ops.toList[i]?=some oi) (hl:waitsB ops late i=true)
  (hs:Region.noSelect ops=true) (hf:Region.free .any ops listed i=true) (hr:(Region.ready .any ops listed).contains i=true)
  (hQ:∀ c a w,Q (.panic c) (a.put oi.dst v) w→Q (.panic c) a w) (hy:YieldsIf P ops S oi v a) (hS:S w)
  (h:stepL P ops Q S late fuel (listed.setIfInBounds i true) (a.put oi.dst v) w):stepL P ops Q S late (fuel+1) listed a w:=fun hcl =>
 have hi':ops[i]?=some oi:=by rw [←Array.getElem?_toList]; exact hi
 anyL_first hi' hl (Region.noSelect_spec hs) hQ fuel listed a w hcl (Region.free_spec hi' hf) (by simpa using hr) hy hS (h (hcl.set (by simpa using hr)))
theorem stepL_pure {i:Nat} {oi:Oper} {v:Value} {fuel:Nat} {listed:Array Bool} {a:Act} {w:World} (hi:ops.toList[i]?=some oi)
  (hs:Region.noSelect ops=true) (hf:Region.free .any ops listed i=true) (hr:(Region.ready .any ops listed).contains i=true)
  (hQ:∀ c a w,Q (.panic c) (a.put oi.dst v) w→Q (.panic c) a w) (hy:YieldsIf P ops (fun _=>True) oi v a)
  (h:stepL P ops Q S late fuel (listed.setIfInBounds i true) (a.put oi.dst v) w):stepL P ops Q S late (fuel+1) listed a w:=fun hcl =>
 have hi':ops[i]?=some oi:=by rw [←Array.getElem?_toList]; exact hi
 anyL_pure hi' (Region.noSelect_spec hs) hQ fuel listed a w (Region.free_spec hi' hf) (by simpa using hr) hy (h (hcl.set (by simpa using hr)))
theorem sP (i:Nat) {oi:Oper} {v:Value} {fuel:Nat} {listed:Array Bool} {a:Act} {w:World} (hi:ops.toList[i]?=some oi:=by rfl)
  (hs:Region.noSelect ops=true:=by kernel_rfl) (hf:Region.free .any ops listed i=true:=by kernel_rfl) (hr:(Region.ready .any ops listed).contains i=true:=by kernel_rfl)
  (hQ:∀ c a w,Q (.panic c) (a.put oi.dst v) w→Q (.panic c) a w:=by exact fun _ _ _ h=>h) (hg:Region.wanted oi (yielded ops a.tmps)=true:=by rfl)
  (hy:∀ w,True→(execOp a.eval oi).run P w=.ok (.value v) w:=by (intro w hSw; (try dsimp only at hSw); go_simp; (try (rw [if_pos (by omega)])); (try with_reducible rfl)))
  (h:stepL P ops Q S late fuel (listed.setIfInBounds i true) (a.put oi.dst v) w):stepL P ops Q S late (fuel+1) listed a w :=
 stepL_pure hi hs hf hr hQ (Or.inl ⟨hg,hy⟩) h
theorem sT (i:Nat) {oi:Oper} {v:Value} {fuel:Nat} {listed:Array Bool} {a:Act} {w:World} (hi:ops.toList[i]?=some oi:=by rfl) (hl:waitsB ops late i=true:=by kernel_rfl)
  (hs:Region.noSelect ops=true:=by kernel_rfl) (hf:Region.free .any ops listed i=true:=by kernel_rfl) (hr:(Region.ready .any ops listed).contains i=true:=by kernel_rfl)
  (hQ:∀ c a w,Q (.panic c) (a.put oi.dst v) w→Q (.panic c) a w:=by exact fun _ _ _ h=>h) (hg:Region.wanted oi (yielded ops a.tmps)=true:=by rfl)
  (hy:∀ w,S w→(execOp a.eval oi).run P w=.ok (.value v) w:=by (intro w hSw; (try dsimp only at hSw); go_simp; (try (rw [if_pos (by omega)])); (try with_reducible rfl))) (hS:S w:=by assumption)
  (h:stepL P ops Q S late fuel (listed.setIfInBounds i true) (a.put oi.dst v) w):stepL P ops Q S late (fuel+1) listed a w :=
 stepL_take hi hl hs hf hr hQ (Or.inl ⟨hg,hy⟩) hS h
theorem nr:(∀ (a:Act) (d:Tmp) (v:Value),a.put (some d) v={ a with tmps:=a.tmps.setIfInBounds d v })∧(∀ (a:Act) (v:Value),a.put none v=a)∧(∀ (l:List Value) (i:Nat) (v:Value),l.toArray.setIfInBounds i v=(l.set i v).toArray)∧(∀ (x:Value) (l:List Value) (v:Value),(x :: l).set 0 v=v :: l)∧(∀ (x:Value) (l:List Value) (i:Nat) (v:Value),(x :: l).set (i+1) v=x :: l.set i v) :=
 ⟨fun _ _ _=>rfl,fun _ _=>rfl,fun _ _ _=>by simp,fun _ _ _=>rfl,fun _ _ _ _=>rfl⟩
theorem stepL_only {i:Nat} {o:Oper} {fuel:Nat} {listed:Array Bool} {a:Act} {w:World} (hi:ops.toList[i]?=some o) (hr:Region.ready .any ops listed=[i])
  (h:∀ K':Act→World→Prop,Shut (∀ a w,S w→(S w→stepL P ops Q S late fuel (listed.setIfInBounds i true) a w)→K' a w)→if Region.wanted o (yielded ops a.tmps)=true then Oper.wp P o a w K' Q else K' (a.put o.dst undef) w) :
  stepL P ops Q S late (fuel+1) listed a w:=fun hcl=>by
 refine⟨fun h0=>(by rw [hr] at h0; cases h0),fun j hj=>?_⟩;have hj':j=i:=by rw [hr] at hj; simpa using hj
 subst hj';have hi':ops[j]?=some o:=by rw [←Array.getElem?_toList]; exact hi
 exact wpOp_step hi' (fun K' hK=>h K' (fun a w hS hW=>hK a w ⟨fun _ _=>hS,hW hS (hcl.set hj)⟩))
theorem stepL_late {i:Nat} {o:Oper} {fuel:Nat} {listed:Array Bool} {a:Act} {w:World} (hi:ops.toList[i]?=some o) (hr:Region.ready .any ops listed=[i]) (hc:late.contains i=true)
  (h:∀ K':Act→World→Prop,Shut (∀ a w,stepL P ops Q S late fuel (listed.setIfInBounds i true) a w→K' a w)→if Region.wanted o (yielded ops a.tmps)=true then Oper.wp P o a w K' Q else K' (a.put o.dst undef) w) :
  stepL P ops Q S late (fuel+1) listed a w:=fun hcl=>by
 refine⟨fun h0=>(by rw [hr] at h0; cases h0),fun j hj=>?_⟩;have hj':j=i:=by rw [hr] at hj; simpa using hj
 subst hj';have hi':ops[j]?=some o:=by rw [←Array.getElem?_toList]; exact hi
 exact wpOp_step hi' (fun K' hK=>h K' (fun a w hW=>hK a w ⟨fun h0=>(by rw [hc] at h0; cases h0),hW (hcl.set hj)⟩))
theorem stepL_done {listed:Array Bool} {a:Act} {w:World} (hr:Region.ready .any ops listed=[]) (h:Q .normal a w):∀ fuel,stepL P ops Q S late fuel listed a w
 | 0=>fun _=>⟨hr,h⟩
 | _+1=>fun _=>⟨fun _=>h,by rw [hr]; simp⟩
theorem region_late (S:World→Prop) (late:List Nat) {id:Nat} {a:Act} {w:World} (hm:P.follows .mixedOrders=true) (hS:S w.drew)
  (h:S w.drew→stepL P ops Q S late ops.size (Array.replicate ops.size false) a w.drew):(Code.region id ops true).wp P Q a w :=
 wp_region_any hm (any_of_anyL _ _ _ _ (h hS (Closed.start _)))
end
end Go.Proofs.YtphpkhoeplcedaaGreat
namespace Go.Proofs.YtphpkhoeplcedaaGreat
open Go.RowKit
theorem r2_new {N:Nat} {w:World} {v v':Value} {x y:Int} (h:IntV N w v x) (h':IntV N w v' y) (hy:y≠0) (hL:ln x.natAbs≤10000000000) (hL':ln y.natAbs≤10000000000) :
  Calls Tryz.prog 64 #[v,v'] w (RetRC N w (Rat.divInt x y)):=by
 obtain⟨q,hq⟩:=hid_eq (Rat.divInt x y);rw [←hq.out];have hI:=h;have hI':=h';obtain⟨n1,A1,k1,c1,rfl,Hn1,hs,-⟩:=h.parts;obtain⟨n2,A2,k2,c2,rfl,Hn2,hs',-⟩:=h'.parts;have hN:=hs.le;have HY:=Lib.hid hy;have HLx:=Lib.hid hL;have HLy:=Lib.hid hL';obtain⟨sy,hsy⟩:=hid_eq y.sign
 have t1:(sy == 0)=false:=by
  have:sy≠0:=by rw [hsy.out]; intro e; exact hy (Int.sign_eq_zero_iff_zero.1 e)
  simpa using this
 clear hy hL hL' h h' hs hs';go_enter Tryz.func64,Tryz.ntmps64;go_wp2_with (go_at_call 106; refine Hid.out ?_);refine boxesC3 ?_;intro W hE hsz B0 B1 B2;refine (r1_sign (hI'.ext hE) (by have:=HLy.out; omega)).mono ?_;rintro e w1 ⟨rfl,e1⟩;rw [←hsy.out];replace hE:=hE.trans e1;replace B0:=e1.block B0;replace B1:=e1.block B1;replace B2:=e1.block B2;obtain⟨a0,a1,-⟩:=cells2 B0;obtain⟨b0,b1,-⟩:=cells2 B1;go_wp2_with (go_at_call 70; refine Hid.out ?_);refine (r2_reduced (hI.ext hE) (hI'.ext hE) HY.out HLx.out HLy.out).mono ?_;rw [←hq.out];intro e w2 hh;obtain⟨n3,A3,k3,c3,A4,k4,c4,rfl,hb3,g3,g4,e2⟩:=hh.form;replace hE:=hE.trans e2;replace B2:=e2.block B2;obtain⟨r0,r1,r2,r3,r4,r5,r6,r7⟩:=cells4 B2;go_wp2;obtain⟨w12,E12,F2,U⟩:=ex4 B2 (.bool n3) (.slice A3 k3 c3) (.bool false) (.slice A4 k4 c4);rw [E12];obtain⟨z0,z1,z2,z3,-⟩:=cells4 F2;refine bodyPost_ret (v:=.tuple #[.agg #[.bool n3,.slice A3 k3 c3,.bool false,.slice A4 k4 c4],.int .i64 0]) ?_ rfl ⟨_,rfl,RatV.mk hb3 (g3.upd U (by omega) (NoU.mk B2 (by decide))) (g4.upd U (by omega) (NoU.mk B2 (by decide))),U.ext hE (by omega)⟩;simp [results,Tryz.results64,z0,z1,z2,z3,go_sem]
theorem RetRC.form {N:Nat} {w w':World} {q:Rat} {e:Ending} (h:RetRC N w q e w'):∃ (b:Bool) (A:Option Addr) (n c:Nat) (A':Option Addr) (n' c':Nat),e=.returned (.tuple #[.agg #[.bool b,.slice A n c,.bool false,.slice A' n' c'],.int .i64 0])∧Hid (b=decide (q.num < 0))∧Gs N w' (.slice A n c) (dg q.num.natAbs)∧Gs N w' (.slice A' n' c') (dg q.den)∧Ext w w':=by
 obtain⟨v,rfl,hv,he⟩:=h;obtain⟨b,A,n,c,A',n',c',rfl,hb,h1,h2⟩:=hv.parts;exact⟨b,A,n,c,A',n',c',rfl,hb,h1,h2,he⟩
theorem r2_divide {N:Nat} {w:World} {v v':Value} {x y:Rat} (h:RatV N w v x) (h':RatV N w v' y) (hz:Sz x) (hz':Sz y) (hy:y≠0) :
  Calls Tryz.prog 78 #[v,v'] w (RetRC N w (x / y)):=by
 obtain⟨q,hq⟩:=hid_eq (x / y);rw [←hq.out];have HQ:Hid (Rat.divInt (x.num*y.den) ((x.den:Int)*y.num)=q):=by rw [Hid,hq.out,div_divInt]
 have L1:Hid (ln (x.num*(y.den:Int)).natAbs≤2000000000):=by rw [Hid,Int.natAbs_mul,Int.natAbs_natCast]; exact ln_prod hz.1 hz'.2
 have L3:Hid (ln ((x.den:Int)*y.num).natAbs≤2000000000):=by rw [Hid,Int.natAbs_mul,Int.natAbs_natCast]; exact ln_prod hz.2 hz'.1
 have Y0:Hid (y.num≠0):=by unfold Hid; intro e; exact hy (Rat.num_eq_zero.1 e)
 have D0:Hid ((x.den:Int)*y.num≠0):=by have h8:=x.den_pos; exact Int.mul_ne_zero (by omega) Y0.out
 clear hq hy;have hI:=h;have hI':=h';have hN:=h.le;obtain⟨m1,X1,i1,d1,X2,i2,d2,rfl,hm1,gx1,gx2⟩:=h.parts;obtain⟨m2,Y1,i3,d3,Y2,i4,d4,rfl,hm2,gy1,gy2⟩:=h'.parts;have HZ:=Lib.hid hz;have HZ':=Lib.hid hz';clear hz hz' h h' gx1 gx2 gy1 gy2;go_enter Tryz.func78,Tryz.ntmps78;go_wp2_with (go_at_call 69; refine Hid.out ?_);refine boxesC3 ?_;intro W hE hsz B0 B1 B2;refine (r2_value (hI.ext hE) HZ.out).mono ?_;intro e w1 hh;obtain⟨n1,A1,k1,c1,A2,k2,c2,rfl,hb1,g1,g2,e1⟩:=hh.form;replace hE:=hE.trans e1;replace hsz:=Nat.le_trans hsz e1.size;replace B1:=e1.block B1;replace B2:=e1.block B2;obtain⟨b0,b1,b2,b3,-⟩:=cells4 B1;have hl1:w.heap.size+1 < w1.heap.size:=by omega
 go_wp2_with (go_at_call 69; refine Hid.out ?_);refine boxesC1 ?_;intro W2 e2 hsz2 C0;replace hE:=hE.trans e2;refine (r2_value (hI'.ext hE) HZ'.out).mono ?_;intro e w3 hh;obtain⟨n2,A3,k3,c3,A4,k4,c4,rfl,hb2,g3,g4,e3⟩:=hh.form;replace hE:=hE.trans e3;have hsz3:w1.heap.size+1≤w3.heap.size:=by have:=e3.size; omega
 go_upto_region 3 with (fail);refine boxes1 ?_;intro W4 e4 hsz4 C1;replace hE:=hE.trans e4;replace B2:=e4.block (e3.block (e2.block B2));replace C0:=e4.block (e3.block C0);replace g1:=((g1.ext e2).ext e3).ext e4;replace g2:=((g2.ext e2).ext e3).ext e4;replace g3:=g3.ext e4;replace g4:=g4.ext e4;clear b0 b1 b2 b3 B0 B1;obtain⟨a0,a1,a2,a3,-⟩:=cells4 C0;obtain⟨b0,b1,b2,b3,-⟩:=cells4 C1;have eC:=(Ext.refl W4).drew;refine region_late (fun w'=>w'.cell? ⟨w1.heap.size,0,none⟩=some (.bool n1)∧w'.cell? ⟨w1.heap.size,1,none⟩=some (.slice A1 k1 c1)∧w'.cell? ⟨w1.heap.size,2,none⟩=some (.bool false)∧w'.cell? ⟨w1.heap.size,3,none⟩=some (.slice A2 k2 c2)∧w'.cell? ⟨w3.heap.size,0,none⟩=some (.bool n2)∧w'.cell? ⟨w3.heap.size,1,none⟩=some (.slice A3 k3 c3)∧w'.cell? ⟨w3.heap.size,2,none⟩=some (.bool false)∧w'.cell? ⟨w3.heap.size,3,none⟩=some (.slice A4 k4 c4)) [13] (by kernel_rfl) (by exact⟨eC.cell a0,eC.cell a1,eC.cell a2,eC.cell a3,eC.cell b0,eC.cell b1,eC.cell b2,eC.cell b3⟩) (fun hHeld=>?_);refine sP 0 (h:=?_);try simp only [nr]
 refine sT 1 (h:=?_);try simp only [nr]
 refine sP 2 (h:=?_);try simp only [nr]
 refine sT 3 (h:=?_);try simp only [nr]
 refine sP 5 (h:=?_);try simp only [nr]
 refine sT 6 (h:=?_);try simp only [nr]
 refine sP 7 (h:=?_);try simp only [nr]
 refine sT 8 (h:=?_);try simp only [nr]
 refine stepL_only (i:=4) rfl (by kernel_rfl) (fun K hK=>?_);go_simp;refine (r1_mul (by exact num_intV hb1 (g1.ext eC)) (by exact den_intV (g4.ext eC)) (by have:=HZ.out.1; omega) (by rw [Int.natAbs_natCast]; have:=HZ'.out.2; omega)).mono ?_;rintro e w5 ⟨v5,rfl,h5,e5⟩;replace eC:=eC.trans e5;go_wp2_with fail;clear hHeld;refine hK.out _ _ (by exact⟨eC.cell a0,eC.cell a1,eC.cell a2,eC.cell a3,eC.cell b0,eC.cell b1,eC.cell b2,eC.cell b3⟩) fun hHeld=>?_
 clear hK K;try simp only [nr]
 refine stepL_only (i:=9) rfl (by kernel_rfl) (fun K hK=>?_);go_simp;refine (r1_mul (by exact den_intV (g2.ext eC)) (by exact num_intV hb2 (g3.ext eC)) (by rw [Int.natAbs_natCast]; have:=HZ.out.2; omega) (by have:=HZ'.out.1; omega)).mono ?_;rintro e w6 ⟨v6,rfl,h6,e6⟩;replace eC:=eC.trans e6;go_wp2_with fail;clear hHeld;refine hK.out _ _ (by exact⟨eC.cell a0,eC.cell a1,eC.cell a2,eC.cell a3,eC.cell b0,eC.cell b1,eC.cell b2,eC.cell b3⟩) fun hHeld=>?_
 clear hK K;try simp only [nr]
 refine stepL_only (i:=10) rfl (by kernel_rfl) (fun K hK=>?_);go_simp;refine (r2_new (by exact h5.ext e6) (by exact h6) D0.out (by have:=L1.out; omega) (by have:=L3.out; omega)).mono ?_;rw [HQ.out];intro e w10 hh;obtain⟨n10,A10,k10,c10,A11,k11,c11,rfl,hb10,h10,h11,e10⟩:=hh.form;replace eC:=eC.trans e10;have D2:=eC.block B2;obtain⟨r0,r1,r2,r3,r4,r5,r6,r7⟩:=cells4 D2;go_wp2_with fail;clear hHeld;refine hK.out _ _ (by exact⟨eC.cell a0,eC.cell a1,eC.cell a2,eC.cell a3,eC.cell b0,eC.cell b1,eC.cell b2,eC.cell b3⟩) fun hHeld=>?_
 clear hK K;try simp only [nr]
 refine sP 11 (h:=?_);try simp only [nr]
 refine sP 12 (h:=?_);try simp only [nr]
 refine stepL_late (i:=13) rfl (by kernel_rfl) (by kernel_rfl) (fun K hK=>?_);go_simp;refine hK.out _ _ ?_;clear hK K;try simp only [nr]
 refine sP 14 (h:=?_);try simp only [nr]
 refine stepL_done (by kernel_rfl) ?_ _;clear hHeld;go_wp2;obtain⟨w12,E12,F2,U⟩:=ex4 D2 (.bool n10) (.slice A10 k10 c10) (.bool false) (.slice A11 k11 c11);rw [E12];obtain⟨z0,z1,z2,z3,-⟩:=cells4 F2;refine bodyPost_ret (v:=.tuple #[.agg #[.bool n10,.slice A10 k10 c10,.bool false,.slice A11 k11 c11],.int .i64 0]) ?_ rfl ⟨_,rfl,RatV.mk hb10 (h10.upd U (by omega) (NoU.mk D2 (by decide))) (h11.upd U (by omega) (NoU.mk D2 (by decide))),U.ext (hE.trans eC) (by omega)⟩;simp [results,Tryz.results78,z0,z1,z2,z3,go_sem]
theorem r2_sub {N:Nat} {w:World} {v v':Value} {x y:Rat} (h:RatV N w v x) (h':RatV N w v' y) (hz:Sz x) (hz':Sz y) :
  Calls Tryz.prog 67 #[v,v'] w (RetR N w (x - y)):=by
 obtain⟨q,hq⟩:=hid_eq (x - y);rw [←hq.out];have HQ:Hid (x + -y=q):=by rw [Hid,hq.out,Rat.sub_eq_add_neg]
 clear hq;have hI:=h;have hI':=h';have hN:=h.le;obtain⟨m1,X1,i1,d1,X2,i2,d2,rfl,hm1,gx1,gx2⟩:=h.parts;obtain⟨m2,Y1,i3,d3,Y2,i4,d4,rfl,hm2,gy1,gy2⟩:=h'.parts;have HZ:=Lib.hid hz;have HZ':=Lib.hid hz';clear hz hz' h h' gx1 gx2 gy1 gy2;go_enter Tryz.func67,Tryz.ntmps67;go_wp2;refine boxes3 ?_;intro W hE hsz B0 B1 B2;obtain⟨a0,a1,a2,a3,-⟩:=cells4 B0;obtain⟨b0,b1,b2,b3,-⟩:=cells4 B1;have eC:=(Ext.refl W).drew;refine region_late (fun w'=>w'.cell? ⟨w.heap.size,0,none⟩=some (.bool m1)∧w'.cell? ⟨w.heap.size,1,none⟩=some (.slice X1 i1 d1)∧w'.cell? ⟨w.heap.size,2,none⟩=some (.bool false)∧w'.cell? ⟨w.heap.size,3,none⟩=some (.slice X2 i2 d2)∧w'.cell? ⟨w.heap.size+1,0,none⟩=some (.bool m2)∧w'.cell? ⟨w.heap.size+1,1,none⟩=some (.slice Y1 i3 d3)∧w'.cell? ⟨w.heap.size+1,2,none⟩=some (.bool false)∧w'.cell? ⟨w.heap.size+1,3,none⟩=some (.slice Y2 i4 d4)) [4] (by kernel_rfl) (by exact⟨eC.cell a0,eC.cell a1,eC.cell a2,eC.cell a3,eC.cell b0,eC.cell b1,eC.cell b2,eC.cell b3⟩) (fun hHeld=>?_);refine sT 0 (h:=?_);try simp only [nr]
 refine sT 1 (h:=?_);try simp only [nr]
 refine stepL_only (i:=2) rfl (by kernel_rfl) (fun K hK=>?_);go_simp;refine (r2_neg (by exact hI'.ext (hE.trans eC)) HZ'.out).mono ?_;rintro e w5 ⟨v5,rfl,h5,e5⟩;replace eC:=eC.trans e5;go_wp2_with fail;clear hHeld;refine hK.out _ _ (by exact⟨eC.cell a0,eC.cell a1,eC.cell a2,eC.cell a3,eC.cell b0,eC.cell b1,eC.cell b2,eC.cell b3⟩) fun hHeld=>?_
 clear hK K;try simp only [nr]
 refine stepL_only (i:=3) rfl (by kernel_rfl) (fun K hK=>?_);go_simp;refine (r2_add (by exact hI.ext (hE.trans eC)) (by exact h5) HZ.out HZ'.out.neg).mono ?_;rw [HQ.out];intro e w7 hh;obtain⟨n7,A7,k7,c7,A8,k8,c8,rfl,hb7,h7,h8,e7⟩:=hh.form;replace eC:=eC.trans e7;obtain⟨r0,r1,r2,r3,r4,r5,r6,r7⟩:=cells4 (eC.block B2);go_wp2_with fail;clear hHeld;refine hK.out _ _ (by exact⟨eC.cell a0,eC.cell a1,eC.cell a2,eC.cell a3,eC.cell b0,eC.cell b1,eC.cell b2,eC.cell b3⟩) fun hHeld=>?_
 clear hK K;try simp only [nr]
 refine stepL_late (i:=4) rfl (by kernel_rfl) (by kernel_rfl) (fun K hK=>?_);go_simp;refine hK.out _ _ ?_;clear hK K;try simp only [nr]
 refine stepL_done (by kernel_rfl) ?_ _;clear hHeld;go_wp2;exact fin_rat rfl rfl rfl (hE.trans eC) (eC.block B2) (by omega) hN h7 h8 hb7
theorem r2_compare {N:Nat} {w:World} {v v':Value} {x y:Rat} (h:RatV N w v x) (h':RatV N w v' y) (hz:Sz x) (hz':Sz y) (hd:Sz (x - y)) :
  Calls Tryz.prog 57 #[v,v'] w (RetV w (.int .i64 (x - y).num.sign)):=by
 obtain⟨s,hs⟩:=hid_eq (x - y).num.sign;rw [←hs.out];have HD:=Lib.hid hd;clear hd;have hI:=h;have hI':=h';have HZ:=Lib.hid hz;have HZ':=Lib.hid hz';obtain⟨m1,X1,i1,d1,X2,i2,d2,rfl,hm1,gx1,gx2⟩:=h.parts;obtain⟨m2,Y1,i3,d3,Y2,i4,d4,rfl,hm2,gy1,gy2⟩:=h'.parts;clear hz hz' h h' gx1 gx2 gy1 gy2;go_enter Tryz.func57,Tryz.ntmps57;go_wp2_with (go_at_call 67; refine Hid.out ?_);refine boxesC2 ?_;intro W hE hsz B0 B1;refine (r2_sub (hI.ext hE) (hI'.ext hE) HZ.out HZ'.out).mono ?_;rintro e w1 ⟨v1,rfl,h1,e1⟩;go_wp2_with (go_at_call 54; refine Hid.out ?_);refine (r2_sign h1 HD.out).mono ?_;rintro e w2 ⟨rfl,e2⟩;rw [←hs.out];go_wp2;go_ret;exact⟨rfl,(hE.trans e1).trans e2⟩
def allB (n:Nat) (p:Nat→Bool):Bool:=(List.range n).all p
theorem allB_true {n:Nat} {p:Nat→Bool}:allB n p=true↔∀ i,i < n→p i=true:=by simp [allB]
theorem allB_false {n:Nat} {p:Nat→Bool} {i:Nat} (hi:i < n) (h:p i=false):allB n p=false:=by
 cases hb:allB n p with
 | false=>rfl
 | true=>rw [allB_true.1 hb i hi] at h; cases h
theorem all_succ {p:Nat→Prop} {k:Nat} (h:∀ j,j < k→p j) (hk:p k):∀ j,j < k+1→p j:=by
 intro j hj
 rcases Nat.lt_or_ge j k with h1 | h1
 ·exact h j h1
 ·obtain rfl:j=k:=by omega
  exact hk
def RawSz (R:Raw):Prop:=R.l1.length≤10000000000∧R.l2.length≤10000000000
def RawL (R:Raw):Prop:=R.l1.length≤35184372088700∧R.l2.length≤35184372088700
theorem RawSz.big {R:Raw} (h:RawSz R):RawL R:=⟨Nat.le_trans h.1 (by omega),Nat.le_trans h.2 (by omega)⟩
theorem r2_validListL {N lo hi:Nat} {w:World} {v:Value} {n:Nat} {R:Nat→Raw} (h:LsR N lo hi w v n R) (hs:∀ i,i < n→RawL (R i)) :
  Calls Tryz.prog 29 #[v] w (RetV w (.bool (allB n (fun i=>okR (R i))))):=by
 obtain⟨r,hr⟩:=hid_eq (allB n (fun i=>okR (R i)));rw [←hr.out];obtain⟨A,c,rfl,hnc,hcm⟩:=h.form;unfold maxLen at hcm;have hI:=h;have HS:=Lib.hid hs;clear hs h;go_enter Tryz.func29,Tryz.ntmps29;go_wp2
 go_loopw [3] (fun i wr=>∃ k:Nat,k≤n∧i=.int .i64 k∧Hid (∀ j,j < k→okR (R j)=true)∧Ext w wr) (fun i _=>n - (intOf i).toNat)
 case atStart=>exact⟨0,Nat.zero_le _,rfl,fun j hj=>absurd hj (by omega),Ext.refl w⟩
 case round =>
  obtain⟨k,hk,rfl,HA,hE⟩:=hrel
  by_cases hlt:k < n
  ·obtain⟨b,off,rfl,-,-,hx⟩:=(hI.ext hE).addr (by omega);obtain⟨A1,n1,c1,A2,n2,c2,p0,p1,p2,p3,hv⟩:=(hx k hlt).val;clear hx;go_wp2_with (go_at_call 56; refine Hid.out ?_);refine (r2_validL hv (HS.out k hlt).1 (HS.out k hlt).2).mono ?_;rintro e w1 ⟨rfl,e1⟩;replace hE:=hE.trans e1;obtain⟨o,ho⟩:=hid_eq (okR (R k));rw [←ho.out];cases o with
   | true =>
    go_wp2;go_roundw
    case rel=>exact⟨k+1,by omega,by go_num,all_succ HA.out ho.out.symm,hE⟩
    case measure=>simp [intOf]; omega
   | false =>
    have HF:Hid (r=false):=by rw [Hid,hr.out]; exact allB_false hlt ho.out.symm
    go_wp2;go_ret;exact⟨ret_bool HF.out.symm,hE⟩
  ·have HF:Hid (r=true):=by rw [Hid,hr.out]; exact allB_true.2 (fun j hj=>HA.out j (by omega))
   go_wp2;go_ret;exact⟨ret_bool HF.out.symm,hE⟩
theorem r2_validList {N lo hi:Nat} {w:World} {v:Value} {n:Nat} {R:Nat→Raw} (h:LsR N lo hi w v n R) (hs:∀ i,i < n→RawSz (R i)) :
  Calls Tryz.prog 29 #[v] w (RetV w (.bool (allB n (fun i=>okR (R i))))):=r2_validListL h (fun i hi=>(hs i hi).big)
theorem r2_same {N:Nat} {w:World} {v v':Value} {x y:Rat} (h:RatV N w v x) (h':RatV N w v' y) (hz:Sz x) (he:x=y) :
  Calls Tryz.prog 15 #[v,v'] w (RetV w (.bool true)):=by
 subst he;have hd:Sz (x - x):=by rw [Rat.sub_self]; exact Ht.zero.sz (by omega)
 have hs:(x - x).num.sign=0:=by rw [Rat.sub_self]; rfl
 have HD:=Lib.hid hd;have HS:=Lib.hid hs;clear hd hs;have hI:=h;have hI':=h';have HZ:=Lib.hid hz;obtain⟨m1,X1,i1,d1,X2,i2,d2,rfl,hm1,gx1,gx2⟩:=h.parts;obtain⟨m2,Y1,i3,d3,Y2,i4,d4,rfl,hm2,gy1,gy2⟩:=h'.parts;clear hz h h' gx1 gx2 gy1 gy2;go_enter Tryz.func15,Tryz.ntmps15;go_wp2_with (go_at_call 56; refine Hid.out ?_);refine boxesC2 ?_;intro W hE hsz B0 B1;refine (r2_valid (R:=raw x) (hI.ext hE) (sz_len HZ.out).1 (sz_len HZ.out).2).mono ?_;rintro e w1 ⟨rfl,e1⟩;rw [okR_raw];replace hE:=hE.trans e1;replace B0:=e1.block B0;replace B1:=e1.block B1;obtain⟨b0,b1,b2,b3,-⟩:=cells4 B1;go_wp2_with (go_at_call 56; refine Hid.out ?_);refine (r2_valid (R:=raw x) (hI'.ext hE) (sz_len HZ.out).1 (sz_len HZ.out).2).mono ?_;rintro e w2 ⟨rfl,e2⟩;rw [okR_raw];replace hE:=hE.trans e2;replace B0:=e2.block B0;replace B1:=e2.block B1;clear b0 b1 b2 b3;obtain⟨a0,a1,a2,a3,-⟩:=cells4 B0;obtain⟨b0,b1,b2,b3,-⟩:=cells4 B1;go_wp2_with (go_at_call 57; refine Hid.out ?_);refine (r2_compare (hI.ext hE) (hI'.ext hE) HZ.out HZ.out HD.out).mono ?_;rintro e w3 ⟨rfl,e3⟩;rw [HS.out];go_wp2;go_ret;exact⟨rfl,hE.trans e3⟩
theorem r2_zero {w:World}:Calls Tryz.prog 16 #[.agg #[.bool false,.slice none 0 0,.bool false,.slice none 0 0]] w (RetV w (.bool true)):=by
 go_enter Tryz.func16,Tryz.ntmps16;go_wp2;go_ret;exact⟨rfl,(Ext.refl w).alloc _⟩
end Go.Proofs.YtphpkhoeplcedaaGreat
namespace Go.Proofs.YtphpkhoeplcedaaGreat
theorem Comb.null {m n:Nat} {a b:Nat→Nat→Rat} {x:Nat→Rat} (h:Comb m a b) (hx:∀ i,i < m→sum n (fun c=>a i c*x c)=0):∀ i,i < m→sum n (fun c=>b i c*x c)=0:=by
 obtain⟨T,hT⟩:=h;intro i hi
 have e:∀ c,b i c*x c=sum m (fun k=>T i k*(a k c*x c)):=by
  intro c;rw [hT i hi c,mm,←sum_mul_right];exact sum_congr fun k _=>by grind
 rw [sum_congr (fun c _=>e c),sum_comm];refine sum_eq_zero fun k hk=>?_
 rw [sum_mul,hx k hk]; grind
theorem cols_span {m n:Nat} {A M:Nat→Nat→Rat} {p:List Nat} (h:Rref m n A M p) {i c:Nat} (hi:i < m) (hc:c < n):A i c=sum p.length (fun s=>A i (p[s]?.getD 0)*M s c):=by
 obtain⟨T,hT⟩:=h.back
 have h1:∀ s,s < p.length→A i (p[s]?.getD 0)=T i s:=by
  intro s hs;rw [hT i hi,mm,sum_congr (g:=fun k=>T i k*dlt k s) (fun k hk=>by rw [h.unit s hs k hk])];exact sum_dlt' (Nat.lt_of_lt_of_le hs h.len) (T i)
 rw [sum_congr (g:=fun s=>T i s*M s c) (fun s hs=>by rw [h1 s hs]),hT i hi c,mm]
 have:∀ k,k≤m→p.length≤k→sum k (fun s=>T i s*M s c)=sum p.length (fun s=>T i s*M s c):=by
  intro k
  induction k with
  | zero=>intro _ h3; rw [show p.length=0 by omega]
  | succ k ih =>
   intro h2 h3
   rcases Nat.eq_or_lt_of_le h3 with h4 | h4
   ·rw [h4]
   ·rw [sum_succ,ih (by omega) (by omega),h.zero k (by omega) (by omega) c hc]; grind
 exact this m (Nat.le_refl _) h.len
theorem cols_free {m n:Nat} {A M:Nat→Nat→Rat} {p:List Nat} (h:Rref m n A M p) {y:Nat→Rat} (hy:∀ i,i < m→sum p.length (fun s=>A i (p[s]?.getD 0)*y s)=0):∀ s,s < p.length→y s=0:=by
 intro s hs;obtain⟨T,hT⟩:=h.there;have hsm:s < m:=Nat.lt_of_lt_of_le hs h.len
 have h1:sum p.length (fun t=>M s (p[t]?.getD 0)*y t)=0:=by
  have e:∀ t,M s (p[t]?.getD 0)*y t=sum m (fun k=>T s k*(A k (p[t]?.getD 0)*y t)):=by
   intro t;rw [hT s hsm,mm,←sum_mul_right];exact sum_congr fun k _=>by grind
  rw [sum_congr (fun t _=>e t),sum_comm];refine sum_eq_zero fun k hk=>?_
  rw [sum_mul,hy k hk]; grind
 rw [sum_congr (g:=fun t=>dlt s t*y t) (fun t ht=>by rw [h.unit t ht s hsm]),sum_dlt hs y] at h1;exact h1
theorem inc_ge {p:List Nat} (h:∀ s t,s < t→t < p.length→p[s]?.getD 0 < p[t]?.getD 0):∀ s,s < p.length→s≤p[s]?.getD 0:=by
 intro s
 induction s with
 | zero=>intro _; exact Nat.zero_le _
 | succ s ih=>intro hs; have:=h s (s+1) (by omega) hs; have:=ih (by omega); omega
theorem inc_gap {p:List Nat} {n:Nat} (h:∀ s t,s < t→t < p.length→p[s]?.getD 0 < p[t]?.getD 0) (hn:p.length < n):∃ c,c < n∧∀ s,s < p.length→p[s]?.getD 0≠c:=by
 have key:∀ k,k≤p.length→(∀ s,s < k→p[s]?.getD 0=s)∨∃ c,c < n∧∀ s,s < p.length→p[s]?.getD 0≠c:=by
  intro k
  induction k with
  | zero=>intro _; exact .inl fun s hs=>by omega
  | succ k ih =>
   intro hk
   rcases ih (by omega) with h1 | h1
   ·by_cases h2:p[k]?.getD 0=k
    ·refine .inl fun s hs=>?_
     rcases Nat.lt_or_ge s k with h3 | h3
     ·exact h1 s h3
     ·obtain rfl:s=k:=by omega
      exact h2
    ·refine .inr ⟨k,by omega,fun s hs=>?_⟩;have h3:=inc_ge h k (by omega)
     rcases Nat.lt_trichotomy s k with h4 | h4 | h4
     ·rw [h1 s h4]; omega
     ·rw [h4]; exact h2
     ·have:=h k s h4 hs; omega
   ·exact .inr h1
 rcases key p.length (Nat.le_refl _) with h1 | h1
 ·exact⟨p.length,hn,fun s hs=>by rw [h1 s hs]; omega⟩
 ·exact h1
theorem inc_all {p:List Nat} {n:Nat} (h:∀ s t,s < t→t < p.length→p[s]?.getD 0 < p[t]?.getD 0) (hl:∀ s,s < p.length→p[s]?.getD 0 < n) (hn:p.length=n):∀ s,s < n→p[s]?.getD 0=s:=by
 have up:∀ d s,s+d < n→p[s]?.getD 0+d≤p[s+d]?.getD 0:=by
  intro d
  induction d with
  | zero=>intro s _; exact Nat.le_refl _
  | succ d ih=>intro s hs; have h1:=ih s (by omega); have h2:=h (s+d) (s+(d+1)) (by omega) (by omega); omega
 intro s hs;have h1:=inc_ge h s (by omega);have h2:=up (n - 1 - s) s (by omega);have h3:=hl (s+(n - 1 - s)) (by omega);omega
def nul (M:Nat→Nat→Rat) (p:List Nat) (c k:Nat):Rat:=dlt c k - sum p.length (fun s=>dlt (p[s]?.getD 0) k*M s c)
theorem nul_null {m n:Nat} {A M:Nat→Nat→Rat} {p:List Nat} (h:Rref m n A M p) {c:Nat} (hc:c < n):∀ i,i < m→sum n (fun k=>A i k*nul M p c k)=0:=by
 refine h.back.null (fun i hi=>?_)
 have e:∀ k,M i k*nul M p c k=dlt c k*M i k - sum p.length (fun s=>dlt (p[s]?.getD 0) k*(M i k*M s c)):=by
  intro k;unfold nul
  have:M i k*sum p.length (fun s=>dlt (p[s]?.getD 0) k*M s c)=sum p.length (fun s=>dlt (p[s]?.getD 0) k*(M i k*M s c)):=by
   rw [←sum_mul]; exact sum_congr fun s _=>by grind
  rw [←this]; grind
 rw [sum_congr (fun k _=>e k),sum_sub,sum_dlt hc (fun k=>M i k),sum_comm];rw [sum_congr (g:=fun s=>dlt i s*M s c) (fun s hs=>by rw [sum_dlt (h.low s hs) (fun k=>M i k*M s c),h.unit s hs i hi])]
 rcases Nat.lt_or_ge i p.length with h1 | h1
 ·rw [sum_dlt h1 (fun s=>M s c)]; grind
 ·rw [h.zero i h1 hi c hc,sum_eq_zero (fun s hs=>by rw [dlt_ne (by omega)]; grind)]; grind
theorem nul_self {M:Nat→Nat→Rat} {p:List Nat} {c:Nat} (hc:∀ s,s < p.length→p[s]?.getD 0≠c):nul M p c c=1:=by
 unfold nul;rw [dlt_same,sum_eq_zero (fun s hs=>by rw [dlt_ne (hc s hs)]; grind)]; grind
def Reg (n:Nat) (K:Nat→Nat→Rat):Prop:=∀ x:Nat→Rat,(∀ i,i < n→sum n (fun c=>K i c*x c)=0)→∀ c,c < n→x c=0
def HtM (m n k:Nat) (A:Nat→Nat→Rat):Prop:=∀ i,i < m→∀ c,c < n→Ht k (A i c)
def HtL (n k:Nat) (x:Nat→Rat):Prop:=∀ i,i < n→Ht k (x i)
theorem HtM.mono {m n k k':Nat} {A:Nat→Nat→Rat} (h:HtM m n k A) (hk:k≤k'):HtM m n k' A:=fun i hi c hc=>(h i hi c hc).mono hk
theorem HtL.mono {n k k':Nat} {x:Nat→Rat} (h:HtL n k x) (hk:k≤k'):HtL n k' x:=fun i hi=>(h i hi).mono hk
theorem HtM.swp {m n q r k:Nat} {M:Nat→Nat→Rat} (h:HtM m n q M) (hr:r < m) (hk:k < m):HtM m n q (swp M r k):=by
 intro i hi c hc;unfold Go.Proofs.YtphpkhoeplcedaaGreat.swp
 split
 ·exact h k hk c hc
 ·split
  ·exact h r hr c hc
  ·exact h i hi c hc
end Go.Proofs.YtphpkhoeplcedaaGreat
namespace Go.Proofs.YtphpkhoeplcedaaGreat
open Go.RowKit
def BoxR (N:Nat) (w:World) (g:Nat) (q:Rat):Prop :=
 ∃ (b:Bool) (A:Option Addr) (n c:Nat) (A':Option Addr) (n' c':Nat),w.heap[g]?=some (.cells #[.bool b,.slice A n c,.bool false,.slice A' n' c'] 29 (0,0))∧Hid (b=decide (q.num < 0))∧Gs N w (.slice A n c) (dg q.num.natAbs)∧Gs N w (.slice A' n' c') (dg q.den)
theorem BoxR.mk {N:Nat} {w:World} {g:Nat} {q:Rat} {b:Bool} {A:Option Addr} {n c:Nat} {A':Option Addr} {n' c':Nat} (h:w.heap[g]?=some (.cells #[.bool b,.slice A n c,.bool false,.slice A' n' c'] 29 (0,0))) (hb:Hid (b=decide (q.num < 0))) (h1:Gs N w (.slice A n c) (dg q.num.natAbs)) (h2:Gs N w (.slice A' n' c') (dg q.den)):BoxR N w g q :=
 ⟨b,A,n,c,A',n',c',h,hb,h1,h2⟩
theorem BoxR.ext {N:Nat} {w w':World} {g:Nat} {q:Rat} (h:BoxR N w g q) (e:Ext w w'):BoxR N w' g q:=by
 obtain⟨b,A,n,c,A',n',c',h0,hb,h1,h2⟩:=h;exact⟨b,A,n,c,A',n',c',e.block h0,hb,h1.ext e,h2.ext e⟩
theorem BoxR.chg {N lo hi:Nat} {w w':World} {g:Nat} {q:Rat} (h:BoxR N w g q) (k:Chg lo hi w w') (hN:N≤lo) (hg:g < lo∨hi≤g):BoxR N w' g q:=by
 obtain⟨b,A,n,c,A',n',c',h0,hb,h1,h2⟩:=h;exact⟨b,A,n,c,A',n',c',k.blk h0 hg,hb,h1.chg k hN,h2.chg k hN⟩
theorem BoxR.open {N:Nat} {w:World} {g:Nat} {q:Rat} (h:BoxR N w g q):∃ (b:Bool) (A:Option Addr) (n c:Nat) (A':Option Addr) (n' c':Nat),
  w.cell? ⟨g,0,none⟩=some (.bool b)∧w.cell? ⟨g,1,none⟩=some (.slice A n c)∧w.cell? ⟨g,2,none⟩=some (.bool false)∧w.cell? ⟨g,3,none⟩=some (.slice A' n' c') ∧
  w.frozen? ⟨g,0,none⟩=false∧w.frozen? ⟨g,1,none⟩=false∧w.frozen? ⟨g,2,none⟩=false∧w.frozen? ⟨g,3,none⟩=false ∧
  RatV N w (.agg #[.bool b,.slice A n c,.bool false,.slice A' n' c']) q∧w.heap[g]?=some (.cells #[.bool b,.slice A n c,.bool false,.slice A' n' c'] 29 (0,0)):=by
 obtain⟨b,A,n,c,A',n',c',h0,hb,h1,h2⟩:=h;obtain⟨c0,c1,c2,c3,f0,f1,f2,f3⟩:=cells4 h0;exact⟨b,A,n,c,A',n',c',c0,c1,c2,c3,f0,f1,f2,f3,RatV.mk hb h1 h2,h0⟩
theorem boxSet {N:Nat} {w:World} {g:Nat} {y0 y1 y2 y3:Value} (h0:w.heap[g]?=some (.cells #[y0,y1,y2,y3] 29 (0,0))) (hN:N≤g) {q:Rat} {b:Bool} {A:Option Addr} {n c:Nat} {A':Option Addr} {n' c':Nat} (hb:Hid (b=decide (q.num < 0))) (h1:Gs N w (.slice A n c) (dg q.num.natAbs)) (h2:Gs N w (.slice A' n' c') (dg q.den)) :
  ∃ w1,(((w.setCell ⟨g,0,none⟩ (.bool b)).setCell ⟨g,1,none⟩ (.slice A n c)).setCell ⟨g,2,none⟩ (.bool false)).setCell ⟨g,3,none⟩ (.slice A' n' c')=w1∧BoxR N w1 g q∧Chg g (g+1) w w1∧w1.heap.size=w.heap.size:=by
 obtain⟨w1,E,F,U⟩:=ex4 h0 (.bool b) (.slice A n c) (.bool false) (.slice A' n' c');have k:=U.chg (NoU.mk h0 (by decide));exact⟨w1,E,⟨b,A,n,c,A',n',c',F,hb,h1.chg k hN,h2.chg k hN⟩,k,U.size⟩
structure OwnM (N lo hi:Nat) (w:World) (h k m n:Nat) (β κ:Nat→Nat) (A:Nat→Nat→Rat):Prop where
 le:N≤lo
 hh:∃ hs,w.heap[h]?=some (.cells hs 45 (0,0))∧hs.size=k∧∀ i,i < m→hs[i]?=some (.slice (some ⟨β i,0,none⟩) n (κ i))
 mle:m≤k
 hlo:lo≤h
 hhi:h < hi
 his:hi≤w.heap.size
 lo_:∀ i,i < m→lo≤β i
 hi_:∀ i,i < m→β i < hi
 cap:∀ i,i < m→κ i≤maxLen
 row:∀ i,i < m→RowB N w (β i) (κ i) n (A i)
 inj:∀ i j,i < m→j < m→i≠j→β i≠β j
section
variable {N lo hi:Nat} {w w':World} {h k m n:Nat} {β κ:Nat→Nat} {A:Nat→Nat→Rat}
theorem OwnM.ne (o:OwnM N lo hi w h k m n β κ A) {i:Nat} (hi':i < m):β i≠h:=by
 obtain⟨hs,h1,-,-⟩:=o.hh;obtain⟨-,-,⟨cs,h2,-⟩,-⟩:=o.row i hi';intro e;rw [e,h1] at h2;injection h2 with h2
 injection h2 with _ h2
 exact absurd h2 (by decide)
theorem OwnM.noU (o:OwnM N lo hi w h k m n β κ A):NoU w h:=by
 obtain⟨hs,h1,-,-⟩:=o.hh;exact NoU.mk h1 (by decide)
theorem OwnM.hcell (o:OwnM N lo hi w h k m n β κ A) {i:Nat} (hi':i < m):w.cell? ⟨h,i,none⟩=some (.slice (some ⟨β i,0,none⟩) n (κ i)):=by
 obtain⟨hs,h1,-,h3⟩:=o.hh;rw [cell_blk h1,h3 i hi']
theorem OwnM.ext (o:OwnM N lo hi w h k m n β κ A) (e:Ext w w'):OwnM N lo hi w' h k m n β κ A:=by
 obtain⟨hs,h1,h2,h3⟩:=o.hh;exact⟨o.le,⟨hs,e.block h1,h2,h3⟩,o.mle,o.hlo,o.hhi,Nat.le_trans o.his e.size,o.lo_,o.hi_,o.cap,fun i hi'=>(o.row i hi').ext e,o.inj⟩
theorem OwnM.chg (o:OwnM N lo hi w h k m n β κ A) {l u:Nat} (c:Chg l u w w') (hN:N≤l) (hd:hi≤l∨u≤lo):OwnM N lo hi w' h k m n β κ A:=by
 obtain⟨hs,h1,h2,h3⟩:=o.hh;have:=o.hlo;have:=o.hhi;exact⟨o.le,⟨hs,c.blk h1 (by omega),h2,h3⟩,o.mle,o.hlo,o.hhi,Nat.le_trans o.his c.size,o.lo_,o.hi_,o.cap,fun i hi'=>(o.row i hi').chg c hN (by have:=o.lo_ i hi'; have:=o.hi_ i hi'; omega),o.inj⟩
theorem OwnM.congr {B:Nat→Nat→Rat} (o:OwnM N lo hi w h k m n β κ A) (he:∀ i,i < m→∀ j,j < n→A i j=B i j):OwnM N lo hi w h k m n β κ B :=
 ⟨o.le,o.hh,o.mle,o.hlo,o.hhi,o.his,o.lo_,o.hi_,o.cap,fun i hi'=>(o.row i hi').congr (he i hi'),o.inj⟩
theorem OwnM.wide {lo' hi':Nat} (o:OwnM N lo hi w h k m n β κ A) (h1:lo'≤lo) (h2:N≤lo') (h3:hi≤hi') (h4:hi'≤w.heap.size):OwnM N lo' hi' w h k m n β κ A :=
 ⟨h2,o.hh,o.mle,by have:=o.hlo; omega,by have:=o.hhi; omega,h4,fun i hi=>by have:=o.lo_ i hi; omega,fun i hi=>by have:=o.hi_ i hi; omega,o.cap,o.row,o.inj⟩
def updM (A:Nat→Nat→Rat) (r:Nat) (x:Nat→Rat) (i:Nat):Nat→Rat:=if i=r then x else A i
theorem updM_same (A:Nat→Nat→Rat) (r:Nat) (x:Nat→Rat):updM A r x r=x:=by simp [updM]
theorem updM_ne (A:Nat→Nat→Rat) {r i:Nat} (x:Nat→Rat) (h:i≠r):updM A r x i=A i:=by simp [updM,h]
theorem OwnM.setRow (o:OwnM N lo hi w h k m n β κ A) {r:Nat} (hr:r < m) (c:Chg (β r) (β r+1) w w') {x:Nat→Rat} (hx:RowB N w' (β r) (κ r) n x):OwnM N lo hi w' h k m n β κ (updM A r x):=by
 obtain⟨hs,h1,h2,h3⟩:=o.hh;have hN:=o.le;have hl:=o.lo_ r hr;have hne:=o.ne hr;refine⟨o.le,⟨hs,c.blk h1 (by omega),h2,h3⟩,o.mle,o.hlo,o.hhi,Nat.le_trans o.his c.size,o.lo_,o.hi_,o.cap,fun i hi'=>?_,o.inj⟩
 by_cases hir:i=r
 ·subst hir; rw [updM_same]; exact hx
 ·rw [updM_ne A x hir];have:=o.inj i r hi' hr hir;exact (o.row i hi').chg c (by omega) (by omega)
end
theorem add_addr (b o j:Nat):(⟨b,o,none⟩:Addr).add j=⟨b,o+j,none⟩:=by
 unfold Addr.add; split
 ·rename_i e; subst e; rfl
 ·rfl
theorem Grow.some {N base:Nat} {w:World} {v:Value} {n:Nat} {x:Nat→Rat} (h:Grow N base w v n x) (hn:0 < n):∃ g cap,v=.slice (some ⟨g,0,none⟩) n cap∧base≤g∧g < w.heap.size∧cap≤maxLen∧n≤cap∧RowB N w g cap n x:=by
 obtain⟨h1,h2,⟨rfl,rfl⟩ | ⟨g,cap,rfl,hg,hm,hr⟩⟩:=h
 ·omega
 ·exact⟨g,cap,rfl,hg,hr.lt,hm,hr.2.1,hr⟩
theorem Grow.le {N base:Nat} {w:World} {v:Value} {n:Nat} {x:Nat→Rat} (h:Grow N base w v n x):N≤base∧base≤w.heap.size:=⟨h.1,h.2.1⟩
theorem wp_append_rat {N base:Nat} {w:World} {o:Oper} {a:Act} {K:Act→World→Prop} {Q:Exit→Act→World→Prop} (s x:Operand) (t:TypeId) (ht:Tryz.prog.underlying t=some (.slice 29))
  (ho:o.op=.call { callee:=.builtin .append,args:=#[s,x],argTypes:=#[t,t] }) {v:Value} {n:Nat} {f:Nat→Rat} (hs:a.eval s=v) (h:Grow N base w v n f)
  {b:Nat} (hx:a.eval x=.slice (some ⟨b,0,none⟩) 1 1) {neg:Bool} {s1 s2:Value} {q:Rat} {fr:Nat×Nat} (hb:w.heap[b]?=some (.cells #[.bool neg,s1,.bool false,s2] 29 fr)) (hneg:Hid (neg=decide (q.num < 0))) (g1:Gs N w s1 (dg q.num.natAbs)) (g2:Gs N w s2 (dg q.den)) (hn:n < 1000000000)
  (hK:∀ g cap w',Grow N base w' (.slice (some ⟨g,0,none⟩) (n+1) cap) (n+1) (upd f n q)→(∃ g',base≤g'∧Chg g' (g'+1) w w'∧NoU w g')→g < w'.heap.size→K (a.put o.dst (.slice (some ⟨g,0,none⟩) (n+1) cap)) w'):o.wp Tryz.prog a w K Q:=by
 obtain⟨g,cap,w',hrun,h1,h2,h3⟩:=run_append_rat t o.type ht h hb hneg g1 g2 hn;unfold Oper.wp execOp;simp only [ho,resolve,invoke,builtin,Sem.run_bind,Sem.run_pure,Result.andThen_ok,List.map_toArray,List.map_cons,List.map_nil,hs,hx,hrun];exact hK g cap w' h1 h2 h3
def GrowM (N lo hi:Nat) (w:World) (v:Value) (m n:Nat) (A:Nat→Nat→Rat):Prop :=
 N≤lo∧lo≤hi∧hi≤w.heap.size∧((v=.slice none 0 0∧m=0)∨∃ h cap β κ,v=.slice (some ⟨h,0,none⟩) m cap∧cap≤maxLen∧OwnM N lo hi w h cap m n β κ A)
section
variable {N lo hi:Nat} {w w':World} {v:Value} {m n:Nat} {A:Nat→Nat→Rat}
theorem GrowM.nil (h1:N≤lo) (h2:lo≤hi) (h3:hi≤w.heap.size) (A:Nat→Nat→Rat):GrowM N lo hi w (.slice none 0 0) 0 n A:=⟨h1,h2,h3,.inl ⟨rfl,rfl⟩⟩
theorem GrowM.ext (h:GrowM N lo hi w v m n A) (e:Ext w w'):GrowM N lo hi w' v m n A:=by
 obtain⟨h1,h2,h3,h4⟩:=h;refine⟨h1,h2,Nat.le_trans h3 e.size,?_⟩
 rcases h4 with h4 | ⟨h,cap,β,κ,hv,hc,ho⟩
 ·exact .inl h4
 ·exact .inr ⟨h,cap,β,κ,hv,hc,ho.ext e⟩
theorem GrowM.chg (h:GrowM N lo hi w v m n A) {l u:Nat} (c:Chg l u w w') (hN:N≤l) (hd:hi≤l∨u≤lo):GrowM N lo hi w' v m n A:=by
 obtain⟨h1,h2,h3,h4⟩:=h;refine⟨h1,h2,Nat.le_trans h3 c.size,?_⟩
 rcases h4 with h4 | ⟨h,cap,β,κ,hv,hc,ho⟩
 ·exact .inl h4
 ·exact .inr ⟨h,cap,β,κ,hv,hc,ho.chg c hN hd⟩
theorem GrowM.wide (h:GrowM N lo hi w v m n A) {hi':Nat} (h1:hi≤hi') (h2:hi'≤w.heap.size):GrowM N lo hi' w v m n A:=by
 obtain⟨a1,a2,a3,h4⟩:=h;refine⟨a1,by omega,h2,?_⟩
 rcases h4 with h4 | ⟨h,cap,β,κ,hv,hc,ho⟩
 ·exact .inl h4
 ·exact .inr ⟨h,cap,β,κ,hv,hc,ho.wide (Nat.le_refl _) a1 h1 h2⟩
theorem GrowM.congr {B:Nat→Nat→Rat} (h:GrowM N lo hi w v m n A) (he:∀ i,i < m→∀ j,j < n→A i j=B i j):GrowM N lo hi w v m n B:=by
 obtain⟨a1,a2,a3,h4⟩:=h;refine⟨a1,a2,a3,?_⟩
 rcases h4 with h4 | ⟨h,cap,β,κ,hv,hc,ho⟩
 ·exact .inl h4
 ·exact .inr ⟨h,cap,β,κ,hv,hc,ho.congr he⟩
theorem GrowM.form (h:GrowM N lo hi w v m n A):∃ A c,v=.slice A m c∧m≤c:=by
 obtain⟨-,-,-,⟨rfl,rfl⟩ | ⟨h,cap,β,κ,rfl,-,ho⟩⟩:=h
 ·exact⟨_,_,rfl,Nat.le_refl _⟩
 ·exact⟨_,_,rfl,ho.mle⟩
theorem GrowM.own (h:GrowM N lo hi w v m n A) (hm:0 < m):∃ h cap β κ,v=.slice (some ⟨h,0,none⟩) m cap∧cap≤maxLen∧OwnM N lo hi w h cap m n β κ A:=by
 obtain⟨-,-,-,⟨rfl,rfl⟩ | ⟨h,cap,β,κ,rfl,hc,ho⟩⟩:=h
 ·omega
 ·exact⟨h,cap,β,κ,rfl,hc,ho⟩
end
def RetOwn (N:Nat) (w:World) (m n:Nat) (A:Nat→Nat→Rat) (e:Ending) (w':World):Prop:=∃ h cap β κ,e=.returned (.slice (some ⟨h,0,none⟩) m cap)∧cap≤maxLen∧OwnM N w.heap.size w'.heap.size w' h cap m n β κ A∧Ext w w'
theorem RetOwn.congr {N:Nat} {w w':World} {m n:Nat} {A B:Nat→Nat→Rat} {e:Ending} (h:RetOwn N w m n A e w') (he:∀ i,i < m→∀ j,j < n→A i j=B i j):RetOwn N w m n B e w':=by
 obtain⟨h,cap,β,κ,h1,hc,ho,hx⟩:=h;exact⟨h,cap,β,κ,h1,hc,ho.congr he,hx⟩
theorem At4.open {N:Nat} {w:World} {b o:Nat} {q:Rat} (h:At4 N w b o (raw q)):∃ (B:Bool) (A:Option Addr) (n c:Nat) (A':Option Addr) (n' c':Nat),w.cell? ⟨b,o,none⟩=some (.bool B)∧w.cell? ⟨b,o+1,none⟩=some (.slice A n c)∧w.cell? ⟨b,o+2,none⟩=some (.bool false)∧w.cell? ⟨b,o+3,none⟩=some (.slice A' n' c')∧Hid (B=decide (q.num < 0))∧Gs N w (.slice A n c) (dg q.num.natAbs)∧Gs N w (.slice A' n' c') (dg q.den):=by
 obtain⟨s,t,h0,h1,h2,h3,g1,g2⟩:=h;obtain⟨A,n,c,rfl,-,-,-⟩:=g1.form;obtain⟨A',n',c',rfl,-,-,-⟩:=g2.form;exact⟨_,A,n,c,A',n',c',h0,h1,h2,h3,rfl,g1,g2⟩
theorem RowB.at_ {N:Nat} {w:World} {b k n:Nat} {x:Nat→Rat} (h:RowB N w b k n x) {i:Nat} (hi:i < n):∃ (B:Bool) (A:Option Addr) (n c:Nat) (A':Option Addr) (n' c':Nat),w.cell? ⟨b,i*4,none⟩=some (.bool B)∧w.cell? ⟨b,i*4+1,none⟩=some (.slice A n c)∧w.cell? ⟨b,i*4+2,none⟩=some (.bool false)∧w.cell? ⟨b,i*4+3,none⟩=some (.slice A' n' c') ∧
  w.frozen? ⟨b,i*4,none⟩=false∧w.frozen? ⟨b,i*4+1,none⟩=false∧w.frozen? ⟨b,i*4+2,none⟩=false∧w.frozen? ⟨b,i*4+3,none⟩=false∧Hid (B=decide ((x i).num < 0))∧Gs N w (.slice A n c) (dg (x i).num.natAbs)∧Gs N w (.slice A' n' c') (dg (x i).den):=by
 obtain⟨B,A,n,c,A',n',c',h0,h1,h2,h3,h4,h5,h6⟩:=(h.2.2.2 i hi).open;exact⟨B,A,n,c,A',n',c',h0,h1,h2,h3,h.frozen _,h.frozen _,h.frozen _,h.frozen _,h4,h5,h6⟩
theorem LsV.addr {N lo hi:Nat} {w:World} {A:Option Addr} {n c:Nat} {x:Nat→Rat} (h:LsV N lo hi w (.slice A n c) n x) (hn:0 < n):∃ b off,A=some ⟨b,off,none⟩∧lo≤b∧b < hi∧∀ i,i < n→At4 N w b (off+i*4) (raw (x i)):=LsR.addr h hn
theorem MtV.addr {N lo hi:Nat} {w:World} {A:Option Addr} {m n c:Nat} {X:Nat→Nat→Rat} (h:MtV N lo hi w (.slice A m c) m n X) (hm:0 < m):∃ b off,A=some ⟨b,off,none⟩∧lo≤b∧b < hi∧∀ i,i < m→∃ (A':Option Addr) (c':Nat),w.cell? ⟨b,off+i,none⟩=some (.slice A' n c')∧n≤c'∧c'≤maxLen∧LsV N lo hi w (.slice A' n c') n (X i):=MtR.addr h hm
theorem LsV.ext {N lo hi:Nat} {w w':World} {v:Value} {n:Nat} {x:Nat→Rat} (h:LsV N lo hi w v n x) (e:Ext w w'):LsV N lo hi w' v n x:=LsR.ext h e
theorem MtV.ext {N lo hi:Nat} {w w':World} {v:Value} {m n:Nat} {X:Nat→Nat→Rat} (h:MtV N lo hi w v m n X) (e:Ext w w'):MtV N lo hi w' v m n X:=MtR.ext h e
theorem LsV.chg {N lo hi l u:Nat} {w w':World} {v:Value} {n:Nat} {x:Nat→Rat} (h:LsV N lo hi w v n x) (c:Chg l u w w') (hN:N≤l) (hd:hi≤l∨u≤lo):LsV N lo hi w' v n x:=LsR.chg h c hN hd
theorem MtV.chg {N lo hi l u:Nat} {w w':World} {v:Value} {m n:Nat} {X:Nat→Nat→Rat} (h:MtV N lo hi w v m n X) (c:Chg l u w w') (hN:N≤l) (hd:hi≤l∨u≤lo):MtV N lo hi w' v m n X:=MtR.chg h c hN hd
theorem LsV.congr {N lo hi:Nat} {w:World} {v:Value} {n:Nat} {x y:Nat→Rat} (h:LsV N lo hi w v n x) (he:∀ i,i < n→x i=y i):LsV N lo hi w v n y:=LsR.congr h (fun i hi=>by rw [he i hi])
theorem LsV.le {N lo hi:Nat} {w:World} {v:Value} {n:Nat} {x:Nat→Rat} (h:LsV N lo hi w v n x):N≤w.heap.size:=LsR.le h
theorem MtV.le {N lo hi:Nat} {w:World} {v:Value} {m n:Nat} {X:Nat→Nat→Rat} (h:MtV N lo hi w v m n X):N≤w.heap.size:=MtR.le h
theorem LsV.form {N lo hi:Nat} {w:World} {v:Value} {n:Nat} {x:Nat→Rat} (h:LsV N lo hi w v n x):∃ (A:Option Addr) (c:Nat),v=.slice A n c∧n≤c∧c≤maxLen:=LsR.form h
theorem MtV.form {N lo hi:Nat} {w:World} {v:Value} {m n:Nat} {X:Nat→Nat→Rat} (h:MtV N lo hi w v m n X):∃ (A:Option Addr) (c:Nat),v=.slice A m c∧m≤c∧c≤maxLen:=MtR.form h
theorem MtV.congr {N lo hi:Nat} {w:World} {v:Value} {m n:Nat} {X Y:Nat→Nat→Rat} (h:MtV N lo hi w v m n X) (he:∀ i,i < m→∀ j,j < n→X i j=Y i j):MtV N lo hi w v m n Y:=MtR.congr h (fun _ _=>rfl) (fun i hi j hj=>by rw [he i hi j hj])
abbrev i64v (x:Nat):Value:=.int .i64 ((x:Nat):Int)
def IsV (lo hi:Nat) (w:World) (v:Value) (p:List Nat):Prop :=
 hi≤w.heap.size∧∃ (A:Option Addr) (c:Nat),v=.slice A p.length c∧p.length≤c∧c≤maxLen ∧
  (0 < p.length→∃ b off,A=some ⟨b,off,none⟩∧lo≤b∧b < hi∧∀ i,i < p.length→w.cell? ⟨b,off+i,none⟩=some (.int .i64 ((p[i]?.getD 0:Nat):Int)))
theorem IsV.ext {lo hi:Nat} {w w':World} {v:Value} {p:List Nat} (h:IsV lo hi w v p) (e:Ext w w'):IsV lo hi w' v p:=by
 obtain⟨h2,A,c,hv,h3,h4,h5⟩:=h;refine⟨Nat.le_trans h2 e.size,A,c,hv,h3,h4,fun hn=>?_⟩;obtain⟨b,off,hA,hl,hh,hx⟩:=h5 hn;exact⟨b,off,hA,hl,hh,fun i hi=>e.cell (hx i hi)⟩
theorem IsV.chg {lo hi l h:Nat} {w w':World} {v:Value} {p:List Nat} (hx:IsV lo hi w v p) (c:Chg l h w w') (hd:hi≤l∨h≤lo):IsV lo hi w' v p:=by
 obtain⟨h2,A,k,hv,h3,h4,h5⟩:=hx;refine⟨Nat.le_trans h2 c.size,A,k,hv,h3,h4,fun hn=>?_⟩;obtain⟨b,off,hA,hl,hh,hx⟩:=h5 hn;exact⟨b,off,hA,hl,hh,fun i hi=>c.cell (p:=⟨b,off+i,none⟩) (hx i hi) (by simp only; omega)⟩
theorem IsV.form {lo hi:Nat} {w:World} {v:Value} {p:List Nat} (h:IsV lo hi w v p):∃ (A:Option Addr) (c:Nat),v=.slice A p.length c∧p.length≤c∧c≤maxLen:=by
 obtain⟨a2,A,c,hv,a3,a4,a5⟩:=h;exact⟨A,c,hv,a3,a4⟩
theorem IsV.at_ {lo hi:Nat} {w:World} {A:Option Addr} {n c:Nat} {p:List Nat} (h:IsV lo hi w (.slice A n c) p) {i:Nat} (hi':i < p.length):∃ b off z,A=some ⟨b,off,none⟩∧w.cell? ⟨b,off+i,none⟩=some (.int .i64 ((z:Nat):Int))∧Hid (z=p[i]?.getD 0):=by
 obtain⟨a2,A,c,hv,a3,a4,a5⟩:=h;injection hv with e1 e2 e3
 subst e1;obtain⟨b,off,hA,-,-,hx⟩:=a5 (by omega);exact⟨b,off,_,hA,hx i hi',rfl⟩
theorem IsV.wide {lo hi lo' hi':Nat} {w:World} {v:Value} {p:List Nat} (h:IsV lo hi w v p) (h1:lo'≤lo) (h2:hi≤hi') (h3:hi'≤w.heap.size):IsV lo' hi' w v p:=by
 obtain⟨a2,A,c,hv,a3,a4,a5⟩:=h;refine⟨h3,A,c,hv,a3,a4,fun hn=>?_⟩;obtain⟨b,off,hA,hl,hh,hx⟩:=a5 hn;exact⟨b,off,hA,by omega,by omega,hx⟩
def GrowI (base:Nat) (w:World) (v:Value) (p:List Nat):Prop:=base≤w.heap.size∧w.ownsRow base 3 1 v p.length (p.map i64v)
theorem GrowI.nil {base:Nat} {w:World} (h:base≤w.heap.size):GrowI base w (.slice none 0 0) []:=⟨h,by simp,.inl ⟨rfl,rfl⟩⟩
theorem GrowI.form {base:Nat} {w:World} {v:Value} {p:List Nat} (h:GrowI base w v p):∃ A c,v=.slice A p.length c∧p.length≤c:=by
 rcases h.2.2 with ⟨rfl,h0⟩ | ⟨g,cap,cur,rfl,_,_,hc,_⟩
 ·exact⟨_,_,by rw [h0],by omega⟩
 ·exact⟨_,_,rfl,hc⟩
theorem GrowI.ext {base:Nat} {w w':World} {v:Value} {p:List Nat} (h:GrowI base w v p) (e:Ext w w'):GrowI base w' v p:=by
 refine⟨Nat.le_trans h.1 e.size,h.2.1,?_⟩
 rcases h.2.2 with h0 | ⟨g,cap,cur,hv,hb,hh,h1,h2,h3,h4⟩
 ·exact .inl h0
 ·exact .inr ⟨g,cap,cur,hv,hb,e.block hh,h1,h2,h3,h4⟩
theorem GrowI.chg {base l u:Nat} {w w':World} {v:Value} {p:List Nat} (h:GrowI base w v p) (c:Chg l u w w') (hd:u≤base):GrowI base w' v p:=by
 refine⟨Nat.le_trans h.1 c.size,h.2.1,?_⟩
 rcases h.2.2 with h0 | ⟨g,cap,cur,hv,hb,hh,h1,h2,h3,h4⟩
 ·exact .inl h0
 ·exact .inr ⟨g,cap,cur,hv,hb,c.blk hh (by omega),h1,h2,h3,h4⟩
def anyB (n:Nat) (p:Nat→Bool):Bool:=(List.range n).any p
theorem anyB_true {n:Nat} {p:Nat→Bool} {i:Nat} (hi:i < n) (h:p i=true):anyB n p=true:=by
 unfold anyB; rw [List.any_eq_true]; exact⟨i,List.mem_range.2 hi,h⟩
theorem anyB_false {n:Nat} {p:Nat→Bool}:anyB n p=false↔∀ i,i < n→p i=false:=by simp [anyB]
theorem anyB_not (n:Nat) (p:Nat→Bool):(!anyB n (fun i=>!p i))=allB n p:=by
 cases h:allB n p with
 | true =>
  have:anyB n (fun i=>!p i)=false:=anyB_false.2 (fun i hi=>by rw [allB_true.1 h i hi]; rfl);rw [this]; rfl
 | false =>
  cases h2:anyB n (fun i=>!p i) with
  | true=>rfl
  | false =>
   have:allB n p=true:=allB_true.2 (fun i hi=>by have:=anyB_false.1 h2 i hi; simpa using this);rw [this] at h; cases h
def RetIdx (w:World) (r:Bool) (e:Ending) (w':World):Prop:=∃ z:Int,e=.returned (.int .i64 z)∧Hid (r=decide (0≤z))∧Ext w w'
def IzV (N lo hi:Nat) (w:World) (v:Value) (n:Nat) (z:Nat→Int):Prop :=
 N+lo+hi=N+lo+hi∧∃ (A:Option Addr) (c:Nat),v=.slice A n c∧n≤c∧c≤maxLen∧(0 < n→∃ b off,A=some ⟨b,off,none⟩∧∀ i,i < n→w.cell? ⟨b,off+i,none⟩=some (.int .i64 (z i)))
theorem IzV.ext {N lo hi:Nat} {w w':World} {v:Value} {n:Nat} {z:Nat→Int} (h:IzV N lo hi w v n z) (e:Ext w w'):IzV N lo hi w' v n z:=by
 obtain⟨h0,A,c,hv,h1,h2,h3⟩:=h;refine⟨h0,A,c,hv,h1,h2,fun h=>?_⟩;obtain⟨b,off,hA,hc⟩:=h3 h;exact⟨b,off,hA,fun i hi=>e.cell (hc i hi)⟩
theorem IzV.form {N lo hi:Nat} {w:World} {v:Value} {n:Nat} {z:Nat→Int} (h:IzV N lo hi w v n z):∃ (A:Option Addr) (c:Nat),v=.slice A n c∧n≤c∧c≤maxLen:=by
 obtain⟨h0,A,c,hv,h1,h2,h3⟩:=h;exact⟨A,c,hv,h1,h2⟩
theorem IzV.addr {N lo hi:Nat} {w:World} {A:Option Addr} {n c:Nat} {z:Nat→Int} (h:IzV N lo hi w (.slice A n c) n z) (hn:0 < n):∃ b off,A=some ⟨b,off,none⟩∧∀ i,i < n→w.cell? ⟨b,off+i,none⟩=some (.int .i64 (z i)):=by
 obtain⟨h0,A',c',hv,h1,h2,h3⟩:=h;injection hv with e1 e2 e3
 subst e1;exact h3 hn
def IsI (u:Value) (z:Int):Prop:=u=.int .i64 z
theorem IsI.out {u:Value} {z:Int} (h:IsI u z):u=.int .i64 z:=h
structure Grd where
 x0:Int
 y0:Int
 st:Int
 wd:Int
 ht:Int
 n:Nat
 z:Nat→Int
def noneZ:Int:=-2147483648
def farZ (n:Int):Bool:=decide (n < -1048576) || decide (1048576 < n)
def sideZ (n:Int):Bool:=decide (2≤n) && decide (n≤64)
def badZ (n:Int):Bool:=decide (n≠noneZ) && farZ n
def frmB (G:Grd):Bool:=sideZ G.wd && sideZ G.ht && decide (2≤G.st) && decide (G.st≤65536) && decide (G.st % 2=0) && !farZ G.x0 && !farZ G.y0
def grdCode (G:Grd):Int:=if frmB G=false then 2 else if (G.n:Int)≠G.wd*G.ht then 4 else if anyB G.n (fun i=>badZ (G.z i)) then 2 else 0
def GrdV (N lo hi:Nat) (w:World) (v:Value) (G:Grd):Prop :=
 ∃ vz,v=.agg #[.int .i64 G.x0,.int .i64 G.y0,.int .i64 G.st,.int .i64 G.wd,.int .i64 G.ht,vz]∧IzV N lo hi w vz G.n G.z
theorem GrdV.ext {N lo hi:Nat} {w w':World} {v:Value} {G:Grd} (h:GrdV N lo hi w v G) (e:Ext w w'):GrdV N lo hi w' v G:=by
 obtain⟨vz,rfl,hz⟩:=h;exact⟨vz,rfl,hz.ext e⟩
theorem GrdV.parts {N lo hi:Nat} {w:World} {v:Value} {G:Grd} (h:GrdV N lo hi w v G):∃ A c,v=.agg #[.int .i64 G.x0,.int .i64 G.y0,.int .i64 G.st,.int .i64 G.wd,.int .i64 G.ht,.slice A G.n c]∧G.n≤c∧c≤maxLen∧IzV N lo hi w (.slice A G.n c) G.n G.z:=by
 obtain⟨vz,rfl,hz⟩:=h;obtain⟨A,c,rfl,h1,h2⟩:=hz.form;exact⟨A,c,rfl,h1,h2,hz⟩
theorem cells_g {w:World} {g:Nat} {t:TypeId} {x0 x1 x2 x3 x4 x5:Value} (h:w.heap[g]?=some (.cells #[x0,x1,x2,x3,x4,x5] t (0,0))):w.cell? ⟨g,0,none⟩=some x0∧w.cell? ⟨g,1,none⟩=some x1∧w.cell? ⟨g,2,none⟩=some x2∧w.cell? ⟨g,3,none⟩=some x3∧w.cell? ⟨g,4,none⟩=some x4∧w.cell? ⟨g,5,none⟩=some x5:=by
 refine⟨?_,?_,?_,?_,?_,?_⟩ <;> exact cell_blk h _
def RetS (w:World) (v:Value) (e:Ending) (w':World):Prop:=e=.returned v∧w'=w
theorem RetS.v {w:World} {v:Value} {e:Ending} {w':World} (h:RetS w v e w'):RetV w v e w':=⟨h.1,by rw [h.2]; exact Ext.refl w⟩
theorem te_far (w:World) (z:Int):Calls Tryz.prog 94 #[.int .i64 z] w (RetS w (.bool (farZ z))):=by
 by_cases h0:z < -1048576
 ·have HR:Hid (true=farZ z):=by rw [Hid]; unfold farZ; rw [decide_eq_true h0]; rfl
  go_enter Tryz.func94,Tryz.ntmps94;go_wp2;go_ret;exact⟨ret_bool HR.out,rfl⟩
 ·by_cases h1:1048576 < z
  ·have HR:Hid (true=farZ z):=by rw [Hid]; unfold farZ; rw [decide_eq_true h1,Bool.or_true]
   go_enter Tryz.func94,Tryz.ntmps94;go_wp2;go_ret;exact⟨ret_bool HR.out,rfl⟩
  ·have HR:Hid (false=farZ z):=by rw [Hid]; unfold farZ; rw [decide_eq_false h0,decide_eq_false h1]; rfl
   go_enter Tryz.func94,Tryz.ntmps94;go_wp2;go_ret;exact⟨ret_bool HR.out,rfl⟩
theorem te_side (w:World) (z:Int):Calls Tryz.prog 93 #[.int .i64 z] w (RetS w (.bool (sideZ z))):=by
 by_cases h0:2≤z
 ·by_cases h1:z≤64
  ·have HR:Hid (true=sideZ z):=by rw [Hid]; unfold sideZ; rw [decide_eq_true h0,decide_eq_true h1]; rfl
   go_enter Tryz.func93,Tryz.ntmps93;go_wp2;go_ret;exact⟨ret_bool HR.out,rfl⟩
  ·have HR:Hid (false=sideZ z):=by rw [Hid]; unfold sideZ; rw [decide_eq_false h1,Bool.and_false]
   go_enter Tryz.func93,Tryz.ntmps93;go_wp2;go_ret;exact⟨ret_bool HR.out,rfl⟩
 ·have HR:Hid (false=sideZ z):=by rw [Hid]; unfold sideZ; rw [decide_eq_false h0]; rfl
  go_enter Tryz.func93,Tryz.ntmps93;go_wp2;go_ret;exact⟨ret_bool HR.out,rfl⟩
theorem te_bad (w:World) (z:Int):Calls Tryz.prog 96 #[.int .i64 z] w (RetS w (.bool (badZ z))):=by
 by_cases h0:z = -2147483648
 ·have HR:Hid (false=badZ z):=by rw [Hid,h0]; rfl
  subst h0;go_enter Tryz.func96,Tryz.ntmps96;go_wp2;go_ret;exact⟨ret_bool HR.out,rfl⟩
 ·have HR:Hid (farZ z=badZ z):=by rw [Hid]; unfold badZ; rw [decide_eq_true (show z≠noneZ from h0)]; rfl
  have t0:(z != -2147483648)=true:=by simpa using h0
  obtain⟨r,hr⟩:=hid_eq (farZ z);rw [←hr.out] at HR;go_enter Tryz.func96,Tryz.ntmps96;go_wp2_with (go_at_call 94; refine Hid.out ?_);refine (te_far w z).mono ?_;rintro e w1 ⟨rfl,rfl⟩;rw [←hr.out];go_wp2;go_ret;exact⟨ret_bool HR.out,rfl⟩
theorem l48_far (w:World) (z:Int):Calls Tryz.prog 120 #[.int .i64 z,.int .i64 1048576] w (RetS w (.bool (farZ z))):=by
 by_cases h0:z < -1048576
 ·have HR:Hid (true=farZ z):=by rw [Hid]; unfold farZ; rw [decide_eq_true h0]; rfl
  go_enter Tryz.func120,Tryz.ntmps120;go_wp2;go_ret;exact⟨ret_bool HR.out,rfl⟩
 ·by_cases h1:1048576 < z
  ·have HR:Hid (true=farZ z):=by rw [Hid]; unfold farZ; rw [decide_eq_true h1,Bool.or_true]
   go_enter Tryz.func120,Tryz.ntmps120;go_wp2;go_ret;exact⟨ret_bool HR.out,rfl⟩
  ·have HR:Hid (false=farZ z):=by rw [Hid]; unfold farZ; rw [decide_eq_false h0,decide_eq_false h1]; rfl
   go_enter Tryz.func120,Tryz.ntmps120;go_wp2;go_ret;exact⟨ret_bool HR.out,rfl⟩
theorem sl_badZx {N lo hi:Nat} {w:World} {v:Value} {n:Nat} {z:Nat→Int} (h:IzV N lo hi w v n z)  (g:Nat→Bool)
  (hf:∀ i,i < n→∀ w' u,Ext w w'→IsI u (z i)→Calls Tryz.prog 96 #[u] w' (RetV w' (.bool (g i)))) :
  Calls Tryz.prog 146 #[v,.func (.func 96) #[] #[]] w (RetIdx w (anyB n g)):=by
 obtain⟨r,hr⟩:=hid_eq (anyB n g);rw [←hr.out];obtain⟨A,c,rfl,hnc,hcm⟩:=h.form;unfold maxLen at hcm;have hI:=h;have HF:=Lib.hid hf;clear h hf;go_enter Tryz.func146,Tryz.ntmps146;go_wp2
 go_loopw [8] (fun i wr=>∃ k:Nat,k≤n∧i=.int .i64 k∧Hid (∀ j,j < k→g j=false)∧Ext w wr) (fun i _=>n - (intOf i).toNat)
 case atStart=>exact⟨0,Nat.zero_le _,rfl,fun j hj=>absurd hj (by omega),Ext.refl w⟩
 case round =>
  obtain⟨k,hk,rfl,HA,hE⟩:=hrel
  by_cases hlt:k < n
  ·(obtain⟨b,off,rfl,hx⟩:=(hI.ext hE).addr (by omega)); (have p0:=hx k hlt); (have hv:IsI (Value.int .i64 (z k)) (z k):=rfl)
   clear hx;go_wp2_with (go_at_call 96; refine Hid.out ?_);refine (HF.out k hlt _ _ hE hv).mono ?_;rintro e w1 ⟨rfl,e1⟩;replace hE:=hE.trans e1;obtain⟨o,ho⟩:=hid_eq (g k);rw [←ho.out];cases o with
   | false =>
    go_wp2;go_roundw
    case rel=>exact⟨k+1,by omega,by go_num,all_succ (p:=fun j=>g j=false) HA.out ho.out.symm,hE⟩
    case measure=>simp [intOf]; omega
   | true =>
    have HT:Hid (r=true):=by rw [Hid,hr.out]; exact anyB_true hlt ho.out.symm
    go_wp2;go_ret;exact⟨_,rfl,by rw [Hid,HT.out]; symm; simp,hE⟩
  ·have HT:Hid (r=false):=by rw [Hid,hr.out]; exact anyB_false.2 (fun j hj=>HA.out j (by omega))
   go_wp2;go_ret;exact⟨_,rfl,by rw [Hid,HT.out]; rfl,hE⟩
theorem sl_badZ {N lo hi:Nat} {w:World} {v:Value} {n:Nat} {z:Nat→Int} (h:IzV N lo hi w v n z)  (g:Nat→Bool)
  (hf:∀ i,i < n→∀ w' u,Ext w w'→IsI u (z i)→Calls Tryz.prog 96 #[u] w' (RetV w' (.bool (g i)))) :
  Calls Tryz.prog 95 #[v,.func (.func 96) #[] #[]] w (RetV w (.bool (anyB n g))):=by
 obtain⟨r,hr⟩:=hid_eq (anyB n g);rw [←hr.out];obtain⟨A,c,rfl,hnc,hcm⟩:=h.form;have hI:=h;have HF:=Lib.hid hf;clear h hf;go_enter Tryz.func95,Tryz.ntmps95;go_wp2_with (go_at_call 146; refine Hid.out ?_);refine (sl_badZx hI  g HF.out).mono ?_;rintro e w1 ⟨z,rfl,hz,e1⟩;rw [←hr.out] at hz;go_wp2;go_ret;exact⟨ret_bool hz.out.symm,e1⟩
end Go.Proofs.YtphpkhoeplcedaaGreat
