import Derived.Test.YtphpkhoeplcedaaGreatWb35
import Derived.Deep.MidRow
set_option linter.all false
set_option maxHeartbeats 8000000
set_option maxRecDepth 100000
namespace Go.Proofs.YtphpkhoeplcedaaGreat
open Go.RowKit
theorem cells3 {w:World} {g:Nat} {t:TypeId} {x0 x1 x2:Value} (h:w.heap[g]?=some (.cells #[x0,x1,x2] t (0,0))):w.cell? ⟨g,0,none⟩=some x0∧w.cell? ⟨g,1,none⟩=some x1∧w.cell? ⟨g,2,none⟩=some x2∧w.frozen? ⟨g,0,none⟩=false∧w.frozen? ⟨g,1,none⟩=false∧w.frozen? ⟨g,2,none⟩=false:=by
 refine⟨?_,?_,?_,?_,?_,?_⟩ <;> first | exact cell_blk h _ | exact frozen_blk h _
theorem okR_spec {R:Raw} (h:okR R=true):∃ q:Rat,R=raw q:=by
 obtain⟨b1,l1,b2,l2⟩:=R;unfold okR at h;simp only [Bool.and_eq_true,decide_eq_true_eq] at h;obtain⟨⟨⟨h1,h2⟩,h3⟩,h4⟩:=h;obtain⟨e1,e2,e3⟩:=okB_spec h1;obtain⟨f1,f2,f3⟩:=okB_spec h2;have hb2:b2=false:=by rw [f2]; simp; omega
 subst hb2;have hz:zval false l2=(val l2:Int):=by unfold zval; simp
 rw [hz] at h3 h4;refine⟨⟨zval b1 l1,val l2,by omega,?_⟩,?_⟩
 ·exact h4
 ·unfold raw;simp only [Raw.mk.injEq];exact⟨e2,by rw [←e3]; exact e1,trivial,f1⟩
theorem boxesD1 {F:World→Prop} {w:World} {o0:Obj} (h:∀ w1,Ext w w1→w.heap.size+1≤w1.heap.size→w1.heap[w.heap.size]?=some o0→F w1):F (w.alloc o0).drew:=by
 refine h _ ((Ext.refl w).alloc _).drew ?_ (heap_alloc_new w o0);have:=(boxes1 (F:=fun W=>w.heap.size+1≤W.heap.size) (w:=w) (o0:=o0) (fun _ _ h _=>h))
 exact this
section
variable {ET:TypeId} {base:Nat} {w w':World} {v:Value} {xs:List Value}
theorem GrowO.empty {g:Nat} (hb:base≤g) (h:w.heap[g]?=some (.cells #[] ET (0,0))):GrowO ET base w (.slice (some ⟨g,0,none⟩) 0 0) [] :=
 ⟨by have:=blk_lt h; omega,by simp,.inr ⟨g,0,#[],rfl,hb,h,Nat.le_refl _,Nat.zero_le _,rfl,rfl⟩⟩
end
end Go.Proofs.YtphpkhoeplcedaaGreat
namespace Go.Proofs.YtphpkhoeplcedaaGreat
theorem lin_add (p q c t:Rat):lin p q t+c=lin (p+c) (q+c) t:=by unfold lin; grind
theorem blk_not {G:Grd} {a b:Nat→Rat} {t:Rat} (h:blkF G a b t):¬ clrF G a b:=by
 obtain⟨h0,h1,x,hx,h2⟩:=h;intro hc;have:=hc t h0 h1 x hx
 grind
structure LowG (G H:Grd):Prop where
 x0:H.x0=G.x0
 y0:H.y0=G.y0
 st:H.st=G.st
 wd:H.wd=G.wd
 ht:H.ht=G.ht
 z:∀ k,k < G.n→H.z k=noneZ∨(G.z k≠noneZ∧H.z k≤G.z k)
theorem LowG.at {G H:Grd} (h:LowG G H) (hn:(G.n:Int)=G.wd*G.ht) {i j:Int} (i0:0≤i) (i1:i < G.wd) (j0:0≤j) (j1:j < G.ht) (hz:zAt H i j≠noneZ):zAt G i j≠noneZ∧zAt H i j≤zAt G i j:=by
 have hk:=(zidx i0 i1 j0 j1 hn).2.1;unfold zAt at hz ⊢;rw [h.wd] at hz ⊢
 rcases h.z _ hk with h0 | h0
 ·exact absurd h0 hz
 ·exact h0
theorem le_cast {a b:Int} (h:a≤b):(a:Rat)≤(b:Rat):=Rat.intCast_le_intCast.2 h
structure ShG (G H:Grd) (bx bY bz:Int):Prop where
 x0:H.x0=G.x0+bx*G.st
 y0:H.y0=G.y0+bY*G.st
 st:H.st=G.st
 wd:H.wd=G.wd
 ht:H.ht=G.ht
 z:∀ k,k < G.n→(G.z k=noneZ∧H.z k=noneZ)∨(G.z k≠noneZ∧H.z k≠noneZ∧H.z k=G.z k+bz)
theorem ShG.at {G H:Grd} {bx bY bz:Int} (h:ShG G H bx bY bz) (hn:(G.n:Int)=G.wd*G.ht) {i j:Int} (i0:0≤i) (i1:i < G.wd) (j0:0≤j) (j1:j < G.ht):(zAt H i j≠noneZ↔zAt G i j≠noneZ)∧(zAt G i j≠noneZ→zAt H i j=zAt G i j+bz):=by
 have hk:=(zidx i0 i1 j0 j1 hn).2.1;unfold zAt;rw [h.wd]
 rcases h.z _ hk with ⟨h0,h1⟩ | ⟨h0,h1,h2⟩
 ·exact⟨⟨fun k=>absurd h1 k,fun k=>absurd h0 k⟩,fun k=>absurd h0 k⟩
 ·exact⟨⟨fun _=>h0,fun _=>h1⟩,fun _=>h2⟩
theorem sh_in {G H:Grd} {bx bY bz:Int} (h:ShG G H bx bY bz) (hn:(G.n:Int)=G.wd*G.ht) {X Y:Rat} {i j:Int} {r:Nat} (hr:r < 2):(InT H X Y i j r↔InT G X Y i j r)∧(InT G X Y i j r→plT H X Y i j r=plT G X Y i j r+(bz:Rat)):=by
 have hr':r=0∨r=1:=by omega
 constructor
 ·constructor
  ·rintro⟨i0,i1,j0,j1,a0,a1,b0,b1,d0,d1,z0,z1,z2⟩;rw [h.wd] at i1;rw [h.ht] at j1;refine⟨i0,i1,j0,j1,a0,a1,b0,b1,d0,d1,(h.at hn i0 (by omega) j0 (by omega)).1.1 z0,?_,(h.at hn (by omega) (by omega) (by omega) (by omega)).1.1 z2⟩
   rcases hr' with rfl | rfl
   ·exact (h.at hn (i:=i+1) (j:=j) (by omega) (by omega) (by omega) (by omega)).1.1 z1
   ·exact (h.at hn (i:=i) (j:=j+1) (by omega) (by omega) (by omega) (by omega)).1.1 z1
  ·rintro⟨i0,i1,j0,j1,a0,a1,b0,b1,d0,d1,z0,z1,z2⟩;refine⟨i0,by rw [h.wd]; exact i1,j0,by rw [h.ht]; exact j1,a0,a1,b0,b1,d0,d1,(h.at hn i0 (by omega) j0 (by omega)).1.2 z0,?_,(h.at hn (by omega) (by omega) (by omega) (by omega)).1.2 z2⟩
   rcases hr' with rfl | rfl
   ·exact (h.at hn (i:=i+1) (j:=j) (by omega) (by omega) (by omega) (by omega)).1.2 z1
   ·exact (h.at hn (i:=i) (j:=j+1) (by omega) (by omega) (by omega) (by omega)).1.2 z1
 ·rintro⟨i0,i1,j0,j1,a0,a1,b0,b1,d0,d1,z0,z1,z2⟩;have e0:=(h.at hn i0 (by omega) j0 (by omega)).2 z0;have e2:=(h.at hn (i:=i+1) (j:=j+1) (by omega) (by omega) (by omega) (by omega)).2 z2
  rcases hr' with rfl | rfl
  ·have e1:=(h.at hn (i:=i+1) (j:=j) (by omega) (by omega) (by omega) (by omega)).2 z1;rw [pl0,pl0,e0,e1,e2,Rat.intCast_add,Rat.intCast_add,Rat.intCast_add]
   grind
  ·have e1:=(h.at hn (i:=i) (j:=j+1) (by omega) (by omega) (by omega) (by omega)).2 z1;rw [pl1,pl1,e0,e1,e2,Rat.intCast_add,Rat.intCast_add,Rat.intCast_add]
   grind
theorem step_sh (x:Rat) (x0 st bx:Int):stepF (x+((bx*st:Int):Rat)) (x0+bx*st) st=stepF x x0 st:=by
 unfold stepF;rw [Rat.intCast_add]
 congr 1
 grind
theorem sh_hgt {G H:Grd} {bx bY bz:Int} (h:ShG G H bx bY bz) (hn:(G.n:Int)=G.wd*G.ht) (x y:Rat):hgtF H (x+((bx*G.st:Int):Rat)) (y+((bY*G.st:Int):Rat))=(hgtF G x y).map (fun q=>q+(bz:Rat)):=by
 have key:∀ q,Surf H (stepF (x+((bx*G.st:Int):Rat)) H.x0 H.st) (stepF (y+((bY*G.st:Int):Rat)) H.y0 H.st) q↔∃ p,Surf G (stepF x G.x0 G.st) (stepF y G.y0 G.st) p∧q=p+(bz:Rat):=by
  intro q;rw [h.x0,h.y0,h.st,step_sh,step_sh]
  constructor
  ·rintro⟨i,j,r,hr,hT,rfl⟩;have hT':=(sh_in h hn hr).1.1 hT;exact⟨_,⟨i,j,r,hr,hT',rfl⟩,(sh_in h hn hr).2 hT'⟩
  ·rintro⟨p,⟨i,j,r,hr,hT,rfl⟩,rfl⟩;exact⟨i,j,r,hr,(sh_in h hn hr).1.2 hT,(sh_in h hn hr).2 hT⟩
 cases hq:hgtF G x y with
 | some p=>exact surf_hgt ((key _).2 ⟨p,hgt_surf hq,rfl⟩)
 | none =>
  refine hgt_none.2 fun q k=>?_
  obtain⟨p,hp,-⟩:=(key q).1 k;exact hgt_none.1 hq p hp
theorem sh_ex {G H:Grd} {bx bY bz:Int} (h:ShG G H bx bY bz) (hn:(G.n:Int)=G.wd*G.ht) {a b a' b':Nat→Rat} (ha0:a' 0=a 0+((bx*G.st:Int):Rat)) (ha1:a' 1=a 1+((bY*G.st:Int):Rat)) (ha2:a' 2=a 2+(bz:Rat)) (hb0:b' 0=b 0+((bx*G.st:Int):Rat)) (hb1:b' 1=b 1+((bY*G.st:Int):Rat)) (hb2:b' 2=b 2+(bz:Rat)) (t:Rat):exF H a' b' t=exF G a b t:=by
 unfold exF;rw [ha0,ha1,ha2,hb0,hb1,hb2,←lin_add,←lin_add,←lin_add,sh_hgt h hn];cases hgtF G (lin (a 0) (b 0) t) (lin (a 1) (b 1) t) with
 | none=>rfl
 | some q =>
  show some _=some _
  congr 1
  grind
theorem clr_blk {G:Grd} {a b:Nat→Rat} {is:Bool} {t:Rat} (h1:is=true→clrF G a b∧t=0) (h2:is=false→blkF G a b t):is=true↔clrF G a b:=by
 cases is with
 | true=>exact⟨fun _=>(h1 rfl).1,fun _=>rfl⟩
 | false=>exact⟨fun h=>absurd h (by decide),fun h=>absurd h (blk_not (h2 rfl))⟩
theorem sh_clr {G H:Grd} {bx bY bz:Int} (h:ShG G H bx bY bz) (hn:(G.n:Int)=G.wd*G.ht) {a b a' b':Nat→Rat} (ha0:a' 0=a 0+((bx*G.st:Int):Rat)) (ha1:a' 1=a 1+((bY*G.st:Int):Rat)) (ha2:a' 2=a 2+(bz:Rat)) (hb0:b' 0=b 0+((bx*G.st:Int):Rat)) (hb1:b' 1=b 1+((bY*G.st:Int):Rat)) (hb2:b' 2=b 2+(bz:Rat)):clrF H a' b'↔clrF G a b:=by
 unfold clrF;simp only [sh_ex h hn ha0 ha1 ha2 hb0 hb1 hb2]
end Go.Proofs.YtphpkhoeplcedaaGreat
namespace Go.Proofs.YtphpkhoeplcedaaGreat
open Go.RowKit
def GrowC (base:Nat) (w:World) (v:Value) (n:Nat) (xs:List Value):Prop:=base≤w.heap.size∧w.ownsRow base 29 4 v n xs
theorem GrowC.ext {base:Nat} {w w':World} {v:Value} {n:Nat} {xs:List Value} (h:GrowC base w v n xs) (e:Ext w w'):GrowC base w' v n xs:=by
 refine⟨Nat.le_trans h.1 e.size,h.2.1,?_⟩
 rcases h.2.2 with h0 | ⟨g,cap,cur,hv,hb,hh,h1,h2,h3,h4⟩
 ·exact .inl h0
 ·exact .inr ⟨g,cap,cur,hv,hb,e.block hh,h1,h2,h3,h4⟩
theorem info_ratc:(Tryz.prog.info? 29).map (fun i=>(i.zero,i.size,i.bytes))=some (some (.agg #[.bool false,.slice none 0 0,.bool false,.slice none 0 0]),4,64):=by kernel_rfl
theorem wp_append_c {base:Nat} {w:World} {v:Value} {n m:Nat} {xs:List Value} {cs:Array Value} {o:Oper} {a:Act} {K:Act→World→Prop} {Q:Exit→Act→World→Prop} (s x:Operand) (t:TypeId) (ht:Tryz.prog.underlying t=some (.slice 29))
  (ho:o.op=.call { callee:=.builtin .append,args:=#[s,x],argTypes:=#[t,t] }) (hs:a.eval s=v) (h:GrowC base w v n xs) {b:Nat} {c:Nat} (hx:a.eval x=.slice (some ⟨b,0,none⟩) m c) {fr:Nat×Nat} {ty:TypeId} (hb:w.heap[b]?=some (.cells cs ty fr)) (hm:cs.size=m*4) (h1:cs.toList.all (·.oneCell')=true) (h0:0 < m) (hn:n+m < 1000000000)
  (hK:∀ g cap w' g',GrowC base w' (.slice (some ⟨g,0,none⟩) (n+m) cap) (n+m) (xs ++ cs.toList)→base≤g'→Chg g' (g'+1) w w'→K (a.put o.dst (.slice (some ⟨g,0,none⟩) (n+m) cap)) w'):o.wp Tryz.prog a w K Q:=by
 obtain⟨i0,hi0,hz0,hz1,hz2⟩:=info_parts info_ratc;obtain⟨hb0,hown⟩:=h
 obtain⟨g,cap,w',hrun,hO,hgr,hat,hlt⟩:=run_append_lies (P:=Tryz.prog) w t o.type base 29 i0 _ 4 64 ht hi0 hz0 hz1 hz2 rfl (by omega) v n xs hown ⟨b,0,none⟩ m c cs.toList (by rw [Array.length_toList]; exact hm)
  (fun j u hj=>by rw [add_addr,cell_blk hb,Nat.zero_add]; simpa using hj) (fun u hu=>List.all_eq_true.1 h1 u hu) h0 (by unfold maxLen; omega)
  (by omega) hb0 w.heap.size rfl
 unfold Oper.wp;simp only [execOp,ho,resolve,invoke,builtin,Sem.run_bind,Sem.run_pure,Result.andThen_ok,List.map_toArray,List.map_cons,List.map_nil,hs,hx,hrun];have hG:GrowC base w' (.slice (some ⟨g,0,none⟩) (n+m) cap) (n+m) (xs ++ cs.toList):=⟨Nat.le_trans hb0 hgr.size,hO⟩
 have hT:NoU w w.heap.size:=fun cs fr h=>by rw [Array.getElem?_eq_none (Nat.le_refl _)] at h; cases h
 rcases hown.2 with ⟨rfl,h0⟩ | ⟨g0,cap0,cur,rfl,hbb,hh,_⟩
 ·exact hK g cap w' w.heap.size hG hb0 (grown_chg hgr (fun k hk=>by simp [Value.ownBlock] at hk) hT)
 ·have hT0:NoU w g0:=NoU.mk hh (by decide);exact hK g cap w' g0 hG hbb (grown_chg hgr (fun k hk=>by simpa [Value.ownBlock] using hk.symm) hT0)
theorem step_append_c {base:Nat} {w:World} {v:Value} {n m:Nat} {xs:List Value} {cs:Array Value} {ops:Array Oper} {o:Oper} {a:Act} {K:Act→World→Prop} {Q:Exit→Act→World→Prop} {E:Prop} (hgd:o.guard=none) (s x:Operand) (t:TypeId) (ht:Tryz.prog.underlying t=some (.slice 29))
  (ho:o.op=.call { callee:=.builtin .append,args:=#[s,x],argTypes:=#[t,t] }) (hs:a.eval s=v) (h:GrowC base w v n xs) {b:Nat} {c:Nat} (hx:a.eval x=.slice (some ⟨b,0,none⟩) m c) {fr:Nat×Nat} {ty:TypeId} (hb:w.heap[b]?=some (.cells cs ty fr)) (hm:cs.size=m*4) (h1:cs.toList.all (·.oneCell')=true) (h0:0 < m) (hn:n+m < 1000000000)
  (hK:∀ g cap w' g',GrowC base w' (.slice (some ⟨g,0,none⟩) (n+m) cap) (n+m) (xs ++ cs.toList)→base≤g'→Chg g' (g'+1) w w'→K (a.put o.dst (.slice (some ⟨g,0,none⟩) (n+m) cap)) w') :
  if Region.wanted o (yielded ops a.tmps)=true then Oper.wp Tryz.prog o a w K Q else E:=by
 have hw:Region.wanted o (yielded ops a.tmps)=true:=by simp [Region.wanted,hgd]
 rw [if_pos hw];exact wp_append_c s x t ht ho hs h hx hb hm h1 h0 hn hK
def Mn.gc (lo n:Nat) (xs:List Value):Mn:=⟨fun v w=>∃ g cap,v=.slice (some ⟨g,0,none⟩) n cap∧GrowC lo w v n xs,fun e h=>by
 obtain⟨g,cap,h0,h1⟩:=h
 exact⟨g,cap,h0,h1.ext e⟩⟩
theorem GrowC.empty {base g:Nat} {w:World} (hb:base≤g) (h:w.heap[g]?=some (.cells #[] 29 (0,0))):GrowC base w (.slice (some ⟨g,0,none⟩) 0 0) 0 [] :=
 ⟨by have:=blk_lt h; omega,by simp,.inr ⟨g,0,#[],rfl,hb,h,Nat.le_refl _,by unfold maxLen; omega,rfl,rfl⟩⟩
def RetGc (w:World) (n:Nat) (xs:List Value) (e:Ending) (w':World):Prop:=∃ g cap,e=.returned (.slice (some ⟨g,0,none⟩) n cap)∧GrowC w.heap.size w' (.slice (some ⟨g,0,none⟩) n cap) n xs∧Ext w w'
theorem GrowC.mono {base base' n:Nat} {w:World} {v:Value} {xs:List Value} (h:GrowC base w v n xs) (hb:base'≤base):GrowC base' w v n xs:=by
 refine⟨Nat.le_trans hb h.1,h.2.1,?_⟩
 rcases h.2.2 with h0 | ⟨g,cap,cur,hv,hB,hh,h1,h2,h3,h4⟩
 ·exact .inl h0
 ·exact .inr ⟨g,cap,cur,hv,Nat.le_trans hb hB,hh,h1,h2,h3,h4⟩
theorem l49_both {w:World} {ca cb:Array Value} (a2:ca.size=12) (a3:ca.toList.all (·.oneCell')=true) (b2:cb.size=12) (b3:cb.toList.all (·.oneCell')=true) :
  Calls Tryz.prog 17 #[.agg ca,.agg cb] w (RetGc w 6 (ca.toList ++ cb.toList)):=by
 have ZA:=Lib.hid a2;have ZB:=Lib.hid b2;have OA:=Lib.hid a3;have OB:=Lib.hid b3;clear a2 a3 b2 b3;go_enter Tryz.func17,Tryz.ntmps17;go_upto_region 1 with (fail);refine boxes2 ?_;intro W hE hsz B0 B1;have HB0:=Lib.hid B0;have HB1:=Lib.hid B1;clear B0 B1;have eC:=(Ext.refl W).drew;refine region_late (fun w'=>True) [] (by kernel_rfl) (by exact trivial) (fun hHeld=>?_);refine sP 1 (h:=?_);try simp only [nr]
 refine sP 3 (h:=?_);try simp only [nr]
 refine stepL_only (i:=0) rfl (by kernel_rfl) (fun K hK=>?_);go_simp;have hsz0:=eC.size
 first | refine boxes1 ?_ | refine boxesD1 ?_
 intro w3 e3 hsz3 BJ;replace eC:Ext W w3:=by first | exact eC.trans e3 | exact e3
 have hg0:=GrowC.empty (base:=W.heap.size) hsz0 BJ;clear hHeld;refine hK.out _ _ (by exact trivial) fun hHeld=>?_
 clear hK K;try simp only [nr]
 refine stepL_only (i:=2) rfl (by kernel_rfl) (fun K hK=>?_);refine step_append_c rfl _ _ 45 Tryz.underlying45 rfl (by rfl) hg0 (m:=3) (c:=3) (by rfl) (eC.block HB0.out) ZA.out OA.out (by omega) (by omega) ?_;intro g1 cap1 w4 p1 hg1 hb1 C1;replace eC:=C1.ext eC hb1;clear hHeld;refine hK.out _ _ (by exact trivial) fun hHeld=>?_
 clear hK K;try simp only [nr]
 refine stepL_only (i:=4) rfl (by kernel_rfl) (fun K hK=>?_);refine step_append_c rfl _ _ 45 Tryz.underlying45 rfl (by rfl) hg1 (m:=3) (c:=3) (by rfl) (eC.block HB1.out) ZB.out OB.out (by omega) (by omega) ?_;intro g2 cap2 w5 p2 hg2 hb2 C2;replace eC:=C2.ext eC hb2;clear hHeld;refine hK.out _ _ (by exact trivial) fun hHeld=>?_
 clear hK K;try simp only [nr]
 refine sP 5 (h:=?_);try simp only [nr]
 refine stepL_done (by kernel_rfl) ?_ _;clear hHeld;go_wp2;go_ret;exact⟨g2,cap2,rfl,hg2.mono (by have:=hE.size; omega),hE.trans eC⟩
def ratOf (R:Raw):Rat:=Rat.divInt (zval R.b1 R.l1) (zval R.b2 R.l2)
theorem ratOf_raw (q:Rat):ratOf (raw q)=q:=by
 unfold ratOf raw;have h4:zval false (dg q.den)=(q.den:Int):=by unfold zval; rw [val_dg]; simp
 simp only [zval_canon,h4];exact Rat.num_divInt_den q
theorem raw_ratOf {R:Raw} (h:okR R=true):R=raw (ratOf R):=by
 obtain⟨q,rfl⟩:=okR_spec h;rw [ratOf_raw]
theorem wp_load_part {o:Oper} {a:Act} {w:World} {K:Act→World→Prop} {Q:Exit→Act→World→Prop} (ty:TypeId) (x:Operand) (ho:o.op=.load ty x) (g k:Nat) (hx:a.eval x=.pointer (some ⟨g,k,none⟩)) (cs:Array Value)
  (hc:∀ j v,cs[j]?=some v→w.cell? ⟨g,k+j,none⟩=some v) (d:TypeDesc) (hu:Tryz.prog.underlying ty=some d) (hd:d.isRow=true) (hi:(Tryz.prog.info? ty).map (·.size)=some cs.size) (h:K (a.put o.dst (.agg cs)) w):o.wp Tryz.prog a w K Q :=
 wp_load_mid ty x ho g k hx cs.toList d (fun j v hv=>hc j v (by rw [←Array.getElem?_toList]; exact hv)) hu hd (by rw [Array.length_toList]; exact hi) h
theorem wpList_load_part {ops:Array Oper} {rest:List Oper} {o:Oper} {a:Act} {w:World} {Q:Exit→Act→World→Prop} (hgd:o.guard=none) (ty:TypeId) (x:Operand) (ho:o.op=.load ty x) (g k:Nat) (hx:a.eval x=.pointer (some ⟨g,k,none⟩)) (cs:Array Value)
  (hc:∀ j v,cs[j]?=some v→w.cell? ⟨g,k+j,none⟩=some v) (d:TypeDesc) (hu:Tryz.prog.underlying ty=some d) (hd:d.isRow=true) (hi:(Tryz.prog.info? ty).map (·.size)=some cs.size) (h:wpList Tryz.prog ops Q rest (a.put o.dst (.agg cs)) w):wpList Tryz.prog ops Q (o :: rest) a w :=
 wpList_plain hgd fun _ hK=>wp_load_part ty x ho g k hx cs hc d hu hd hi (hK _ _ h)
theorem part_l {w:World} {g:Nat} {ca cb:Array Value} {t:TypeId} {fr:Nat×Nat} (hb:w.heap[g]?=some (.cells (ca ++ cb) t fr)):∀ j v,ca[j]?=some v→w.cell? ⟨g,0+j,none⟩=some v:=by
 intro j v hv
 have hj:j < ca.size:=by
  rcases Nat.lt_or_ge j ca.size with h | h
  ·exact h
  ·rw [Array.getElem?_eq_none h] at hv; cases hv
 rw [cell_blk hb,Nat.zero_add,Array.getElem?_append_left hj];exact hv
theorem part_r {w:World} {g:Nat} {ca cb:Array Value} {t:TypeId} {fr:Nat×Nat} (hb:w.heap[g]?=some (.cells (ca ++ cb) t fr)) (ha:ca.size=12):∀ j v,cb[j]?=some v→w.cell? ⟨g,12+j,none⟩=some v:=by
 intro j v hv;rw [cell_blk hb,Array.getElem?_append_right (by omega),show 12+j - ca.size=j by omega];exact hv
def Mn.bs (lo n:Nat) (cs:Array Value) (t:TypeId):Mn:=⟨fun v w=>∃ b,v=.slice (some ⟨b,0,none⟩) n n∧lo≤b∧w.heap[b]?=some (.cells cs t (0,0)),fun e h=>by
 obtain⟨b,h0,h1,h2⟩:=h
 exact⟨b,h0,h1,e.block h2⟩⟩
theorem GrowC.ls {N base g n cap:Nat} {w:World} {cs:Array Value} {R:Nat→Raw} (h:GrowC base w (.slice (some ⟨g,0,none⟩) n cap) n cs.toList) (hN:N≤base) (hR:∀ i,i < n→ArV N w cs (i*4) (R i)):LsR N 0 w.heap.size w (.slice (some ⟨g,0,none⟩) n cap) n R:=by
 obtain⟨hb0,-,⟨h0,-⟩ | ⟨g',cap',cur,hv,hb,hh,h1,h2,h3,h4⟩⟩:=h
 ·cases h0
 ·injection hv with hv1 hv2 hv3
  injection hv1 with hv1
  injection hv1 with hv1
  subst hv1 hv3
  have hcur:∀ (j:Nat) (x:Value),cs[j]?=some x→cur[j]?=some x:=by
   intro j x hx;rw [←Array.getElem?_toList,←h4,List.getElem?_take] at hx
   split at hx
   ·rw [←Array.getElem?_toList]; exact hx
   ·cases hx
  refine⟨by omega,Nat.le_refl _,_,_,rfl,h1,h2,fun _=>⟨g,0,rfl,Nat.zero_le _,blk_lt hh,fun i hi=>?_⟩⟩;obtain⟨s,t,k1,k2,k3,k4,k5,k6⟩:=hR i hi
  have:ArV N w cur (0+i*4) (R i):=by
   rw [Nat.zero_add];exact⟨s,t,hcur _ _ k1,hcur _ _ k2,hcur _ _ k3,hcur _ _ k4,k5,k6⟩
  exact this.at4 hh
def r6 (Ra Rb:Nat→Raw) (i:Nat):Raw:=if i < 3 then Ra i else Rb (i - 3)
def r7 (Ra Rb:Nat→Raw) (R:Raw) (i:Nat):Raw:=if i < 6 then r6 Ra Rb i else R
theorem ar6 {N:Nat} {w:World} {ca cb:Array Value} {Ra Rb:Nat→Raw} (ha:PtA N w ca Ra) (hb:PtA N w cb Rb) (i:Nat) (hi:i < 6):ArV N w (ca ++ cb) (i*4) (r6 Ra Rb i):=by
 have sa:=ha.size;unfold r6
 split
 ·rename_i h3
  have h:=(ha.pt i h3).shift (cs':=ca ++ cb) (o:=0) h3 (fun k hk=>by rw [Nat.zero_add,Array.getElem?_append_left (by omega)]);rw [Nat.zero_add] at h;exact h
 ·have h:=(hb.pt (i - 3) (by omega)).shift (cs':=ca ++ cb) (o:=12) (by omega) (fun k hk=>by rw [Array.getElem?_append_right (by omega)]; congr 1; omega);rw [show 12+(i - 3)*4=i*4 by omega] at h;exact h
theorem r6_l {Ra Rb:Nat→Raw} {i:Nat} (h:i < 3):r6 Ra Rb i=Ra i:=if_pos h
theorem r6_r {Ra Rb:Nat→Raw} {i:Nat}:r6 Ra Rb (i+3)=Rb i:=by
 unfold r6;rw [if_neg (by omega),show i+3 - 3=i by omega]
theorem r6_all {p:Raw→Prop} {Ra Rb:Nat→Raw}:(∀ i,i < 6→p (r6 Ra Rb i))↔(∀ i,i < 3→p (Ra i))∧(∀ i,i < 3→p (Rb i)):=by
 constructor
 ·intro h;exact⟨fun i hi=>by have:=h i (by omega); rw [r6_l hi] at this; exact this,fun i hi=>by have:=h (i+3) (by omega); rw [r6_r] at this; exact this⟩
 ·rintro⟨h1,h2⟩ i hi;unfold r6
  split
  ·exact h1 i (by assumption)
  ·exact h2 (i - 3) (by omega)
theorem bool_iff {x y:Bool} (h:x=true↔y=true):x=y:=by
 cases x <;> cases y <;> simp_all
theorem code_chk6 {G:Grd} {Ra Rb R:Nat→Raw}:code49 G 6 (r6 Ra Rb)=chk G Ra Rb 0 R:=by
 unfold code49 chk
 have e:allB 6 (fun i=>okR (r6 Ra Rb i))=(allB 3 (fun i=>okR (Ra i)) && (allB 3 (fun i=>okR (Rb i)) && allB 0 (fun i=>okR (R i)))):=by
  refine bool_iff ?_;rw [Bool.and_eq_true,Bool.and_eq_true,allB_true,allB_true,allB_true,allB_true,r6_all (p:=fun r=>okR r=true)];exact⟨fun ⟨h1,h2⟩=>⟨h1,h2,fun i hi=>absurd hi (by omega)⟩,fun ⟨h1,h2,_⟩=>⟨h1,h2⟩⟩
 rw [e]
theorem chk_parts {G:Grd} {Ra Rb R:Nat→Raw} {k:Nat} (h:chk G Ra Rb k R=0):grdCode G=0∧(∀ i,i < 3→okR (Ra i)=true)∧(∀ i,i < 3→okR (Rb i)=true)∧(∀ i,i < k→okR (R i)=true):=by
 unfold chk at h
 split at h
 ·rename_i h0; exact absurd h h0
 ·rename_i h0
  split at h
  ·rename_i h1
   rw [Bool.and_eq_true,Bool.and_eq_true,allB_true,allB_true,allB_true] at h1;exact⟨by simpa using h0,h1.1,h1.2.1,h1.2.2⟩
  ·cases h
theorem few49_all {G:Grd} {k:Nat} {R:Nat→Raw} (h:few49 G k R=true):∀ i,i < k→briefB (R i)=true:=by
 unfold few49 at h;rw [Bool.and_eq_true] at h;exact allB_true.1 h.2
theorem raws_of {Ra:Nat→Raw} (h:∀ i,i < 3→okR (Ra i)=true):∃ a:Nat→Rat,∀ i,i < 3→Ra i=raw (a i):=⟨fun i=>ratOf (Ra i),fun i hi=>raw_ratOf (h i hi)⟩
theorem PtA.congr {N:Nat} {w:World} {cs:Array Value} {R R':Nat→Raw} (h:PtA N w cs R) (e:∀ i,i < 3→R i=R' i):PtA N w cs R':=⟨fun i hi=>by rw [←e i hi]; exact h.pt i hi,h.size,h.one⟩
theorem sok_of {G:Grd} {a b:Nat→Rat} (hg:grdCode G=0) (ha:∀ i,i < 3→briefB (raw (a i))=true) (hb:∀ i,i < 3→briefB (raw (b i))=true):SOk G 17 a b :=
 ⟨grd_ok hg,fun i hi=>brief_ht (ha i hi),fun i hi=>brief_ht (hb i hi),fun i hi=>brief_bd (ha i hi),fun i hi=>brief_bd (hb i hi)⟩
theorem info_rat4:(Tryz.prog.info? 29).map (·.size)=some 4:=by kernel_rfl
def IzB (w:World) (g cap n:Nat) (z:Nat→Int):Prop :=
 ∃ cs,w.heap[g]?=some (.cells cs 3 (0,0))∧cs.size=cap∧n≤cap∧cap≤maxLen∧∀ k,k < n→cs[k]?=some (.int .i64 (z k))
theorem IzB.cell {w:World} {g cap n:Nat} {z:Nat→Int} (h:IzB w g cap n z) {k:Nat} (hk:k < n):w.cell? ⟨g,k,none⟩=some (.int .i64 (z k)):=by
 obtain⟨cs,h1,h2,h3,h4,h5⟩:=h;rw [cell_blk h1];exact h5 k hk
theorem IzB.frozen {w:World} {g cap n:Nat} {z:Nat→Int} (h:IzB w g cap n z) (k:Nat):w.frozen? ⟨g,k,none⟩=false:=by
 obtain⟨cs,h1,-⟩:=h;simp [World.frozen?,h1]
theorem IzB.lt {w:World} {g cap n:Nat} {z:Nat→Int} (h:IzB w g cap n z):g < w.heap.size:=by
 obtain⟨cs,h1,-⟩:=h;exact blk_lt h1
theorem IzB.noU {w:World} {g cap n:Nat} {z:Nat→Int} (h:IzB w g cap n z):NoU w g:=by
 obtain⟨cs,h1,-⟩:=h;exact NoU.mk h1 (by decide)
theorem IzB.ext {w w':World} {g cap n:Nat} {z:Nat→Int} (h:IzB w g cap n z) (e:Ext w w'):IzB w' g cap n z:=by
 obtain⟨cs,h1,h2⟩:=h;exact⟨cs,e.block h1,h2⟩
theorem IzB.congr {w:World} {g cap n:Nat} {z z':Nat→Int} (h:IzB w g cap n z) (e:∀ k,k < n→z k=z' k):IzB w g cap n z':=by
 obtain⟨cs,h1,h2,h3,h4,h5⟩:=h;exact⟨cs,h1,h2,h3,h4,fun k hk=>by rw [←e k hk]; exact h5 k hk⟩
theorem IzB.set {w:World} {g cap n:Nat} {z:Nat→Int} (h:IzB w g cap n z) {k:Nat} (hk:k < n) (u:Int):∃ w',w.setCell ⟨g,k,none⟩ (.int .i64 u)=w'∧Upd g w w'∧IzB w' g cap n (fun j=>if j=k then u else z j):=by
 obtain⟨cs,h1,h2,h3,h4,h5⟩:=h;refine⟨_,rfl,(Upd.refl g w).set k _,_,heap_set h1 k (.int .i64 u),?_,h3,h4,fun j hj=>?_⟩
 ·simp [h2]
 ·show _=some (Value.int .i64 (if j=k then u else z j))
  rw [Array.getElem?_setIfInBounds]
  by_cases e:j=k
  ·subst e;rw [if_pos rfl,if_pos (by omega),if_pos rfl]
  ·rw [if_neg (fun h=>e h.symm),if_neg e];exact h5 j hj
theorem IzB.iz {N w g cap n} {z:Nat→Int} (h:IzB w g cap n z):IzV N 0 0 w (.slice (some ⟨g,0,none⟩) n cap) n z:=by
 have hc:=h;obtain⟨cs,h1,h2,h3,h4,h5⟩:=h;exact⟨rfl,_,cap,rfl,h3,h4,fun _=>⟨g,0,rfl,fun i hi=>by rw [Nat.zero_add]; exact hc.cell hi⟩⟩
def RetCloneI (w:World) (n:Nat) (z:Nat→Int) (e:Ending) (w':World):Prop :=
 ∃ g cap,e=.returned (.slice (some ⟨g,0,none⟩) n cap)∧w.heap.size≤g∧IzB w' g cap n z∧Ext w w'
theorem sl_cloneI {N lo hi:Nat} {w:World} {v:Value} {n:Nat} {z:Nat→Int} (h:IzV N lo hi w v n z) (hn0:0 < n) (hn:n < 1000000) :
  Calls Tryz.prog 21 #[v] w (RetCloneI w n z):=by
 obtain⟨Rf,hRf⟩:=hid_eq (RetCloneI w n z);rw [←hRf.out];obtain⟨A1,c1,rfl,hmc,hcm⟩:=h.form;obtain⟨-,A2,c2,hv,-,-,hz⟩:=h;injection hv with hv1 hv2 hv3
 subst hv1;obtain⟨b,off,rfl,hcell⟩:=hz hn0;clear hv2 hv3 hz;have hnl:=fun (w:World) (a:Option Addr) (n c:Nat)=>Lib.run_eql_slice_nil (P:=Tryz.prog) w 22 3 a n c 0 0 Tryz.underlying22
 go_enter Tryz.func21,Tryz.ntmps21;go_wp2_with (at_builtin; refine Hid.out ?_);refine boxes1 ?_;intro W hE hsz B0;refine wpList_append_o one_int rfl _ _ 22 Tryz.underlying22 rfl (by rfl) (GrowO.empty (Nat.le_refl _) B0) (by rfl) (news:=(List.range n).map (fun k=>.int .i64 (z k))) (by simp) (fun j u hj=>?_) (fun u hu=>?_) hn0 (by simp; omega) ?_
 ·simp only [List.getElem?_map,Option.map_eq_some_iff,List.getElem?_range'] at hj;obtain⟨k,hk,rfl⟩:=hj
  have hjn:j < n:=by
   rcases Nat.lt_or_ge j n with h9 | h9
   ·exact h9
   ·rw [List.getElem?_eq_none (by simpa using h9)] at hk; cases hk
  rw [List.getElem?_range hjn] at hk;injection hk with hk
  subst hk;exact hE.cell (hcell j hjn)
 ·obtain⟨k,-,rfl⟩:=List.mem_map.1 hu
  rfl
 rintro g cap w2 hG - ⟨g',hg',-,C2,-⟩;have hE2:=C2.ext hE (by omega);obtain⟨g1,cap1,hv,hg,hgl,hcm1,hnc,⟨cs,hcs,hcz⟩,hel⟩:=hG.at_ (by simp; omega);injection hv with e1 e2 e3
 injection e1 with e1
 injection e1 with e1
 subst e1 e3;simp only [List.nil_append,List.length_map,List.length_range,List.length_nil,Nat.zero_add] at hnc hel hG ⊢
 have hB:IzB w2 g cap n z:=⟨cs,hcs,hcz,hnc,hcm1,fun k hk=>by
  have h9:=hel k hk;rw [cell_blk hcs] at h9;rw [h9]
  simp⟩
 go_wp2
 first | go_ret | skip
 rw [hRf.out];exact⟨g,cap,rfl,by omega,hB,hE2⟩
theorem gc_ls {N lo n:Nat} {w:World} {v:Value} {cs:Array Value} {R:Nat→Raw} (h:Mn.p (Mn.gc lo n cs.toList) v w) (hN:N≤lo) (hR:∀ i,i < n→ArV N w cs (i*4) (R i)):LsR N 0 w.heap.size w v n R:=by
 obtain⟨g,cap,rfl,h1⟩:=h;exact h1.ls hN hR
theorem blk_free {w:World} {g:Nat} {cs:Array Value} {t:TypeId} (h:w.heap[g]?=some (.cells cs t (0,0))) (k:Nat):w.frozen? ⟨g,k,none⟩=false:=by simp [World.frozen?,h]
theorem IzB.chg {w w':World} {g cap n l u:Nat} {z:Nat→Int} (h:IzB w g cap n z) (c:Chg l u w w') (hd:g < l∨u≤g):IzB w' g cap n z:=by
 obtain⟨cs,h1,h2⟩:=h;exact⟨cs,c.blk h1 hd,h2⟩
def mixI (x y:Nat→Int) (i j:Nat):Int:=if j < i then x j else y j
theorem mix_step {f z z':Nat→Int} {i:Nat} (h:∀ j,j≠i→z' j=mixI f z i j) (hu:z' i=f i) (j:Nat):z' j=mixI f z (i+1) j:=by
 by_cases e:j=i
 ·subst e;rw [hu];unfold mixI;rw [if_pos (by omega)]
 ·rw [h j e];unfold mixI
  by_cases hj:j < i
  ·rw [if_pos hj,if_pos (by omega)]
  ·rw [if_neg hj,if_neg (by omega)]
theorem mix_set {f z y:Nat→Int} {i:Nat} {u:Int} (h:∀ j,j≠i→y j=mixI f z i j) (hu:u=f i) (j:Nat):(fun j=>if j=i then u else y j) j=mixI f z (i+1) j :=
 mix_step (z':=fun j=>if j=i then u else y j) (fun j hj=>(if_neg hj).trans (h j hj)) ((if_pos rfl).trans hu) j
def EnUp (N:Nat) (w:World) (b i:Nat) (p:Nat→Rat):Prop :=
 ∃ cs,w.heap[b]?=some (.cells cs 44 (0,0))∧cs.size=24∧cs.toList.all (·.oneCell')=true∧∀ j,j < i→ArV N w cs (j*4) (raw (p j))
theorem EnUp.ext {N:Nat} {w w':World} {b i:Nat} {p:Nat→Rat} (h:EnUp N w b i p) (e:Ext w w'):EnUp N w' b i p:=by
 obtain⟨cs,h1,h2,h3,h4⟩:=h;exact⟨cs,e.block h1,h2,h3,fun j hj=>(h4 j hj).ext e⟩
theorem EnUp.lt {N:Nat} {w:World} {b i:Nat} {p:Nat→Rat} (h:EnUp N w b i p):b < w.heap.size:=by
 obtain⟨cs,h1,-⟩:=h;exact blk_lt h1
theorem EnUp.there {N:Nat} {w:World} {b i:Nat} {p:Nat→Rat} (h:EnUp N w b i p) {o:Nat} (ho:o < 24):∃ u,w.cell? ⟨b,o,none⟩=some u:=by
 obtain⟨cs,h1,h2,-⟩:=h;rw [cell_blk h1];exact⟨_,Array.getElem?_eq_getElem (by omega)⟩
theorem EnUp.frozen {N:Nat} {w:World} {b i:Nat} {p:Nat→Rat} (h:EnUp N w b i p) (o:Nat):w.frozen? ⟨b,o,none⟩=false:=by
 obtain⟨cs,h1,-⟩:=h;simp [World.frozen?,h1]
theorem EnUp.set {N:Nat} {w:World} {b i o:Nat} {p:Nat→Rat} (h:EnUp N w b i p) (hi:i < 6) (ho:o=i*4) (hN:N≤b) {neg:Bool} {s t:Value} (hneg:Hid (neg=decide ((p i).num < 0))) (hs:Gs N w s (dg (p i).num.natAbs)) (ht:Gs N w t (dg (p i).den)) :
  ∃ w',(((w.setCell ⟨b,o,none⟩ (.bool neg)).setCell ⟨b,o+1,none⟩ s).setCell ⟨b,o+2,none⟩ (.bool false)).setCell ⟨b,o+3,none⟩ t=w'∧Chg b (b+1) w w'∧w'.heap.size=w.heap.size∧EnUp N w' b (i+1) p:=by
 subst ho;obtain⟨cs,h1,h2,h3,h4⟩:=h;obtain⟨w',cs',e1,u,k1,k2,k3,k4,k5,k6,k7⟩:=st4 h1 (o:=i*4) (by omega) (.bool neg) s (.bool false) t;have hc:Chg b (b+1) w w':=u.chg (NoU.mk h1 (by decide));refine⟨w',e1,hc,u.size,cs',k1,by omega,?_,fun j hj=>?_⟩
 ·rw [one_get] at h3 ⊢;intro k v hv
  by_cases hk:k < i*4∨i*4+4≤k
  ·rw [k3 k hk] at hv; exact h3 k v hv
  ·have hk':k=i*4∨k=i*4+1∨k=i*4+2∨k=i*4+3:=by omega
   rcases hk' with rfl | rfl | rfl | rfl
   ·rw [k4] at hv; cases hv; rfl
   ·rw [k5] at hv; cases hv; exact ar_one hs
   ·rw [k6] at hv; cases hv; rfl
   ·rw [k7] at hv; cases hv; exact ar_one ht
 ·rcases Nat.lt_or_ge j i with hji | hji
  ·obtain⟨s',t',q1,q2,q3,q4,q5,q6⟩:=h4 j hji;exact⟨s',t',by rw [k3 _ (.inl (by omega))]; exact q1,by rw [k3 _ (.inl (by omega))]; exact q2,by rw [k3 _ (.inl (by omega))]; exact q3,by rw [k3 _ (.inl (by omega))]; exact q4,q5.chg hc hN,q6.chg hc hN⟩
  ·obtain rfl:j=i:=by omega
   exact⟨s,t,by rw [k4,hneg.out]; rfl,k5,k6,k7,hs.chg hc hN,ht.chg hc hN⟩
theorem EnUp.split {N:Nat} {w:World} {b:Nat} {p:Nat→Rat} (h:EnUp N w b 6 p):∃ ca cb,w.heap[b]?=some (.cells (ca ++ cb) 44 (0,0))∧PtA N w ca (fun i=>raw (p i))∧PtA N w cb (fun i=>raw (p (i+3))):=by
 obtain⟨cs,h1,h2,h3,h4⟩:=h;have hl:cs.toList.length=24:=by rw [Array.length_toList]; exact h2
 have e:(cs.toList.take 12).toArray ++ (cs.toList.drop 12).toArray=cs:=by
  rw [List.append_toArray,List.take_append_drop,Array.toArray_toList]
 have all0:∀ l:List Value,(∀ v,v∈l→v∈cs.toList)→l.all (·.oneCell')=true:=fun l hl=>List.all_eq_true.2 fun v hv=>List.all_eq_true.1 h3 v (hl v hv)
 refine⟨(cs.toList.take 12).toArray,(cs.toList.drop 12).toArray,by rw [e]; exact h1,⟨fun i hi=>?_,by simp [hl],all0 _ (fun v hv=>List.mem_of_mem_take hv)⟩,⟨fun i hi=>?_,by simp [hl],all0 _ (fun v hv=>List.mem_of_mem_drop hv)⟩⟩
 ·obtain⟨s,t,q1,q2,q3,q4,q5,q6⟩:=h4 i (by omega);rw [←Array.getElem?_toList] at q1 q2 q3 q4
  have k:∀ m v,m < 12→cs.toList[m]?=some v→(cs.toList.take 12).toArray[m]?=some v:=fun m v hm hv=>by
   rw [List.getElem?_toArray,List.getElem?_take,if_pos hm]; exact hv
  rw [Nat.zero_add];exact⟨s,t,k _ _ (by omega) q1,k _ _ (by omega) q2,k _ _ (by omega) q3,k _ _ (by omega) q4,q5,q6⟩
 ·obtain⟨s,t,q1,q2,q3,q4,q5,q6⟩:=h4 (i+3) (by omega);rw [←Array.getElem?_toList] at q1 q2 q3 q4
  have k:∀ m m' v,m'=12+m→cs.toList[m']?=some v→(cs.toList.drop 12).toArray[m]?=some v:=fun m m' v hm hv=>by
   rw [List.getElem?_toArray,List.getElem?_drop,←hm]; exact hv
  rw [Nat.zero_add];exact⟨s,t,k _ _ _ (by omega) q1,k _ _ _ (by omega) q2,k _ _ _ (by omega) q3,k _ _ _ (by omega) q4,q5,q6⟩
theorem set6s {w:World} {g:Nat} {t:TypeId} {y0 y1 y2 y3 y4 y5:Value} (hb:w.heap[g]?=some (.cells #[y0,y1,y2,y3,y4,y5] t (0,0))) (x0 x1 x5:Value):∃ w1,((w.setCell ⟨g,0,none⟩ x0).setCell ⟨g,1,none⟩ x1).setCell ⟨g,5,none⟩ x5=w1∧w1.heap[g]?=some (.cells #[x0,x1,y2,y3,y4,x5] t (0,0))∧Upd g w w1 :=
 ⟨_,rfl,by have h1:=heap_set (heap_set (heap_set hb 0 x0) 1 x1) 5 x5; simpa using h1,(((Upd.refl g w).set 0 x0).set 1 x1).set 5 x5⟩
def upZ (z b:Int):Int:=if z=noneZ then noneZ else z+b
def shG (G:Grd) (x y b:Int):Grd:=⟨G.x0+x*G.st,G.y0+y*G.st,G.st,G.wd,G.ht,G.n,fun j=>upZ (G.z j) b⟩
theorem sh_sh {G:Grd} (hg:GOk G) {x y b:Int} (hb : -128≤b∧b≤127):ShG G (shG G x y b) x y b:=by
 refine⟨rfl,rfl,rfl,rfl,rfl,fun k hk=>?_⟩
 show (G.z k=noneZ∧upZ (G.z k) b=noneZ)∨(G.z k≠noneZ∧upZ (G.z k) b≠noneZ∧upZ (G.z k) b=G.z k+b)
 unfold upZ
 by_cases h:G.z k=noneZ
 ·rw [if_pos h]; exact .inl ⟨h,rfl⟩
 ·rw [if_neg h];refine .inr ⟨h,?_,rfl⟩
  rcases hg.z k hk with h9 | h9
  ·exact absurd h9 h
  ·unfold noneZ; omega
def mvP (a b d:Nat→Rat) (j:Nat):Rat:=(if j < 3 then a j else b (j - 3))+d (j % 3)
theorem mvP_l {a b d:Nat→Rat} {i:Nat} (h:i < 3):mvP a b d i=a i+d i:=by unfold mvP; rw [if_pos h,Nat.mod_eq_of_lt h]
theorem mvP_r {a b d:Nat→Rat} {i:Nat} (h:i < 3):mvP a b d (i+3)=b i+d i:=by
 unfold mvP;rw [if_neg (by omega),Nat.add_sub_cancel,Nat.add_mod_right,Nat.mod_eq_of_lt h]
theorem r6_raw (a b:Nat→Rat) (j:Nat):r6 (fun i=>raw (a i)) (fun i=>raw (b i)) j=raw (if j < 3 then a j else b (j - 3)):=by
 unfold r6
 split <;> rfl
theorem brief_bd2 {q:Rat} (h:briefB (raw q)=true) : -131072≤q∧q≤131072:=by
 obtain⟨h1,h2⟩:=brief_ht h;have h5:(2:Nat) ^ 17=131072:=by decide
 have hd:=q.den_pos;have c1:((131072:Int):Rat)=131072:=rfl;have c2:((-131072:Int):Rat) = -131072:=rfl;rw [←c2,←c1,Rat.le_iff,Rat.le_iff];simp only [Rat.num_intCast,Rat.den_intCast]
 constructor <;> omega
theorem int_bd {n:Int} (h : -8388608≤n∧n≤8388608):(-8388608:Rat)≤(n:Rat)∧(n:Rat)≤8388608:=by
 have c1:((8388608:Int):Rat)=8388608:=rfl;have c2:((-8388608:Int):Rat) = -8388608:=rfl;rw [←c2,←c1];exact⟨le_cast h.1,le_cast h.2⟩
theorem sp3_all {P:Rat→Prop} {x y z:Int} (hx:P (x:Rat)) (hy:P (y:Rat)) (hz:P (z:Rat)) (i:Nat):P (sp3 x y z i):=by
 unfold sp3
 split
 ·exact hx
 ·split
  ·exact hy
  ·exact hz
theorem ht_small {n:Int} (h : -8388608≤n∧n≤8388608):Ht 24 (n:Rat):=ht_int (by omega) (by omega)
theorem mv_sok {G H:Grd} {a b p:Nat→Rat} {x y z:Int} (hH:grdCode H=0) (h:SOk G 17 a b) (ha:∀ i,i < 3→briefB (raw (a i))=true) (hb:∀ i,i < 3→briefB (raw (b i))=true) (hx : -8388608≤x∧x≤8388608) (hy : -8388608≤y∧y≤8388608) (hz : -8388608≤z∧z≤8388608) (hp:p=mvP a b (sp3 x y z)):SOk H 60 p (fun i=>p (i+3)):=by
 subst hp;have k1:∀ i,Ht 24 (sp3 x y z i):=sp3_all (ht_small hx) (ht_small hy) (ht_small hz);have k2:∀ i,(-8388608:Rat)≤sp3 x y z i∧sp3 x y z i≤8388608:=sp3_all (P:=fun q=>(-8388608:Rat)≤q∧q≤8388608) (int_bd hx) (int_bd hy) (int_bd hz);refine⟨grd_ok hH,fun i hi=>?_,fun i hi=>?_,fun i hi=>?_,fun i hi=>?_⟩
 ·rw [mvP_l hi]; exact ((h.ka i hi).add (k1 i)).mono (by omega)
 ·show Ht 60 (mvP a b (sp3 x y z) (i+3)); rw [mvP_r hi]; exact ((h.kb i hi).add (k1 i)).mono (by omega)
 ·rw [mvP_l hi];have:=brief_bd2 (ha i hi);have:=k2 i
  constructor <;> grind
 ·show -100000000≤mvP a b (sp3 x y z) (i+3)∧mvP a b (sp3 x y z) (i+3)≤100000000
  rw [mvP_r hi];have:=brief_bd2 (hb i hi);have:=k2 i
  constructor <;> grind
end Go.Proofs.YtphpkhoeplcedaaGreat
