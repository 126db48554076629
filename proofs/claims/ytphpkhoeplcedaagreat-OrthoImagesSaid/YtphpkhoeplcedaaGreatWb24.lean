import Derived.Test.YtphpkhoeplcedaaGreatWb20
import Derived.Deep.MidRow
import Derived.Deep.Slices
import Derived.Deep.Strs
import Derived.Lib.SmallJoins
import Derived.ProofKit
import Derived.OpenShut
import Derived.Below
import Derived.WideKeyPair
set_option linter.all false
set_option maxHeartbeats 8000000
namespace Go.Proofs.YtphpkhoeplcedaaGreat
open Go.RowKit Go.ChangeShapes Go.ChangeAt
variable {n i base:Nat} {v:Value}
theorem q0l:Tryz.prog.cellsOf 27=2:=by kernel_rfl
theorem q0i:Tryz.prog.cellsOf 29=4:=by kernel_rfl
theorem Vz:Tryz.prog.cellsOf 4=1:=by kernel_rfl
theorem q0h:Tryz.prog.cellsOf 152=1:=by kernel_rfl
theorem Vw:Tryz.prog.cellsOf 25=1:=by kernel_rfl
section
variable {H:Type} {enc:TypeId×Value->H} {w:World} {spare:Nat->Bool} {held:Bool}
instance:Inhabited Raw:=⟨⟨false,[],false,[]⟩⟩
theorem VT (a:Addr) (h:w.cell? (a.add 0)=some v):a=⟨a.block,a.off,none⟩:=by
 obtain⟨b,off,spot⟩:=a;have hs:=World.cell?_spot h;have h2:spot=none:=by simpa [Addr.add] using hs
 subst h2; rfl
theorem Zo {x:DataW H×List MemPlace} (h:DataW.trod enc Tryz.prog w 0 spare held n 25 [v]=some x):∃ l,Gs w.heap.size w v l:=by
 rcases Go.Deep.open_slice1 Tryz.underlying25 q0h h with ⟨hcs,-⟩ | ⟨a,len,cap,m,n',V,D,Pl,hcs,-,hl,hm,hmm,-,hx⟩
 ·simp only [List.cons.injEq,and_true] at hcs;subst hcs;exact⟨[],Gs.nil (q_r) _ (Nat.zero_le _)⟩
 ·simp only [List.cons.injEq,and_true] at hcs;subst hcs;have hlm:len<=m:=by rw [hmm]; split <;> omega
  have hv:∀ i,i < len->∃ z:Nat,V i=.int .u32 (z:Int)/\z < 4294967296:=fun i hi=>by
   obtain⟨-,h2⟩:=hx i (by omega);obtain⟨z,hz,-,hw⟩:=DataW.trod_int Tryz.underlying152 h2;simp only [List.cons.injEq,and_true] at hz;have hb:=bounds_u32 hw;exact⟨z.toNat,by rw [hz]; congr 1; omega,by omega⟩
  obtain⟨f,hf⟩:=Go.Deep.choose_lt (α:=Nat) hv;refine⟨(List.range len).map f,q_r,_,len,cap,rfl,by simp,hl,hm,fun y hy=>?_,fun h0=>?_⟩
  ·obtain⟨i,hi,rfl⟩:=List.mem_map.1 hy;exact (hf i (by simpa using hi)).2
  ·have h1:=(hx 0 (by omega)).1;have ha:=VT a h1;refine⟨a.block,a.off,by rw [<-ha],⟨?_,.inl ?_⟩,fun i hi=>?_⟩
   ·rw [ha,KR] at h1; exact cell_lt (p:=⟨a.block,a.off+0,none⟩) h1
   ·rw [ha,KR] at h1; exact cell_lt (p:=⟨a.block,a.off+0,none⟩) h1
   ·have h2:=(hx i (by omega)).1;rw [ha,KR,(hf i hi).1] at h2;rw [h2];simp [hi]
theorem Jy {c0 c1 c2 c3:Value} {x:DataW H×List MemPlace} (h:DataW.trod enc Tryz.prog w 0 spare held n 29 [c0,c1,c2,c3]=some x) :
  ∃ R:Raw,c0=.bool R.b1/\c2=.bool R.b2/\Gs w.heap.size w c1 R.l1/\Gs w.heap.size w c3 R.l2:=by
 obtain⟨y0,y1,n1,-,-,h0,h1⟩:=trod_struct2 Tryz.underlying29 h;simp only [q0l,List.drop_zero,List.take_succ_cons,List.take_zero,List.drop_succ_cons] at h0 h1;obtain⟨z0,z1,n2,-,-,k0,k1⟩:=trod_struct2 Tryz.underlying27 h0;obtain⟨z2,z3,n3,-,-,k2,k3⟩:=trod_struct2 Tryz.underlying27 h1;simp only [Vz,Vw,List.drop_zero,List.take_succ_cons,List.take_zero,List.drop_succ_cons] at k0 k1 k2 k3;obtain⟨b1,e1,-⟩:=DataW.trod_bool Tryz.underlying4 k0;obtain⟨b2,e2,-⟩:=DataW.trod_bool Tryz.underlying4 k2;obtain⟨l1,g1⟩:=Zo k1;obtain⟨l2,g2⟩:=Zo k3;simp only [List.cons.injEq,and_true] at e1 e2;exact⟨⟨b1,l1,b2,l2⟩,e1,e2,g1,g2⟩
end
theorem own:ownKnob Tryz.prog.godebug=none:=by kernel_rfl
theorem laidOut:laidOutB Tryz.prog=true:=by kernel_rfl
end Go.Proofs.YtphpkhoeplcedaaGreat
set_option maxRecDepth 100000
namespace Go.Proofs.YtphpkhoeplcedaaGreat
open Go.ChangeShapes Go.WideShapes Go.ChangeAt Go.RowKit Go.Joins
variable {n i base:Nat} {v:Value}
theorem vN:Tryz.prog.cellsOf 3=1:=by kernel_rfl
section
variable {H:Type} {enc:TypeId×Value->H} {w:World} {spare:Nat->Bool} {held:Bool}
end
end Go.Proofs.YtphpkhoeplcedaaGreat
set_option maxRecDepth 100000
namespace Go.Proofs.YtphpkhoeplcedaaGreat
open Go.ChangeShapes Go.WideShapes Go.ChangeAt Go.RowKit Go.Joins
variable {n i base:Nat} {v:Value}
theorem Vx:Tryz.prog.cellsOf 63=3:=by kernel_rfl
theorem Vy:Tryz.prog.cellsOf 65=4:=by kernel_rfl
theorem q0k:Tryz.prog.cellsOf 67=2:=by kernel_rfl
section
variable {H:Type} {enc:TypeId×Value->H} {w:World} {spare:Nat->Bool} {held:Bool}
theorem X9 {c0 c1 c2:Value} {x:DataW H×List MemPlace} (h:DataW.trod enc Tryz.prog w 0 spare held n 63 [c0,c1,c2]=some x):∃ a b c:Int,c0=.int .i64 a/\c1=.int .i64 b/\c2=.int .i64 c:=by
 obtain⟨xs,m,-,-,-,hlen,hq⟩:=DataW.trod_struct Tryz.underlying63 h
 match xs,hlen with
 | [y0,y1,y2],_ =>
  have h0:DataW.trod enc Tryz.prog w 0 spare held m 3 (List.take (Tryz.prog.cellsOf 3) (List.drop 0 [c0,c1,c2]))=some y0:=hq 0 _ rfl;have h1:DataW.trod enc Tryz.prog w 0 spare held m 3 (List.take (Tryz.prog.cellsOf 3) (List.drop 1 [c0,c1,c2]))=some y1:=hq 1 _ rfl;have h2:DataW.trod enc Tryz.prog w 0 spare held m 3 (List.take (Tryz.prog.cellsOf 3) (List.drop 2 [c0,c1,c2]))=some y2:=hq 2 _ rfl;simp only [vN,List.drop_zero,List.take_succ_cons,List.take_zero,List.drop_succ_cons] at h0 h1 h2;obtain⟨z0,e0,-⟩:=DataW.trod_int Tryz.underlying3 h0;obtain⟨z1,e1,-⟩:=DataW.trod_int Tryz.underlying3 h1;obtain⟨z2,e2,-⟩:=DataW.trod_int Tryz.underlying3 h2;simp only [List.cons.injEq,and_true] at e0 e1 e2;exact⟨z0,z1,z2,e0,e1,e2⟩
theorem Xq {c0 c1 c2 c3:Value} {x:DataW H×List MemPlace} (h:DataW.trod enc Tryz.prog w 0 spare held n 65 [c0,c1,c2,c3]=some x):∃ a b c d:Int,c0=.int .i64 a/\c1=.int .i64 b/\c2=.int .i64 c/\c3=.int .i64 d:=by
 obtain⟨xs,m,-,-,-,hlen,hq⟩:=DataW.trod_struct Tryz.underlying65 h
 match xs,hlen with
 | [y0,y1,y2,y3],_ =>
  have h0:DataW.trod enc Tryz.prog w 0 spare held m 3 (List.take (Tryz.prog.cellsOf 3) (List.drop 0 [c0,c1,c2,c3]))=some y0:=hq 0 _ rfl;have h1:DataW.trod enc Tryz.prog w 0 spare held m 3 (List.take (Tryz.prog.cellsOf 3) (List.drop 1 [c0,c1,c2,c3]))=some y1:=hq 1 _ rfl;have h2:DataW.trod enc Tryz.prog w 0 spare held m 3 (List.take (Tryz.prog.cellsOf 3) (List.drop 2 [c0,c1,c2,c3]))=some y2:=hq 2 _ rfl;have h3:DataW.trod enc Tryz.prog w 0 spare held m 3 (List.take (Tryz.prog.cellsOf 3) (List.drop 3 [c0,c1,c2,c3]))=some y3:=hq 3 _ rfl;simp only [vN,List.drop_zero,List.take_succ_cons,List.take_zero,List.drop_succ_cons] at h0 h1 h2 h3;obtain⟨z0,e0,-⟩:=DataW.trod_int Tryz.underlying3 h0;obtain⟨z1,e1,-⟩:=DataW.trod_int Tryz.underlying3 h1;obtain⟨z2,e2,-⟩:=DataW.trod_int Tryz.underlying3 h2;obtain⟨z3,e3,-⟩:=DataW.trod_int Tryz.underlying3 h3;simp only [List.cons.injEq,and_true] at e0 e1 e2 e3;exact⟨z0,z1,z2,z3,e0,e1,e2,e3⟩
theorem JE {c0 c1:Value} {x:DataW H×List MemPlace} (h:DataW.trod enc Tryz.prog w 0 spare held n 67 [c0,c1]=some x):∃ a b:Int,c0=.int .i64 a/\c1=.int .i64 b:=by
 obtain⟨y0,y1,m,-,-,h0,h1⟩:=trod_struct2 Tryz.underlying67 h;simp only [vN,List.drop_zero,List.take_succ_cons,List.take_zero,List.drop_succ_cons] at h0 h1;obtain⟨z0,e0,-⟩:=DataW.trod_int Tryz.underlying3 h0;obtain⟨z1,e1,-⟩:=DataW.trod_int Tryz.underlying3 h1;simp only [List.cons.injEq,and_true] at e0 e1;exact⟨z0,z1,e0,e1⟩
theorem q2J {c0 c1 c2 c3 c4 c5 c6 c7 c8 c9:Value} {x:DataW H×List MemPlace} (h:DataW.trod enc Tryz.prog w 0 spare held n 69 [c0,c1,c2,c3,c4,c5,c6,c7,c8,c9]=some x) :
  ∃ S:Sta,c0=.int .i64 S.ax/\c1=.int .i64 S.ay/\c2=.int .i64 S.az/\c3=.int .i64 S.qa/\c4=.int .i64 S.qb/\c5=.int .i64 S.qc/\c6=.int .i64 S.qd/\c7=.int .i64 S.f/\c8=.int .i64 S.cx/\c9=.int .i64 S.cy:=by
 obtain⟨xs,m,-,-,-,hlen,hq⟩:=DataW.trod_struct Tryz.underlying69 h
 match xs,hlen with
 | [y0,y1,y2,y3],_ =>
  have h0:DataW.trod enc Tryz.prog w 0 spare held m 63 (List.take (Tryz.prog.cellsOf 63) (List.drop 0 [c0,c1,c2,c3,c4,c5,c6,c7,c8,c9]))=some y0:=hq 0 _ rfl;have h1:DataW.trod enc Tryz.prog w 0 spare held m 65 (List.take (Tryz.prog.cellsOf 65) (List.drop 3 [c0,c1,c2,c3,c4,c5,c6,c7,c8,c9]))=some y1:=hq 1 _ rfl;have h2:DataW.trod enc Tryz.prog w 0 spare held m 3 (List.take (Tryz.prog.cellsOf 3) (List.drop 7 [c0,c1,c2,c3,c4,c5,c6,c7,c8,c9]))=some y2:=hq 2 _ rfl;have h3:DataW.trod enc Tryz.prog w 0 spare held m 67 (List.take (Tryz.prog.cellsOf 67) (List.drop 8 [c0,c1,c2,c3,c4,c5,c6,c7,c8,c9]))=some y3:=hq 3 _ rfl;simp only [vN,Vx,Vy,q0k,List.drop_zero,List.take_succ_cons,List.take_zero,List.drop_succ_cons] at h0 h1 h2 h3;obtain⟨z0,z1,z2,e0,e1,e2⟩:=X9 h0;obtain⟨z3,z4,z5,z6,e3,e4,e5,e6⟩:=Xq h1;obtain⟨z7,e7,-⟩:=DataW.trod_int Tryz.underlying3 h2;obtain⟨z8,z9,e8,e9⟩:=JE h3;simp only [List.cons.injEq,and_true] at e7;exact⟨⟨z0,z1,z2,z3,z4,z5,z6,z7,z8,z9⟩,e0,e1,e2,e3,e4,e5,e6,e7,e8,e9⟩
instance:Inhabited Sta:=⟨⟨0,0,0,0,0,0,0,0,0,0⟩⟩
end
end Go.Proofs.YtphpkhoeplcedaaGreat
set_option maxRecDepth 100000
namespace Go.Proofs.YtphpkhoeplcedaaGreat
open Go.ChangeShapes Go.WideShapes Go.ChangeAt Go.RowKit Go.Joins
variable {n i base:Nat} {v:Value}
theorem q0j:Tryz.prog.cellsOf 43=12:=by kernel_rfl
theorem q2F:Tryz.prog.underlying 43=some (.array 3 29):=by kernel_rfl
theorem mapM_each {α β:Type} {f:α->Option β}:∀ {l:List α} {ys:List β},l.mapM f=some ys->∀ x,x∈l->∃ y,f x=some y
 | [],_,_,_,hx=>by cases hx
 | a :: l,ys,h,x,hx=>by
  rw [List.mapM_cons] at h;simp only [bind,Option.bind_eq_some_iff,pure,Option.some.injEq] at h;obtain⟨y,h0,ys',h1,-⟩:=h
  rcases List.mem_cons.1 hx with rfl | hx
  ·exact⟨y,h0⟩
  ·exact mapM_each h1 x hx
section
variable {H:Type} {enc:TypeId×Value->H} {w:World} {spare:Nat->Bool} {held:Bool}
theorem trod_array {fuel:Nat} {k e:TypeId} {cs:List Value} {x:DataW H×List MemPlace} (hu:Tryz.prog.underlying k=some (.array n e)) (h:DataW.trod enc Tryz.prog w base spare held fuel k cs=some x) :
  cs.length=Tryz.prog.cellsOf k/\∃ f,∀ i,i < n->∃ y,DataW.trod enc Tryz.prog w base spare held f e ((cs.drop (i*Tryz.prog.cellsOf e)).take (Tryz.prog.cellsOf e))=some y:=by
 cases fuel with
 | zero=>simp [DataW.trod] at h
 | succ f =>
  rw [DataW.trod_step] at h;unfold DataW.trodStep at h;simp only [hu] at h
  split at h
  ·rename_i hl
   simp only [Option.map_eq_some_iff] at h;obtain⟨xs,hx,-⟩:=h;exact⟨hl,f,fun i hi=>mapM_each hx i (List.mem_range.2 hi)⟩
  ·cases h
theorem q3y {l:List Value} (h:l.length=12) (hi:i < 3):∃ c0 c1 c2 c3,(l.drop (i*4)).take 4=[c0,c1,c2,c3]/\l[i*4]?=some c0/\l[i*4+1]?=some c1/\l[i*4+2]?=some c2/\l[i*4+3]?=some c3:=by
 match l,h with
 | [x0,x1,x2,x3,x4,x5,x6,x7,x8,x9,xa,xb],_ =>
  have hi':i=0\/i=1\/i=2:=by omega
  rcases hi' with rfl | rfl | rfl
  ·exact⟨_,_,_,_,rfl,rfl,rfl,rfl,rfl⟩
  ·exact⟨_,_,_,_,rfl,rfl,rfl,rfl,rfl⟩
  ·exact⟨_,_,_,_,rfl,rfl,rfl,rfl,rfl⟩
theorem q2W {fuel:Nat} {cs:List Value} {x:DataW H×List MemPlace} (h:DataW.trod enc Tryz.prog w 0 spare held fuel 43 cs=some x):∃ R:Nat->Raw,PtA w.heap.size w cs.toArray R:=by
 obtain⟨hl,f,hx⟩:=trod_array q2F h;rw [q0j] at hl
 have each:∀ i,i < 3->∃ R,ArV w.heap.size w cs.toArray (0+i*4) R:=by
  intro i hi;obtain⟨y,hy⟩:=hx i hi;obtain⟨c0,c1,c2,c3,e,k0,k1,k2,k3⟩:=q3y hl hi;rw [q0i,e] at hy;obtain⟨R,rfl,rfl,g1,g2⟩:=Jy hy;rw [Nat.zero_add];exact⟨R,c1,c3,by rw [List.getElem?_toArray]; exact k0,by rw [List.getElem?_toArray]; exact k1,by rw [List.getElem?_toArray]; exact k2,by rw [List.getElem?_toArray]; exact k3,g1,g2⟩
 obtain⟨R,hR⟩:=Go.Deep.choose_lt (α:=Raw) each;refine⟨R,hR,by simpa using hl,WA.2 fun k v hv=>?_⟩
 have hk:k < 12:=by
  rcases Nat.lt_or_ge k 12 with h9 | h9
  ·exact h9
  ·rw [Array.getElem?_eq_none (by simpa [hl] using h9)] at hv; cases hv
 obtain⟨s,t,h1,h2,h3,h4,h5,h6⟩:=hR (k / 4) (by omega);rw [Nat.zero_add] at h1 h2 h3 h4;have hk4:k=k / 4*4\/k=k / 4*4+1\/k=k / 4*4+2\/k=k / 4*4+3:=by omega
 rcases hk4 with e | e | e | e
 ·rw [e,h1] at hv; injection hv with hv; rw [<-hv]; rfl
 ·rw [e,h2] at hv; injection hv with hv; rw [<-hv]; exact YT h5
 ·rw [e,h3] at hv; injection hv with hv; rw [<-hv]; rfl
 ·rw [e,h4] at hv; injection hv with hv; rw [<-hv]; exact YT h6
end
end Go.Proofs.YtphpkhoeplcedaaGreat
