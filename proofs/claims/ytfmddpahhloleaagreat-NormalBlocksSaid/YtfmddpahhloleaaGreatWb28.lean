import Derived.Test.YtfmddpahhloleaaGreatWb22
import Derived.Deep.Slices
import Derived.Deep.Strs
import Derived.Lib.SmallJoins
import Derived.ProofKit
import Derived.OpenShut
import Derived.Below
import Derived.WideKeyPair
import Derived.MapKept
import Derived.ChangeKeysEq
import Derived.DeepKeys3
import Derived.OwnWalk
set_option linter.all false
set_option maxHeartbeats 8000000
set_option maxRecDepth 100000
namespace Go.Proofs.YtfmddpahhloleaaGreat
open Go.RowKit
variable {w w':World} {N n lo hi k g i m base c b j:Nat} {v s:Value} {l:List Nat} {q:Rat} {z:Int} {R:Raw} {A:Option Addr}
theorem VX (h:l.length<=1):val l=l[0]?.getD 0:=by
 rcases l with _ | ⟨x,l⟩
 ·rfl
 ·have h2:l=[]:=List.eq_nil_of_length_eq_zero (by simpa using h);subst h2;simp [val]
theorem q2D (h:kJ R=true):R.l1.length<=1/\R.l2.length<=1:=by
 unfold kJ at h;simp only [Bool.and_eq_true,decide_eq_true_eq] at h;exact⟨h.1.1.1,h.1.1.2⟩
theorem X3 (h:kJ (raw q)=true):Ht 17 q:=by
 unfold kJ raw at h;simp only [Bool.and_eq_true,decide_eq_true_eq] at h;obtain⟨⟨⟨h1,h2⟩,h3⟩,h4⟩:=h;rw [<-VX h1,qF] at h3;rw [<-VX h2,qF] at h4;have h5:(2:Nat) ^ 17=131072:=by decide
 exact⟨by omega,by omega⟩
theorem vF (h:kJ R=true):xW R/\q61 R:=by
 obtain⟨h1,h2⟩:=q2D h;exact⟨⟨by omega,by omega⟩,⟨by omega,by omega⟩⟩
def zX (R:Raw):Rat:=Rat.divInt (jZ R.b1 R.l1) (jZ R.b2 R.l2)
theorem xO (q:Rat):zX (raw q)=q:=by
 unfold zX raw;have h4:jZ false (dg q.den)=(q.den:Int):=by unfold jZ; rw [qF]; simp
 simp only [vN,h4];exact Rat.num_divInt_den q
theorem zY (h:okR R=true):R=raw (zX R):=by
 obtain⟨q,rfl⟩:=Ym h;rw [xO]
structure q3w (Z:Lin) (n:Nat) (X:Nat->Nat->Rat) (y p:Nat->Rat):Prop where
 m0:0 < Z.m
 m6:Z.m<=6
 n0:0 < n
 n4:n<=4
 L:∀ i,i < Z.m->Z.L i=n
 eA:∀ i,i < Z.m->∀ j,j < n->Z.A i j=raw (X i j)
 nl:Z.nl=Z.m
 el:∀ i,i < Z.m->Z.l i=raw (y i)
 np:Z.np=Z.m
 ep:∀ i,i < Z.m->Z.p i=raw (p i)
 pos:∀ i,i < Z.m->0 < p i
 hX:HtM Z.m n 17 X
 hy:HtL Z.m 17 y
 hp:HtL Z.m 17 p
theorem q3U (h:0 < q.num):0 < q:=by
 rw [Rat.lt_iff];simpa using h
theorem q0L {Z:Lin} (h:codeOf Z=0):jK Z=true/\zW Z=true/\vJ Z=true/\allB Z.np (fun i=>QF (Z.p i))=true:=by
 unfold codeOf at h
 by_cases h1:jK Z=false
 ·rw [if_pos h1] at h; exact absurd h (by decide)
 rw [if_neg h1] at h
 by_cases h2:zW Z=false
 ·rw [if_pos h2] at h; exact absurd h (by decide)
 rw [if_neg h2] at h
 by_cases h3:vJ Z=false
 ·rw [if_pos h3] at h; exact absurd h (by decide)
 rw [if_neg h3] at h
 by_cases h4:allB Z.np (fun i=>QF (Z.p i))=false
 ·rw [if_pos h4] at h; exact absurd h (by decide)
 exact⟨by simpa using h1,by simpa using h2,by simpa using h3,by simpa using h4⟩
theorem q3w.mem {Z:Lin} {X:Nat->Nat->Rat} {y p:Nat->Rat} (f:q3w Z n X y p) {A1 A2 A3:Option Addr} {c1 c2 c3:Nat} (h1:MtR N lo hi w (.slice A1 Z.m c1) Z.m Z.L Z.A) (h2:LsR N lo hi w (.slice A2 Z.nl c2) Z.nl Z.l) (h3:LsR N lo hi w (.slice A3 Z.np c3) Z.np Z.p) :
  MtV N lo hi w (.slice A1 Z.m c1) Z.m n X/\LsV N lo hi w (.slice A2 Z.m c2) Z.m y/\LsV N lo hi w (.slice A3 Z.m c3) Z.m p:=by
 refine⟨MtR.congr h1 f.L (fun i hi j hj=>f.eA i hi j (by rw [<-f.L i hi]; exact hj)),?_,?_⟩
 ·rw [f.nl] at h2; exact LsR.congr h2 f.el
 ·rw [f.np] at h3; exact LsR.congr h3 f.ep
theorem Jm {most:Nat} {R:Nat->Raw} (h:shB most n R=true):n<=most/\∀ i,i < n->kJ (R i)=true:=by
 unfold shB at h;rw [Bool.and_eq_true,decide_eq_true_eq,qg] at h;exact h
theorem XW {r:Nat} {Z:Lin} (h:VB r c Z=true):Z.m<=r/\(∀ i,i < Z.nl->kJ (Z.l i)=true)/\(∀ i,i < Z.np->kJ (Z.p i)=true)/\∀ i,i < Z.m->Z.L i<=c/\∀ j,j < Z.L i->kJ (Z.A i j)=true:=by
 unfold VB at h;rw [Bool.and_eq_true,Bool.and_eq_true,Bool.and_eq_true,decide_eq_true_eq,qg] at h;obtain⟨h1,h2,h3,h4⟩:=h;exact⟨h1,(Jm h2).2,(Jm h3).2,fun i hi=>Jm (h4 i hi)⟩
theorem few34_sz {r:Nat} {Z:Lin} (h:VB r c Z=true):Z.m<=r/\q1h Z/\∀ i,i < Z.np->q61 (Z.p i):=by
 obtain⟨h1,h2,h3,h4⟩:=XW h;exact⟨h1,⟨fun i hi j hj=>(vF ((h4 i hi).2 j hj)).1,fun i hi=>(vF (h2 i hi)).1,fun i hi=>(vF (h3 i hi)).1⟩,fun i hi=>(vF (h3 i hi)).2⟩
structure FewG (r c:Nat) (Z:Lin) (n:Nat) (X:Nat->Nat->Rat) (y p:Nat->Rat):Prop where
 m0:0 < Z.m
 mr:Z.m<=r
 n0:0 < n
 nc:n<=c
 L:∀ i,i < Z.m->Z.L i=n
 eA:∀ i,i < Z.m->∀ j,j < n->Z.A i j=raw (X i j)
 nl:Z.nl=Z.m
 el:∀ i,i < Z.m->Z.l i=raw (y i)
 np:Z.np=Z.m
 ep:∀ i,i < Z.m->Z.p i=raw (p i)
 pos:∀ i,i < Z.m->0 < p i
 hX:HtM Z.m n 17 X
 hy:HtL Z.m 17 y
 hp:HtL Z.m 17 p
theorem q5t {r:Nat} {Z:Lin} (h:VB r c Z=true) (hc:codeOf Z=0):FewG r c Z (Z.L 0) (fun i j=>zX (Z.A i j)) (fun i=>zX (Z.l i)) (fun i=>zX (Z.p i)):=by
 obtain⟨h1,h2,h3,h4⟩:=XW h;obtain⟨c1,c2,c3,c4⟩:=q0L hc;unfold jK q0R at c1;rw [Bool.and_eq_true,Bool.and_eq_true,qg,qg,qg] at c1;obtain⟨k1,k2,k3⟩:=c1;unfold zW at c2;simp only [Bool.and_eq_true,decide_eq_true_eq] at c2;unfold vJ JV at c3;rw [Bool.and_eq_true,Bool.and_eq_true,qg,decide_eq_true_eq,decide_eq_true_eq] at c3;obtain⟨f1,f2,f3⟩:=c3;have hL:∀ i,i < Z.m->Z.L i=Z.L 0:=fun i hi=>of_decide_eq_true (f1 i hi)
 rw [qg] at c4;have kA:∀ i,i < Z.m->∀ j,j < Z.L 0->okR (Z.A i j)=true:=fun i hi j hj=>qg.1 (k1 i hi) j (by rw [hL i hi]; exact hj)
 refine⟨by omega,h1,by omega,(h4 0 (by omega)).1,hL,fun i hi j hj=>zY (kA i hi j hj),f2,fun i hi=>zY (k2 i (by omega)),f3,fun i hi=>zY (k3 i (by omega)),fun i hi=>?_,fun i hi j hj=>?_,fun i hi=>?_,fun i hi=>?_⟩
 ·have h5:=c4 i (by omega);rw [zY (k3 i (by omega)),jR,decide_eq_true_eq] at h5;exact q3U h5
 ·refine X3 ?_;rw [<-zY (kA i hi j hj)];exact (h4 i hi).2 j (by rw [hL i hi]; exact hj)
 ·refine X3 ?_;rw [<-zY (k2 i (by omega))];exact h2 i (by omega)
 ·refine X3 ?_;rw [<-zY (k3 i (by omega))];exact h3 i (by omega)
theorem FewG.mem {r:Nat} {Z:Lin} {X:Nat->Nat->Rat} {y p:Nat->Rat} (f:FewG r c Z n X y p) {A1 A2 A3:Option Addr} {c1 c2 c3:Nat} (h1:MtR N lo hi w (.slice A1 Z.m c1) Z.m Z.L Z.A) (h2:LsR N lo hi w (.slice A2 Z.nl c2) Z.nl Z.l) (h3:LsR N lo hi w (.slice A3 Z.np c3) Z.np Z.p) :
  MtV N lo hi w (.slice A1 Z.m c1) Z.m n X/\LsV N lo hi w (.slice A2 Z.m c2) Z.m y/\LsV N lo hi w (.slice A3 Z.m c3) Z.m p:=by
 refine⟨MtR.congr h1 f.L (fun i hi j hj=>f.eA i hi j (by rw [<-f.L i hi]; exact hj)),?_,?_⟩
 ·rw [f.nl] at h2; exact LsR.congr h2 f.el
 ·rw [f.np] at h3; exact LsR.congr h3 f.ep
end Go.Proofs.YtfmddpahhloleaaGreat
namespace Go.Proofs.YtfmddpahhloleaaGreat
open Go.RowKit Go.ChangeShapes Go.ChangeAt
variable {w w':World} {N n lo hi k g i m base c b j:Nat} {v s:Value} {l:List Nat} {q:Rat} {z:Int} {R:Raw} {A:Option Addr}
theorem q0P:Tryz.prog.cellsOf 56=2:=by kernel_rfl
theorem q0O:Tryz.prog.cellsOf 58=4:=by kernel_rfl
theorem VG:Tryz.prog.cellsOf 4=1:=by kernel_rfl
theorem q0N:Tryz.prog.cellsOf 179=1:=by kernel_rfl
theorem VE:Tryz.prog.cellsOf 54=1:=by kernel_rfl
theorem VF:Tryz.prog.cellsOf 24=1:=by kernel_rfl
section
variable {H:Type} {enc:TypeId×Value->H} {w:World} {spare:Nat->Bool} {held:Bool}
instance:Inhabited Raw:=⟨⟨false,[],false,[]⟩⟩
theorem yK (a:Addr) (h:w.cell? (a.add 0)=some v):a=⟨a.block,a.off,none⟩:=by
 obtain⟨b,off,spot⟩:=a;have hs:=World.cell?_spot h;have h2:spot=none:=by simpa [Addr.add] using hs
 subst h2; rfl
theorem ZA {x:DataW H×List MemPlace} (h:DataW.trod enc Tryz.prog w 0 spare held n 54 [v]=some x):∃ l,Gs w.heap.size w v l:=by
 rcases Go.Deep.open_slice1 Tryz.underlying54 q0N h with ⟨hcs,-⟩ | ⟨a,len,cap,m,n',V,D,Pl,hcs,-,hl,hm,hmm,-,hx⟩
 ·simp only [List.cons.injEq,and_true] at hcs;subst hcs;exact⟨[],Gs.nil (q_r) _ (Nat.zero_le _)⟩
 ·simp only [List.cons.injEq,and_true] at hcs;subst hcs;have hlm:len<=m:=by rw [hmm]; split <;> omega
  have hv:∀ i,i < len->∃ z:Nat,V i=.int .u32 (z:Int)/\z < 4294967296:=fun i hi=>by
   obtain⟨-,h2⟩:=hx i (by omega);obtain⟨z,hz,-,hw⟩:=DataW.trod_int Tryz.underlying179 h2;simp only [List.cons.injEq,and_true] at hz;have hb:=bounds_u32 hw;exact⟨z.toNat,by rw [hz]; congr 1; omega,by omega⟩
  obtain⟨f,hf⟩:=Go.Deep.choose_lt (α:=Nat) hv;refine⟨(List.range len).map f,q_r,_,len,cap,rfl,by simp,hl,hm,fun y hy=>?_,fun h0=>?_⟩
  ·obtain⟨i,hi,rfl⟩:=List.mem_map.1 hy;exact (hf i (by simpa using hi)).2
  ·have h1:=(hx 0 (by omega)).1;have ha:=yK a h1;refine⟨a.block,a.off,by rw [<-ha],⟨?_,.inl ?_⟩,fun i hi=>?_⟩
   ·rw [ha,xy] at h1; exact cell_lt (p:=⟨a.block,a.off+0,none⟩) h1
   ·rw [ha,xy] at h1; exact cell_lt (p:=⟨a.block,a.off+0,none⟩) h1
   ·have h2:=(hx i (by omega)).1;rw [ha,xy,(hf i hi).1] at h2;rw [h2];simp [hi]
theorem Jt {c0 c1 c2 c3:Value} {x:DataW H×List MemPlace} (h:DataW.trod enc Tryz.prog w 0 spare held n 58 [c0,c1,c2,c3]=some x) :
  ∃ R:Raw,c0=.bool R.b1/\c2=.bool R.b2/\Gs w.heap.size w c1 R.l1/\Gs w.heap.size w c3 R.l2:=by
 obtain⟨y0,y1,n1,-,-,h0,h1⟩:=trod_struct2 Tryz.underlying58 h;simp only [q0P,List.drop_zero,List.take_succ_cons,List.take_zero,List.drop_succ_cons] at h0 h1;obtain⟨z0,z1,n2,-,-,k0,k1⟩:=trod_struct2 Tryz.underlying56 h0;obtain⟨z2,z3,n3,-,-,k2,k3⟩:=trod_struct2 Tryz.underlying56 h1;simp only [VG,VE,List.drop_zero,List.take_succ_cons,List.take_zero,List.drop_succ_cons] at k0 k1 k2 k3;obtain⟨b1,e1,-⟩:=DataW.trod_bool Tryz.underlying4 k0;obtain⟨b2,e2,-⟩:=DataW.trod_bool Tryz.underlying4 k2;obtain⟨l1,g1⟩:=ZA k1;obtain⟨l2,g2⟩:=ZA k3;simp only [List.cons.injEq,and_true] at e1 e2;exact⟨⟨b1,l1,b2,l2⟩,e1,e2,g1,g2⟩
theorem Vt {x:DataW H×List MemPlace} (h:DataW.trod enc Tryz.prog w 0 spare held n 24 [v]=some x):∃ k R,LsR w.heap.size 0 w.heap.size w v k R:=by
 rcases Go.Deep.open_slice Tryz.underlying24 h with ⟨hcs,-⟩ | ⟨a,len,cap,m,n',D,Pl,hcs,-,hl,hm,hmm,-,hx⟩
 ·simp only [List.cons.injEq,and_true] at hcs;subst hcs;exact⟨0,fun _=>default,q_r,q_r,_,_,rfl,q_r,Nat.zero_le _,fun h0=>absurd h0 (by omega)⟩
 ·simp only [List.cons.injEq,and_true] at hcs;subst hcs;have hlm:len<=m:=by rw [hmm]; split <;> omega
  rw [q0O] at hx
  rcases Nat.eq_zero_or_pos len with hl0 | hl0
  ·subst hl0;exact⟨0,fun _=>default,q_r,q_r,_,_,rfl,hl,hm,fun h0=>absurd h0 (by omega)⟩
  obtain⟨B,O,rfl⟩:∃ B O,a=⟨B,O,none⟩:=by
   obtain⟨cs,h1,h2⟩:=hx 0 (by omega);obtain⟨-,hlen,hc⟩:=World.cells?_some h1;have k0:=hc 0 (by omega);have hz:(a.add (0*4)).add 0=a.add 0:=by rw [Go.Deep.add_add]
   rw [hz,List.getElem?_eq_getElem (by omega)] at k0;exact⟨_,_,yK a k0⟩
  have hv:∀ i,i < len->∃ R:Raw,At4 w.heap.size w B (O+i*4) R:=fun i hi=>by
   obtain⟨cs,h1,h2⟩:=hx i (by omega);obtain⟨-,hlen,hc⟩:=World.cells?_some h1
   match cs,hlen with
   | [c0,c1,c2,c3],_ =>
    obtain⟨R,e0,e2,g1,g3⟩:=Jt h2;have k0:=hc 0 (by omega);have k1:=hc 1 (by omega);have k2:=hc 2 (by omega);have k3:=hc 3 (by omega);rw [xy,xy] at k0 k1 k2 k3;refine⟨R,c1,c3,?_,?_,?_,?_,g1,g3⟩
    ·rw [<-e0]; exact k0
    ·exact k1
    ·rw [<-e2]; exact k2
    ·exact k3
  obtain⟨f,hf⟩:=Go.Deep.choose_lt (α:=Raw) hv;refine⟨len,f,q_r,q_r,_,cap,rfl,hl,hm,fun h0=>⟨B,O,rfl,Nat.zero_le _,?_,fun i hi=>hf i hi⟩⟩;obtain⟨s,t,k0,-⟩:=hf 0 h0;exact cell_lt k0
theorem q4O {x:DataW H×List MemPlace} (h:DataW.trod enc Tryz.prog w 0 spare held n 23 [v]=some x):∃ k L R,MtR w.heap.size 0 w.heap.size w v k L R:=by
 rcases Go.Deep.open_slice1 Tryz.underlying23 VF h with ⟨hcs,-⟩ | ⟨a,len,cap,m,n',V,D,Pl,hcs,-,hl,hm,hmm,-,hx⟩
 ·simp only [List.cons.injEq,and_true] at hcs;subst hcs;exact⟨0,fun _=>0,fun _ _=>default,q_r,q_r,_,_,rfl,q_r,Nat.zero_le _,fun h0=>absurd h0 (by omega)⟩
 ·simp only [List.cons.injEq,and_true] at hcs;subst hcs;have hlm:len<=m:=by rw [hmm]; split <;> omega
  rcases Nat.eq_zero_or_pos len with hl0 | hl0
  ·subst hl0;exact⟨0,fun _=>0,fun _ _=>default,q_r,q_r,_,_,rfl,hl,hm,fun h0=>absurd h0 (by omega)⟩
  obtain⟨B,O,rfl⟩:∃ B O,a=⟨B,O,none⟩:=⟨_,_,yK a (hx 0 (by omega)).1⟩
  have hv:∀ i,i < len->∃ kR:Nat×(Nat->Raw),w.cell? ⟨B,O+i,none⟩=some (V i)/\LsR w.heap.size 0 w.heap.size w (V i) kR.1 kR.2:=fun i hi=>by
   obtain⟨h1,h2⟩:=hx i (by omega);rw [xy] at h1;obtain⟨k,R,hR⟩:=Vt h2;exact⟨(k,R),h1,hR⟩
  obtain⟨f,hf⟩:=Go.Deep.choose_lt (α:=Nat×(Nat->Raw)) hv;refine⟨len,fun i=>(f i).1,fun i=>(f i).2,q_r,q_r,_,cap,rfl,hl,hm,fun h0=>⟨B,O,rfl,Nat.zero_le _,cell_lt (hf 0 h0).1,fun i hi=>⟨V i,(hf i hi).1,(hf i hi).2⟩⟩⟩
end
theorem own:ownKnob Tryz.prog.godebug=none:=by kernel_rfl
theorem laidOut:laidOutB Tryz.prog=true:=by kernel_rfl
end Go.Proofs.YtfmddpahhloleaaGreat
namespace Go.Proofs.YtfmddpahhloleaaGreat
open Go.RowKit
variable {w w':World} {N n lo hi k g i m base c b j:Nat} {v s:Value} {l:List Nat} {q:Rat} {z:Int} {R:Raw} {A:Option Addr}
def IzV (N lo hi:Nat) (w:World) (v:Value) (n:Nat) (z:Nat->Int):Prop :=
 N+lo+hi=N+lo+hi/\∃ (A:Option Addr) (c:Nat),v=.slice A n c/\n<=c/\c<=maxLen/\(0 < n->∃ b off,A=some ⟨b,off,none⟩/\∀ i,i < n->w.cell? ⟨b,off+i,none⟩=some (.int .i64 (z i)))
theorem IzV.ext {z:Nat->Int} (h:IzV N lo hi w v n z) (e:Ext w w'):IzV N lo hi w' v n z:=by
 obtain⟨h0,A,c,hv,h1,h2,h3⟩:=h;refine⟨h0,A,c,hv,h1,h2,fun h=>?_⟩;obtain⟨b,off,hA,hc⟩:=h3 h;exact⟨b,off,hA,fun i hi=>e.cell (hc i hi)⟩
theorem IzV.form {z:Nat->Int} (h:IzV N lo hi w v n z):∃ (A:Option Addr) (c:Nat),v=.slice A n c/\n<=c/\c<=maxLen:=by
 obtain⟨h0,A,c,hv,h1,h2,h3⟩:=h;exact⟨A,c,hv,h1,h2⟩
theorem IzV.addr {z:Nat->Int} (h:IzV N lo hi w (.slice A n c) n z) (hn:0 < n):∃ b off,A=some ⟨b,off,none⟩/\∀ i,i < n->w.cell? ⟨b,off+i,none⟩=some (.int .i64 (z i)):=by
 obtain⟨h0,A',c',hv,h1,h2,h3⟩:=h;injection hv with e1 e2 e3
 subst e1;exact h3 hn
def IsI (u:Value) (z:Int):Prop:=u=.int .i64 z
theorem IsI.out {u:Value} (h:IsI u z):u=.int .i64 z:=h
end Go.Proofs.YtfmddpahhloleaaGreat
set_option maxRecDepth 100000
namespace Go.Proofs.YtfmddpahhloleaaGreat
open Go.ChangeShapes Go.WideShapes Go.ChangeAt Go.RowKit Go.Joins
variable {w w':World} {N n lo hi k g i m base c b j:Nat} {v s:Value} {l:List Nat} {q:Rat} {z:Int} {R:Raw} {A:Option Addr}
theorem q0Q:Tryz.prog.cellsOf 3=1:=by kernel_rfl
section
variable {H:Type} {enc:TypeId×Value->H} {w:World} {spare:Nat->Bool} {held:Bool}
theorem q4P {x:DataW H×List MemPlace} (h:DataW.trod enc Tryz.prog w 0 spare held n 27 [v]=some x):∃ k z,IzV w.heap.size 0 0 w v k z:=by
 rcases Go.Deep.open_slice1 Tryz.underlying27 q0Q h with ⟨hcs,-⟩ | ⟨a,len,cap,m,n',V,D,Pl,hcs,-,hl,hm,hmm,-,hx⟩
 ·simp only [List.cons.injEq,and_true] at hcs;subst hcs;exact⟨0,fun _=>0,rfl,_,_,rfl,q_r,Nat.zero_le _,fun h0=>absurd h0 (by omega)⟩
 ·simp only [List.cons.injEq,and_true] at hcs;subst hcs;have hlm:len<=m:=by rw [hmm]; split <;> omega
  have hv:∀ i,i < len->∃ z:Int,V i=.int .i64 z:=fun i hi=>by
   obtain⟨-,h2⟩:=hx i (by omega);obtain⟨z,hz,-,-⟩:=DataW.trod_int Tryz.underlying3 h2;simp only [List.cons.injEq,and_true] at hz;exact⟨z,hz⟩
  obtain⟨f,hf⟩:=Go.Deep.choose_lt (α:=Int) hv;refine⟨len,f,rfl,_,cap,rfl,hl,hm,fun h0=>?_⟩;have h1:=(hx 0 (by omega)).1;have ha:=yK a h1;refine⟨a.block,a.off,by rw [<-ha],fun i hi=>?_⟩;have h2:=(hx i (by omega)).1;rw [ha,xy,hf i hi] at h2;exact h2
end
end Go.Proofs.YtfmddpahhloleaaGreat
namespace Go.Proofs.YtfmddpahhloleaaGreat
open Go.RowKit
variable {w w':World} {N n lo hi k g i m base c b j:Nat} {v s:Value} {l:List Nat} {q:Rat} {z:Int} {R:Raw} {A:Option Addr}
structure Bkk where
 r:Int
 c:Int
 m:Nat
 L:Nat->Nat
 A:Nat->Nat->Raw
structure Sys where
 ns:Nat
 z:Nat->Int
 nb:Nat
 b:Nat->Bkk
 k:Nat
 R:Nat->Raw
def q4M (N lo hi:Nat) (w:World) (b o:Nat) (B:Bkk):Prop :=
 w.cell? ⟨b,o,none⟩=some (.int .i64 B.r)/\w.cell? ⟨b,o+1,none⟩=some (.int .i64 B.c)/\∃ (A:Option Addr) (c:Nat),w.cell? ⟨b,o+2,none⟩=some (.slice A B.m c)/\MtR N lo hi w (.slice A B.m c) B.m B.L B.A
theorem q4M.ext {o:Nat} {B:Bkk} (h:q4M N lo hi w b o B) (e:Ext w w'):q4M N lo hi w' b o B:=by
 obtain⟨h0,h1,A,c,h2,h3⟩:=h;exact⟨e.cell h0,e.cell h1,A,c,e.cell h2,h3.ext e⟩
def q3x (N lo hi:Nat) (w:World) (v:Value) (n:Nat) (B:Nat->Bkk):Prop :=
 ∃ (A:Option Addr) (c:Nat),v=.slice A n c/\n<=c/\c<=maxLen/\(0 < n->∃ b off,A=some ⟨b,off,none⟩/\∀ i,i < n->q4M N lo hi w b (off+i*3) (B i))
theorem q3x.ext {B:Nat->Bkk} (h:q3x N lo hi w v n B) (e:Ext w w'):q3x N lo hi w' v n B:=by
 obtain⟨A,c,hv,h1,h2,h3⟩:=h;refine⟨A,c,hv,h1,h2,fun h0=>?_⟩;obtain⟨b,off,hA,hc⟩:=h3 h0;exact⟨b,off,hA,fun i hi=>(hc i hi).ext e⟩
theorem q3x.addr {B:Nat->Bkk} (h:q3x N lo hi w (.slice A n c) n B) (hn:0 < n):∃ b off,A=some ⟨b,off,none⟩/\∀ i,i < n->q4M N lo hi w b (off+i*3) (B i):=by
 obtain⟨A',c',hv,h1,h2,h3⟩:=h;injection hv with e1 e2 e3
 subst e1;exact h3 hn
def VL (N lo hi:Nat) (w:World) (v:Value) (Z:Sys):Prop :=
 ∃ v1 v2 v3,v=.agg #[v1,v2,v3]/\IzV N lo hi w v1 Z.ns Z.z/\q3x N lo hi w v2 Z.nb Z.b/\LsR N lo hi w v3 Z.k Z.R
theorem VL.ext {Z:Sys} (h:VL N lo hi w v Z) (e:Ext w w'):VL N lo hi w' v Z:=by
 obtain⟨v1,v2,v3,hv,h1,h2,h3⟩:=h;exact⟨v1,v2,v3,hv,h1.ext e,h2.ext e,h3.ext e⟩
theorem VL.parts {Z:Sys} (h:VL N lo hi w v Z):∃ (A1:Option Addr) (c1:Nat) (A2:Option Addr) (c2:Nat) (A3:Option Addr) (c3:Nat),v=.agg #[.slice A1 Z.ns c1,.slice A2 Z.nb c2,.slice A3 Z.k c3] /\
  IzV N lo hi w (.slice A1 Z.ns c1) Z.ns Z.z/\q3x N lo hi w (.slice A2 Z.nb c2) Z.nb Z.b/\LsR N lo hi w (.slice A3 Z.k c3) Z.k Z.R/\Z.ns<=9223372036854775807/\Z.nb<=9223372036854775807/\Z.k<=9223372036854775807:=by
 obtain⟨v1,v2,v3,rfl,h1,h2,h3⟩:=h;obtain⟨A1,c1,rfl,a1,a2⟩:=h1.form;have h2':=h2;obtain⟨A2,c2,rfl,b1,b2,-⟩:=h2';obtain⟨A3,c3,rfl,d1,d2⟩:=h3.form;unfold maxLen at a2 b2 d2;exact⟨A1,c1,A2,c2,A3,c3,rfl,h1,h2,h3,by omega,by omega,by omega⟩
def q3g (f:Nat->Int) (n:Nat):Int:=((List.range n).find? (fun i=>f i != 0)).elim 0 f
theorem XV {f:Nat->Int} (h:∀ i,i < n->f i=0):q3g f n=0:=by
 unfold q3g;rw [List.find?_eq_none.2 (fun i hi=>by simp [h i (List.mem_range.1 hi)])]
 rfl
theorem q0w {f:Nat->Int} (hi:i < n) (h:∀ j,j < i->f j=0) (h0:f i≠0):q3g f n=f i:=by
 unfold q3g
 have:(List.range n).find? (fun i=>f i != 0)=some i:=by
  rw [List.find?_range_eq_some];refine⟨by simpa using h0,List.mem_range.2 hi,fun j hj=>by simp [h j hj]⟩
 rw [this]
 rfl
theorem q2l {f:Nat->Int} (h:q3g f n=0):∀ i,i < n->f i=0:=by
 intro i hi
 induction i using Nat.strongRecOn with
 | _ i ih =>
  by_cases h0:f i=0
  ·exact h0
  ·rw [q0w hi (fun j hj=>ih j hj (by omega)) h0] at h;exact h
def q2C (B:Bkk):Bool:=allB B.m (fun i=>allB (B.L i) (fun j=>okR (B.A i j)))
def YR (Z:Sys):Bool:=allB Z.nb (fun i=>q2C (Z.b i)) && allB Z.k (fun i=>okR (Z.R i))
def jX (z:Nat->Int):Nat->Int
 | 0=>0
 | n+1=>jX z n+z n
def sz1 (z:Int):Bool:=decide (1<=z) && decide (z<=12)
def Jd (Z:Sys):Bool:=(decide (1<=Z.ns) && decide (Z.ns<=12)) && (allB Z.ns (fun i=>sz1 (Z.z i)) && decide (jX Z.z Z.ns<=64))
theorem Ya {z:Nat->Int}:∀ n,(∀ i,i < n->sz1 (z i)=true)->(n:Int)<=jX z n/\jX z n<=12*(n:Int)
 | 0,_=>by unfold jX; omega
 | n+1,h=>by
  have h1:=Ya n (fun i hi=>h i (by omega));have h2:=h n (by omega);unfold sz1 at h2;rw [Bool.and_eq_true,decide_eq_true_eq,decide_eq_true_eq] at h2;unfold jX;omega
def symB (B:Bkk):Bool:=allB B.m (fun i=>allB i (fun j=>decide (zX (B.A i j)=zX (B.A j i))))
def Zd (z:Nat->Int) (B:Bkk):Bool:=decide ((B.m:Int)=z B.r.toNat) && (allB B.m (fun i=>decide ((B.L i:Int)=z B.c.toNat)) && (!(decide (B.r=B.c)) || symB B))
def q1o (B C:Bkk):Bool:=decide (B.r < C.r) || (decide (B.r=C.r) && decide (B.c < C.c))
def bkC (Z:Sys) (i:Nat):Int :=
 if (Z.b i).c < 0\/(Z.b i).r < (Z.b i).c\/(Z.ns:Int)<=(Z.b i).r then 2 else if Zd Z.z (Z.b i)=false then 4 else if 0 < i/\q1o (Z.b (i - 1)) (Z.b i)=false then 5 else 0
def VP (Z:Sys):Int :=
 if YR Z=false then 1 else if Jd Z=false then 3 else if q3g (bkC Z) Z.nb≠0 then q3g (bkC Z) Z.nb else if (Z.k:Int)=jX Z.z Z.ns then 0 else 4
theorem Y9:Tryz.prog.underlying 76=some (.array 2 3):=by kernel_rfl
theorem q2Y:Tryz.prog.underlying 106=some (.map 76 23):=by kernel_rfl
theorem q5H:Tryz.prog.cellsOf 3=1:=by kernel_rfl
def kyV (r c:Int):Value:=.agg #[.int .i64 r,.int .i64 c]
theorem Vd (w:World) (r c r' c':Int):(Op.equal 76 (kyV r c) (kyV r' c')).run Tryz.prog w=.ok (decide (r=r'/\c=c')) w:=by
 have u3:=Tryz.underlying3
 obtain⟨i,hi⟩:∃ i,Tryz.prog.info? 3=some i:=by
  cases h:Tryz.prog.info? 3 with
  | some i=>exact⟨i,rfl⟩
  | none =>
   have:(Tryz.prog.info? 3).isSome=true:=by kernel_rfl
   rw [h] at this; cases this
 unfold kyV Op.equal;rw [show Op.maxDepth=9999+1 from rfl,run_equalIn_array w 9999 _ _ Y9 hi,q5H];simp only [List.range,List.range.loop,Op.eqItems];go_simp
 by_cases h1:r=r' <;> by_cases h2:c=c' <;> simp [h1,h2]
theorem q5G:Tryz.prog.cellsOf 76=2:=by kernel_rfl
def Jg (r:Int):Prop:=0<=r/\r < 1000
theorem q0q {r:Int} (h:Jg r):(Lit.int .i64 r).wf=true:=by
 obtain⟨h1,h2⟩:=h
 show (decide (IntKind.i64.min<=r) && decide (r<=IntKind.i64.max))=true
 have e1:IntKind.i64.min = -9223372036854775808:=by decide
 have e2:IntKind.i64.max=9223372036854775807:=by decide
 rw [e1,e2,Bool.and_eq_true,decide_eq_true_eq,decide_eq_true_eq];omega
theorem q2b {r c:Int} (hr:Jg r) (hc:Jg c):Tryz.prog.keyLits 3 76 (kyV r c).cells.toList=some [.int .i64 r,.int .i64 c]:=by
 have u3:=Tryz.underlying3;have w1:=q0q hr;have w2:=q0q hc
 have h0:∀ q:Int,Jg q->Tryz.prog.keyLits 2 3 [.int .i64 q]=some [.int .i64 q]:=fun q hq=>by
  unfold Program.keyLits;rw [u3];simp [q0q hq]
 unfold Program.keyLits;rw [Y9];simp only [kyV,Value.cells,q5G,q5H];simp [List.range,List.range.loop,h0 r hr,h0 c hc]
theorem Zn (w:World) (em:Bool) {r c:Int} (hr:Jg r) (hc:Jg c):(Instr.checkKey em 10000 76 (kyV r c)).run Tryz.prog w=.ok () w :=
 run_checkKey_deep em 9997 3 76 (by kernel_rfl) w 3 (kyV r c) _ (by kernel_rfl) (q2b hr hc)
def idx:List ((Int×Int)×Value)->Int->Int->Option Nat
 | [],_,_=>none
 | p :: l,r,c=>if r=p.1.1/\c=p.1.2 then some 0 else (idx l r c).map (· + 1)
def lkp:List ((Int×Int)×Value)->Int->Int->Option Value
 | [],_,_=>none
 | p :: l,r,c=>if r=p.1.1/\c=p.1.2 then some p.2 else lkp l r c
def put (v:Value):List ((Int×Int)×Value)->Int->Int->List ((Int×Int)×Value)
 | [],r,c=>[((r,c),v)]
 | p :: l,r,c=>if r=p.1.1/\c=p.1.2 then ((r,c),v) :: l else p :: put v l r c
theorem KC (v:Value):∀ (l:List ((Int×Int)×Value)) (r c r' c':Int),lkp (put v l r c) r' c'=if r'=r/\c'=c then some v else lkp l r' c'
 | [],r,c,r',c'=>rfl
 | p :: l,r,c,r',c'=>by
  unfold put
  by_cases h:r=p.1.1/\c=p.1.2
  ·rw [if_pos h];unfold lkp
   by_cases h':r'=r/\c'=c
   ·rw [if_pos h',if_pos h']
   ·rw [if_neg h',if_neg h',if_neg (by rw [<-h.1,<-h.2]; exact h')]
  ·rw [if_neg h];unfold lkp
   by_cases h':r'=p.1.1/\c'=p.1.2
   ·rw [if_pos h',if_neg (by rintro⟨e1,e2⟩; exact h ⟨by rw [<-e1]; exact h'.1,by rw [<-e2]; exact h'.2⟩),if_pos h']
   ·rw [if_neg h',if_neg h'];exact KC v l r c r' c'
theorem KN {l:List ((Int×Int)×Value)} {r c:Int} (v:Value) (h:idx l r c=none):lkp l r c=none/\put v l r c=l ++ [((r,c),v)]:=by
 induction l with
 | nil=>exact⟨rfl,rfl⟩
 | cons p l ih =>
  unfold idx at h;unfold lkp put
  by_cases h9:r=p.1.1/\c=p.1.2
  ·rw [if_pos h9] at h; cases h
  ·rw [if_neg h9] at h ⊢;rw [if_neg h9];have:=ih (by simpa using h);exact⟨this.1,by rw [this.2]; rfl⟩
theorem YF {l:List ((Int×Int)×Value)} {r c:Int} (v:Value) (h:idx l r c=some j):∃ u,l[j]?=some ((r,c),u)/\lkp l r c=some u/\put v l r c=l.set j ((r,c),v):=by
 induction l generalizing j with
 | nil=>cases h
 | cons p l ih =>
  unfold idx at h;unfold lkp put
  by_cases h9:r=p.1.1/\c=p.1.2
  ·rw [if_pos h9] at h ⊢;rw [if_pos h9];obtain rfl:0=j:=by simpa using h
   obtain⟨⟨a,b⟩,u⟩:=p;obtain⟨rfl,rfl⟩:=h9;exact⟨u,rfl,rfl,rfl⟩
  ·rw [if_neg h9] at h ⊢;rw [if_neg h9];simp only [Option.map_eq_some_iff] at h;obtain⟨k,hk,rfl⟩:=h;obtain⟨u,h1,h2,h3⟩:=ih hk;exact⟨u,by simpa using h1,h2,by rw [h3]; rfl⟩
def q1m (es:List MapEntry) (l:List ((Int×Int)×Value)):Prop:=es.map (fun e=>(e.key,e.val))=l.map (fun p=>(kyV p.1.1 p.1.2,p.2))
theorem Qz (w:World) (r c:Int):∀ (es:List MapEntry) (l:List ((Int×Int)×Value)) (i:Nat),q1m es l->(Instr.findAsking 76 (kyV r c) es i).run Tryz.prog w=.ok (match idx l r c,lkp l r c with | some j,some v=>some (i+j,v) | _,_=>none) w
 | [],[],i,_=>by unfold Instr.findAsking; rfl
 | [],_ :: _,_,h=>by unfold q1m at h; simp at h
 | _ :: _,[],_,h=>by unfold q1m at h; simp at h
 | e :: es,p :: l,i,h=>by
  unfold q1m at h;simp only [List.map_cons,List.cons.injEq,Prod.mk.injEq] at h;obtain⟨⟨h1,h2⟩,h3⟩:=h;have ih:=Qz w r c es l (i+1) h3;unfold Instr.findAsking;rw [Sem.run_bind,h1,Vd,Result.andThen_ok];unfold idx lkp
  by_cases h9:r=p.1.1/\c=p.1.2
  ·rw [if_pos h9,if_pos h9,q_t h9];simp [h2]
  ·rw [if_neg h9,if_neg h9,q_f h9];simp only [Bool.false_eq_true,if_false];rw [ih];cases h5:idx l r c with
   | none=>simp
   | some j =>
    cases h6:lkp l r c with
    | none=>simp
    | some v=>simp only [Option.map_some]; rw [show i+1+j=i+(j+1) by omega]
def MpE (w:World) (g:Nat) (l:List ((Int×Int)×Value)):Prop:=∃ es clock,w.heap[g]?=some (.map es clock)/\q1m es.toList l
theorem MpE.ext {l:List ((Int×Int)×Value)} (h:MpE w g l) (e:Ext w w'):MpE w' g l:=by
 obtain⟨es,k,h1,h2⟩:=h;exact⟨es,k,e.block h1,h2⟩
theorem yw {l:List ((Int×Int)×Value)} (h:MpE w g l) {r c:Int} (hr:Jg r) (hc:Jg c):(Instr.lookup 106 (.map (some g)) (kyV r c) false).run Tryz.prog w=.ok ((lkp l r c).getD (.slice none 0 0)) w:=by
 obtain⟨es,k,h1,h2⟩:=h;unfold Instr.lookup;simp only [Sem.run_bind,run_underlying q2Y,Result.andThen_ok,run_getObj_map w g es k h1,Sem.run_pure,Zn w _ hr hc];rw [run_findKey_eq w (by rw [Y9]) (kyV r c) es.toList,Qz w r c _ l 0 h2];cases h5:idx l r c with
 | none =>
  rw [(KN (.slice none 0 0) h5).1];have hz:(zeroValue 23).run Tryz.prog w=.ok (.slice none 0 0) w:=by kernel_rfl
  simp [hz]
 | some j =>
  obtain⟨u,-,h6,-⟩:=YF (.slice none 0 0) h5;rw [h6]
  simp
theorem q4s {es:List MapEntry} {l:List ((Int×Int)×Value)} (h:q1m es l) {p:(Int×Int)×Value} (hj:l[j]?=some p):∃ e,es[j]?=some e/\e.key=kyV p.1.1 p.1.2/\e.val=p.2:=by
 have h1:(es.map fun e=>(e.key,e.val))[j]?=(l.map fun p=>(kyV p.1.1 p.1.2,p.2))[j]?:=by rw [show es.map (fun e=>(e.key,e.val))=_ from h]
 rw [List.getElem?_map,List.getElem?_map,hj] at h1;cases h2:es[j]? with
 | none=>rw [h2] at h1; simp at h1
 | some e =>
  rw [h2] at h1;simp only [Option.map_some,Option.some.injEq,Prod.mk.injEq] at h1;exact⟨e,rfl,h1.1,h1.2⟩
theorem q2t {es:List MapEntry} {l:List ((Int×Int)×Value)} (h:q1m es l) (j:Nat) (r c:Int) (v:Value):q1m (es.modify j fun e=>{ e with key:=kyV r c,val:=v }) (l.set j ((r,c),v)):=by
 unfold q1m;refine List.ext_getElem? fun i=>?_
 have h1:(es.map fun e=>(e.key,e.val))[i]?=(l.map fun p=>(kyV p.1.1 p.1.2,p.2))[i]?:=by rw [show es.map (fun e=>(e.key,e.val))=_ from h]
 rw [List.getElem?_map,List.getElem?_map] at h1;rw [List.getElem?_map,List.getElem?_map,List.getElem?_modify,List.getElem?_set]
 by_cases hij:j=i
 ·subst hij;rw [if_pos rfl];cases h2:es[j]? with
  | none =>
   rw [h2] at h1
   have h3:l[j]?=none:=by
    cases h4:l[j]? with
    | none=>rfl
    | some p=>rw [h4] at h1; simp at h1
   rw [if_neg (by rw [List.getElem?_eq_none_iff] at h3; omega)]
   rfl
  | some e =>
   rw [h2] at h1
   have h3:j < l.length:=by
    cases h4:l[j]? with
    | none=>rw [h4] at h1; simp at h1
    | some p=>exact (List.getElem?_eq_some_iff.1 h4).1
   rw [if_pos h3]
   simp
 ·rw [if_neg hij];rw [show (fun e=>if j=i then ({ e with key:=kyV r c,val:=v }:MapEntry) else e)=id by funext e; rw [if_neg hij]; rfl];simpa using h1
theorem YI {o o':Obj} (h:w.heap[g]?=some o):(w.heap.setIfInBounds g o')[g]?=some o':=by
 have hg:g < w.heap.size:=by
  rcases Nat.lt_or_ge g w.heap.size with h1 | h1
  ·exact h1
  ·rw [Array.getElem?_eq_none h1] at h; cases h
 rw [Array.getElem?_setIfInBounds,if_pos rfl,if_pos hg]
theorem q0M {es:Array MapEntry} (h:w.heap[g]?=some (.map es k)) (o:Obj):Chg g (g+1) w { w with heap:=w.heap.setIfInBounds g o } :=
 ⟨rfl,rfl,rfl,by simp,fun i _ hd=>by
  have hne:¬ g=i:=by
   rintro rfl
   rcases hd with h1 | h1 | ⟨cs,fr,h1⟩
   ·omega
   ·omega
   ·rw [h] at h1; cases h1
  show (w.heap.setIfInBounds g o)[i]?=w.heap[i]?
  rw [Array.getElem?_setIfInBounds,if_neg hne]⟩
theorem q3Q (n:Nat) (r c:Int):Instr.sameBits (n+2) (kyV r c) (kyV r c)=true:=by
 unfold kyV;simp [Instr.sameBits]
theorem yu {l:List ((Int×Int)×Value)} (h:MpE w g l) {r c:Int} (hr:Jg r) (hc:Jg c) (v:Value):∃ w',(Instr.mapUpdate 106 (.map (some g)) (kyV r c) v).run Tryz.prog w=.ok () w'/\MpE w' g (put v l r c)/\Chg g (g+1) w w':=by
 obtain⟨es,k,h1,h2⟩:=h;unfold Instr.mapUpdate;simp only [Sem.run_bind,run_underlying q2Y,Result.andThen_ok,run_getObj_map w g es k h1,Sem.run_pure,Zn w _ hr hc];rw [run_findKey_eq w (by rw [Y9]) (kyV r c) es.toList,Qz w r c _ l 0 h2];cases h5:idx l r c with
 | none =>
  rw [(KN v h5).1,(KN v h5).2];simp only [Result.andThen_ok];rw [MapKept.run_setObj_map _ h1]
  exact⟨_,rfl,⟨_,_,YI h1,by
   unfold q1m at h2 ⊢;rw [Array.toList_push,List.map_append,List.map_append,h2]
   rfl⟩,q0M h1 _⟩
 | some j =>
  obtain⟨u,h7,h6,h8⟩:=YF v h5;rw [h6,h8];obtain⟨e,h9,h10,-⟩:=q4s h2 h7
  have h11:((es[0+j]?).map (·.key)).getD (kyV r c)=kyV r c:=by
   rw [Nat.zero_add,<-Array.getElem?_toList,h9];exact h10
  simp only [Result.andThen_ok,Sem.run_bind];rw [h11]
  have h12:(Instr.keyThatStays (kyV r c) (kyV r c)).run Tryz.prog w=.ok (kyV r c) w:=by
   unfold Instr.keyThatStays;rw [show (10000:Nat)=9998+2 from rfl,q3Q,if_pos rfl]
   rfl
  rw [h12,Result.andThen_ok,MapKept.run_setObj_map _ h1,Nat.zero_add]
  exact⟨_,rfl,⟨_,_,YI h1,by
   rw [Array.toList_modify]
   exact q2t h2 j r c v⟩,q0M h1 _⟩
structure One (ET:TypeId) (z0:Value) (bz:Nat):Prop where
 inf:(Tryz.prog.info? ET).map (fun i=>(i.zero,i.size,i.bytes))=some (some z0,1,bz)
 cells:z0.cells.size=1
 le:bz<=24
 ne:ET≠179
def zO (ET:TypeId) (base:Nat) (w:World) (v:Value) (xs:List Value):Prop:=base<=w.heap.size/\w.ownsRow base ET 1 v xs.length xs
section
variable {ET:TypeId} {base:Nat} {w w':World} {v:Value} {xs:List Value}
theorem zO.nil (h:base<=w.heap.size):zO ET base w (.slice none 0 0) []:=⟨h,by simp,.inl ⟨rfl,rfl⟩⟩
theorem zO.empty (hb:base<=g) (h:w.heap[g]?=some (.cells #[] ET (0,0))):zO ET base w (.slice (some ⟨g,0,none⟩) 0 0) [] :=
 ⟨by have:=qG h; omega,by simp,.inr ⟨g,0,#[],rfl,hb,h,q_r,Nat.zero_le _,rfl,rfl⟩⟩
theorem zO.form (h:zO ET base w v xs):∃ A c,v=.slice A xs.length c/\xs.length<=c:=by
 rcases h.2.2 with ⟨rfl,h0⟩ | ⟨g,cap,cur,rfl,_,_,hc,_⟩
 ·exact⟨_,_,by rw [h0],by omega⟩
 ·exact⟨_,_,rfl,hc⟩
theorem zO.ext (h:zO ET base w v xs) (e:Ext w w'):zO ET base w' v xs:=by
 refine⟨q_l h.1 e.size,h.2.1,?_⟩
 rcases h.2.2 with h0 | ⟨g,cap,cur,hv,hb,hh,h1,h2,h3,h4⟩
 ·exact .inl h0
 ·exact .inr ⟨g,cap,cur,hv,hb,e.block hh,h1,h2,h3,h4⟩
theorem zO.chg {l u:Nat} (h:zO ET base w v xs) (c:Chg l u w w') (hd:u<=base):zO ET base w' v xs:=by
 refine⟨q_l h.1 c.size,h.2.1,?_⟩
 rcases h.2.2 with h0 | ⟨g,cap,cur,hv,hb,hh,h1,h2,h3,h4⟩
 ·exact .inl h0
 ·exact .inr ⟨g,cap,cur,hv,hb,c.blk hh (by omega),h1,h2,h3,h4⟩
theorem zO.far {l u:Nat} (h:zO ET base w v xs) (c:Chg l u w w') (hd:∀ k,v.ownBlock=some k->k < l\/u<=k):zO ET base w' v xs:=by
 refine⟨q_l h.1 c.size,h.2.1,?_⟩
 rcases h.2.2 with h0 | ⟨g,cap,cur,rfl,hb,hh,h1,h2,h3,h4⟩
 ·exact .inl h0
 ·exact .inr ⟨g,cap,cur,rfl,hb,c.blk hh (hd g rfl),h1,h2,h3,h4⟩
theorem zO.low {b':Nat} (h:zO ET base w v xs) (hb:b'<=base):zO ET b' w v xs:=by
 refine⟨q_l hb h.1,h.2.1,?_⟩
 rcases h.2.2 with h0 | ⟨g,cap,cur,hv,hb0,h3⟩
 ·exact .inl h0
 ·exact .inr ⟨g,cap,cur,hv,by omega,h3⟩
theorem zO.own_lt (h:zO ET base w v xs):∀ k,v.ownBlock=some k->base<=k/\k < w.heap.size:=by
 rcases h.2.2 with ⟨rfl,h0⟩ | ⟨g,cap,cur,rfl,hb,hh,-⟩
 ·intro k hk; simp [Value.ownBlock] at hk
 ·intro k hk;obtain rfl:g=k:=by simpa [Value.ownBlock] using hk
  exact⟨hb,qG hh⟩
theorem zO.at_ (h:zO ET base w v xs) (hn:0 < xs.length):∃ g cap,v=.slice (some ⟨g,0,none⟩) xs.length cap/\base<=g/\g < w.heap.size/\cap<=maxLen/\xs.length<=cap/\(∃ cs,w.heap[g]?=some (.cells cs ET (0,0))/\cs.size=cap)/\∀ j (hj:j < xs.length),w.cell? ⟨g,j,none⟩=some xs[j]:=by
 rcases h.2.2 with ⟨-,h⟩ | ⟨g,cap,cur,hv,hb,hg,hnc,hcm,hcs,htk⟩
 ·omega
 ·refine⟨g,cap,hv,hb,qG hg,hcm,hnc,⟨cur,hg,by omega⟩,fun j hj=>?_⟩;rw [qx hg];have h9:(cur.toList.take (xs.length*1))[j]?=some xs[j]:=by rw [htk]; exact List.getElem?_eq_getElem hj
  rw [List.getElem?_take] at h9;rw [if_pos (by omega)] at h9;simpa using h9
theorem Xn {z0:Value} {bz:Nat} (ho:One ET z0 bz) (t ty:TypeId) (ht:Tryz.prog.underlying t=some (.slice ET)) (h:zO ET base w v xs) {off:Nat} {news:List Value} (hl:news.length=m)
  (hnews:∀ j u,news[j]?=some u->w.cell? ⟨b,off+j,none⟩=some u) (h1:∀ u∈news,u.oneCell'=true) (hm:0 < m) (hn:xs.length+m<=1000000000) :
  ∃ g cap w',(Builtin.append_ #[t,t] ty #[v,.slice (some ⟨b,off,none⟩) m c]).run Tryz.prog w=.ok (.slice (some ⟨g,0,none⟩) (xs.length+m) cap) w'/\zO ET base w' (.slice (some ⟨g,0,none⟩) (xs.length+m) cap) (xs ++ news)/\(v.ownBlock=some g\/g=w.heap.size) /\
   (∃ g',base<=g'/\(v.ownBlock=some g'\/g'=w.heap.size)/\Chg g' (g'+1) w w'/\NoU w g'):=by
 obtain⟨i0,hi0,hz0,hz1,hz2⟩:=info_parts ho.inf;obtain⟨hb0,hown⟩:=h;have hle:=ho.le
 obtain⟨g,cap,w',hrun,hO,hgr,hat,hlt⟩:=run_append_lies (P:=Tryz.prog) w t ty base ET i0 _ 1 bz ht hi0 hz0 hz1 hz2 ho.cells (by omega) v xs.length xs hown ⟨b,off,none⟩ m c news (by omega)
  (fun j u hj=>by rw [kH]; exact hnews j u hj) h1 hm (by unfold maxLen; omega)
  (q_l (Nat.mul_le_mul hn ho.le) (by decide)) hb0 w.heap.size rfl
 refine⟨g,cap,w',hrun,⟨q_l hb0 hgr.size,?_⟩,hat,?_⟩
 ·rw [List.length_append,hl]; exact hO
 ·have hT:NoU w w.heap.size:=fun cs fr h=>by rw [Array.getElem?_eq_none (q_r)] at h; cases h
  rcases hown.2 with ⟨rfl,h0⟩ | ⟨g0,cap0,cur,rfl,hbb,hh,_⟩
  ·exact⟨w.heap.size,hb0,.inr rfl,zG hgr (fun k hk=>by simp [Value.ownBlock] at hk) hT,hT⟩
  ·have hT0:NoU w g0:=NoU.mk hh ho.ne;exact⟨g0,hbb,.inl rfl,zG hgr (fun k hk=>by simpa [Value.ownBlock] using hk.symm) hT0,hT0⟩
end
theorem Qp {ET:TypeId} {xs:List Value} {z0:Value} {bz:Nat} (h0:One ET z0 bz) {o:Oper} {a:Act} {K:Act->World->Prop} {Q:Exit->Act->World->Prop} (s x:Operand) (t:TypeId) (ht:Tryz.prog.underlying t=some (.slice ET))
  (ho:o.op=.call { callee:=.builtin .append,args:=#[s,x],argTypes:=#[t,t] }) (hs:a.eval s=v) (h:zO ET base w v xs) {off:Nat} {news:List Value} (hx:a.eval x=.slice (some ⟨b,off,none⟩) m c) (hl:news.length=m)
  (hnews:∀ j u,news[j]?=some u->w.cell? ⟨b,off+j,none⟩=some u) (h1:∀ u∈news,u.oneCell'=true) (hm:0 < m) (hn:xs.length+m<=1000000000)
  (hK:∀ g cap w',zO ET base w' (.slice (some ⟨g,0,none⟩) (xs.length+m) cap) (xs ++ news)->(v.ownBlock=some g\/g=w.heap.size)->(∃ g',base<=g'/\(v.ownBlock=some g'\/g'=w.heap.size)/\Chg g' (g'+1) w w'/\NoU w g')->K (a.put o.dst (.slice (some ⟨g,0,none⟩) (xs.length+m) cap)) w'):o.wp Tryz.prog a w K Q:=by
 obtain⟨g,cap,w',hrun,h2,h3,h4⟩:=Xn h0 t o.type ht h hl hnews h1 hm hn (c:=c);unfold Oper.wp execOp;simp only [ho,resolve,invoke,builtin,Sem.run_bind,Sem.run_pure,Result.andThen_ok,List.map_toArray,List.map_cons,List.map_nil,hs,hx,hrun];exact hK g cap w' h2 h3 h4
theorem jo {ET:TypeId} {xs:List Value} {z0:Value} {bz:Nat} (h0:One ET z0 bz) {ops:Array Oper} {rest:List Oper} {o:Oper} {a:Act} {Q:Exit->Act->World->Prop} (hgd:o.guard=none) (s x:Operand) (t:TypeId) (ht:Tryz.prog.underlying t=some (.slice ET))
  (ho:o.op=.call { callee:=.builtin .append,args:=#[s,x],argTypes:=#[t,t] }) (hs:a.eval s=v) (h:zO ET base w v xs) {off:Nat} {news:List Value} (hx:a.eval x=.slice (some ⟨b,off,none⟩) m c) (hl:news.length=m)
  (hnews:∀ j u,news[j]?=some u->w.cell? ⟨b,off+j,none⟩=some u) (h1:∀ u∈news,u.oneCell'=true) (hm:0 < m) (hn:xs.length+m<=1000000000)
  (hK:∀ g cap w',zO ET base w' (.slice (some ⟨g,0,none⟩) (xs.length+m) cap) (xs ++ news)->(v.ownBlock=some g\/g=w.heap.size)->(∃ g',base<=g'/\(v.ownBlock=some g'\/g'=w.heap.size)/\Chg g' (g'+1) w w'/\NoU w g')->wpList Tryz.prog ops Q rest (a.put o.dst (.slice (some ⟨g,0,none⟩) (xs.length+m) cap)) w'):wpList Tryz.prog ops Q (o :: rest) a w :=
 wpList_plain hgd fun _ hK'=>Qp h0 s x t ht ho hs h hx hl hnews h1 hm hn (fun g cap w' a1 a2 a3=>hK' _ _ (hK g cap w' a1 a2 a3))
theorem ZK {ET:TypeId} {xs:List Value} {z0:Value} {bz:Nat} (h0:One ET z0 bz) {ops:Array Oper} {o:Oper} {a:Act} {K:Act->World->Prop} {Q:Exit->Act->World->Prop} {E:Prop} (hgd:o.guard=none) (s x:Operand) (t:TypeId) (ht:Tryz.prog.underlying t=some (.slice ET))
  (ho:o.op=.call { callee:=.builtin .append,args:=#[s,x],argTypes:=#[t,t] }) (hs:a.eval s=v) (h:zO ET base w v xs) {off:Nat} {news:List Value} (hx:a.eval x=.slice (some ⟨b,off,none⟩) m c) (hl:news.length=m)
  (hnews:∀ j u,news[j]?=some u->w.cell? ⟨b,off+j,none⟩=some u) (h1:∀ u∈news,u.oneCell'=true) (hm:0 < m) (hn:xs.length+m<=1000000000)
  (hK:∀ g cap w',zO ET base w' (.slice (some ⟨g,0,none⟩) (xs.length+m) cap) (xs ++ news)->(v.ownBlock=some g\/g=w.heap.size)->(∃ g',base<=g'/\(v.ownBlock=some g'\/g'=w.heap.size)/\Chg g' (g'+1) w w'/\NoU w g')->K (a.put o.dst (.slice (some ⟨g,0,none⟩) (xs.length+m) cap)) w') :
  if Region.wanted o (yielded ops a.tmps)=true then Oper.wp Tryz.prog o a w K Q else E:=by
 have hw:Region.wanted o (yielded ops a.tmps)=true:=by simp [Region.wanted,hgd]
 rw [if_pos hw];exact Qp h0 s x t ht ho hs h hx hl hnews h1 hm hn hK
theorem WY {u:Value} {t:TypeId} {fr:Nat×Nat} (h:w.heap[g]?=some (.cells #[u] t fr)):∀ j x,[u][j]?=some x->w.cell? ⟨g,0+j,none⟩=some x:=by
 intro j x hj;rw [Nat.zero_add,qx h];simpa using hj
theorem q1S:One 4 (.bool false) 1:=⟨by kernel_rfl,rfl,by omega,by decide⟩
theorem WZ:One 3 (.int .i64 0) 8:=⟨by kernel_rfl,rfl,by omega,by decide⟩
theorem Yk:One 24 (.slice none 0 0) 24:=⟨by kernel_rfl,rfl,by omega,by decide⟩
theorem xZ:sz1 z=true↔1<=z/\z<=12:=by
 unfold sz1;rw [Bool.and_eq_true,decide_eq_true_eq,decide_eq_true_eq]
theorem q0Y {Z:Sys} (h:VL N lo hi w v Z) (h1:Z.ns<=12) (hz:∀ i,i < Z.ns->sz1 (Z.z i)=true) :
  Calls Tryz.prog 107 #[v] w (zL w (.int .i64 (jX Z.z Z.ns))):=by
 obtain⟨A1,c1,A2,c2,A3,c3,rfl,s1,s2,s3,-⟩:=h.parts;have HI:=q_h s1;have HZ:=q_h hz;obtain⟨T9,hT9⟩:=qc (jX Z.z Z.ns);rw [<-hT9.out];obtain⟨n,hn⟩:=qc Z.ns;rw [<-hn.out] at HI h1;clear h s1 s2 s3 hz;go_enter Tryz.func107,Tryz.ntmps107;go_upto_region 1 with (fail);refine qo ?_;intro w1 hE hsz B0;obtain⟨a0,a1,a2,-⟩:=cells3 B0;rw [<-hn.out] at a0;go_wp2_with fail
 go_loopw [9,3] (fun iv tv wr=>∃ i:Nat,i<=n/\iv=.int .i64 (i:Int)/\tv=.int .i64 (jX Z.z i)/\Ext w wr) (fun iv _ _=>n - (intOf iv).toNat)
 case atStart=>exact⟨0,Nat.zero_le _,rfl,rfl,hE⟩
 case round =>
  obtain⟨i,hi,rfl,rfl,hE1⟩:=hrel
  by_cases hlt:i < n
  case neg =>
   have t1:decide ((i:Int) < (n:Int))=false:=q_f (by omega);have HT:Hid (jX Z.z i=T9):=by rw [Hid,hT9.out,<-hn.out,show i=n by omega]
   rw [HT.out];go_wp2;go_ret;exact⟨rfl,hE1⟩
  have t1:decide ((i:Int) < (n:Int))=true:=q_t (by omega);have t2:(i:Int) < (n:Int):=by omega
  obtain⟨b,off,rfl,hx⟩:=(HI.out.ext hE1).addr (by omega);have p0:=hx i hlt;have hs:=HZ.out;rw [<-hn.out] at hs;have hb:=Ya i (fun j hj=>hs j (by omega));have hu:=xZ.1 (hs i hlt);obtain⟨u,hU⟩:=qc (Z.z i);obtain⟨T,hT⟩:=qc (jX Z.z i);rw [<-hU.out] at p0 hu;rw [<-hT.out] at hb ⊢;have HN:Hid (T+u=jX Z.z (i+1)):=by rw [Hid,hT.out,hU.out]; rfl
  clear hx hs a0 a1 a2 B0 hE hsz;go_wp2;go_roundw
  case rel=>exact⟨i+1,by omega,by go_num,by rw [HN.out],hE1⟩
  case measure=>simp [intOf]; omega
theorem q4C {Z:Sys} (h:VL N lo hi w v Z) :
  Calls Tryz.prog 105 #[v] w (zL w (.int .i64 (if Jd Z=true then 0 else 3))):=by
 have HS:=q_h h;obtain⟨A1,c1,A2,c2,A3,c3,rfl,s1,s2,s3,k1,-⟩:=h.parts;have HI:=q_h s1;obtain⟨r,hr⟩:=qc (if Jd Z=true then (0:Int) else 3);rw [<-hr.out]
 have HB:Hid (¬ (1<=Z.ns/\Z.ns<=12)->r=3):=fun h9=>by
  rw [hr.out,if_neg];unfold Jd;simp only [Bool.and_eq_true,decide_eq_true_eq];exact fun h8=>h9 h8.1
 have HC:Hid (∀ i,i < Z.ns->sz1 (Z.z i)=false->r=3):=fun i hi h9=>by
  rw [hr.out,if_neg];unfold Jd;rw [qL hi h9]
  simp
 have HD:Hid (1<=Z.ns->Z.ns<=12->(∀ i,i < Z.ns->sz1 (Z.z i)=true)->r=if 64 < jX Z.z Z.ns then 3 else 0):=fun h1 h2 h3=>by
  rw [hr.out];unfold Jd;rw [qg.2 h3,q_t h1,q_t h2]
  by_cases h4:64 < jX Z.z Z.ns
  ·rw [if_pos h4,q_f (by omega),if_neg (by decide)]
  ·rw [if_neg h4,q_t (by omega),if_pos (by decide)]
 clear h s1 s2 s3 hr;obtain⟨n,hn⟩:=qc Z.ns;have hS9:=HS.out;rw [<-hn.out] at HI HB HC HD HS k1;clear hS9;go_enter Tryz.func105,Tryz.ntmps105;go_upto_region 1 with (fail);refine qo ?_;intro w1 hE hsz B0;obtain⟨a0,a1,a2,-⟩:=cells3 B0;rw [<-hn.out] at a0
 by_cases h1:n < 1
 ·have t1:decide ((n:Int) < 1)=true:=q_t (by omega);have HR:Hid (r=3):=HB.out (by omega);clear h1;go_wp2;go_ret;rw [HR.out];exact⟨rfl,hE⟩
 have t1:decide ((n:Int) < 1)=false:=q_f (by omega)
 by_cases h2:12 < n
 ·have t2:decide (12 < (n:Int))=true:=q_t (by omega);have HR:Hid (r=3):=HB.out (by omega);clear h2;go_wp2;go_ret;rw [HR.out];exact⟨rfl,hE⟩
 have t2:decide (12 < (n:Int))=false:=q_f (by omega);go_wp2_with fail
 go_loopw [18] (fun iv wr=>∃ i:Nat,i<=n/\iv=.int .i64 (i:Int)/\Ext w1 wr/\Hid (∀ j,j < i->sz1 (Z.z j)=true)) (fun iv _=>n - (intOf iv).toNat)
 case atStart=>exact⟨0,Nat.zero_le _,rfl,Ext.refl _,fun j hj=>absurd hj (Nat.not_lt_zero j)⟩
 case round =>
  obtain⟨i,hi,rfl,hE1,hA⟩:=hrel;clear a0 a1 a2;obtain⟨a0,a1,a2,-⟩:=cells3 (hE1.block B0);rw [<-hn.out] at a0
  by_cases hlt:i < n
  case neg =>
   have t3:decide ((i:Int) < (n:Int))=false:=q_f (by omega);have hA':∀ j,j < Z.ns->sz1 (Z.z j)=true:=fun j hj=>hA.out j (by have:=hn.out; omega)
   have HT:=q_h (q0Y (HS.out.ext (hE.trans hE1)) (by have:=hn.out; omega) hA');have HR:=HD.out (by omega) (by omega) (fun j hj=>hA.out j (by omega));obtain⟨T,hT⟩:=qc (jX Z.z Z.ns);rw [<-hT.out] at HT;rw [hn.out,<-hT.out] at HR;have HR':=q_h HR;clear HR hA';go_wp2_with (go_at_call 107; refine q_o ?_);refine (HT.out).mono ?_;rintro e w2 ⟨rfl,e2⟩
   by_cases h4:64 < T
   ·have t4:decide (64 < T)=true:=q_t h4;obtain rfl:r=3:=by rw [HR'.out,if_pos h4]
    clear h4;go_wp2;go_ret;exact⟨rfl,hE.trans (hE1.trans e2)⟩
   ·have t4:decide (64 < T)=false:=q_f h4;obtain rfl:r=0:=by rw [HR'.out,if_neg h4]
    clear h4;go_wp2;go_ret;exact⟨rfl,hE.trans (hE1.trans e2)⟩
  have t3:decide ((i:Int) < (n:Int))=true:=q_t (by omega);have t5:(i:Int) < (n:Int):=by omega
  obtain⟨b,off,rfl,hx⟩:=(HI.out.ext (hE.trans hE1)).addr (by omega);have p0:=hx i hlt;have HCi:=q_h (HC.out i hlt);obtain⟨u,hU⟩:=qc (Z.z i);rw [<-hU.out] at p0 HCi;clear hx
  by_cases h3:u < 1
  ·have t6:decide (u < 1)=true:=q_t h3;obtain rfl:r=3:=HCi.out (by unfold sz1; rw [q_f (by omega)]; rfl);clear h3;go_wp2;go_ret;exact⟨rfl,hE.trans hE1⟩
  have t6:decide (u < 1)=false:=q_f h3
  by_cases h4:12 < u
  ·have t7:decide (12 < u)=true:=q_t h4;obtain rfl:r=3:=HCi.out (by unfold sz1; rw [q_f (show ¬ u<=12 by omega),Bool.and_false]);clear h3 h4;go_wp2;go_ret;exact⟨rfl,hE.trans hE1⟩
  have t7:decide (12 < u)=false:=q_f h4
  have HA2:Hid (∀ j,j < i+1->sz1 (Z.z j)=true):=fun j hj=>by
   by_cases hji:j=i
   ·rw [hji,<-hU.out]; exact xZ.2 ⟨by omega,by omega⟩
   ·exact hA.out j (by omega)
  clear h3 h4;go_wp2;go_roundw
  case rel=>exact⟨i+1,by omega,by go_num,hE1,HA2⟩
  case measure=>simp [intOf]; omega
theorem Z5.own_lt {xs:List Value} (h:Z5 base w v xs) (hk:v.ownBlock=some k):base<=k/\k < w.heap.size:=by
 obtain⟨h0,h1,⟨rfl,-⟩ | ⟨g0,cap,cur,rfl,hb,hg,h3⟩⟩:=h
 ·simp [Value.ownBlock] at hk
 ·have:g0=k:=by simpa [Value.ownBlock] using hk
  subst this;exact⟨hb,qG hg⟩
theorem q2i {x:Nat->Rat} (h:Grow N base w v n x):∃ g',base<=g'/\NoU w g'/\(∀ k,v.ownBlock=some k->k=g')/\(v.ownBlock=some g'\/g'=w.heap.size):=by
 obtain⟨h1,h2,⟨rfl,-⟩ | ⟨g0,cap,rfl,hg,hm,hr⟩⟩:=h
 ·exact⟨w.heap.size,h2,fun cs fr h=>by (rw [Array.getElem?_eq_none (q_r)] at h; cases h),fun k hk=>by simp [Value.ownBlock] at hk,.inr rfl⟩
 ·exact⟨g0,hg,hr.noU,fun k hk=>by simpa [Value.ownBlock] using hk.symm,.inl rfl⟩
theorem vV (t ty:TypeId) (ht:Tryz.prog.underlying t=some (.slice 58)) {x:Nat->Rat} (h:Grow N base w v n x)
 {neg:Bool} {u:Value} {fr:Nat×Nat} (hb:w.heap[b]?=some (.cells #[.bool neg,s,.bool false,u] 58 fr)) (hneg:Hid (neg=decide (q.num < 0))) (hs:Gs N w s (dg q.num.natAbs)) (hu:Gs N w u (dg q.den)) (hn:n < 1000000000) :
  ∃ g cap w' g',(Builtin.append_ #[t,t] ty #[v,.slice (some ⟨b,0,none⟩) 1 1]).run Tryz.prog w=.ok (.slice (some ⟨g,0,none⟩) (n+1) cap) w'/\Grow N base w' (.slice (some ⟨g,0,none⟩) (n+1) cap) (n+1) (upd x n q)/\base<=g'/\Chg g' (g'+1) w w'/\(v.ownBlock=some g'\/g'=w.heap.size)/\(v.ownBlock=some g\/g=w.heap.size):=by
 obtain⟨i0,hi0,hz0,hz1,hz2⟩:=info_parts xw;obtain⟨g1,cap1,w1,hrun1,hG1,-,-⟩:=xC t ty ht h hb hneg hs hu hn;obtain⟨g',hg',hT,hk,hw9⟩:=q2i h;obtain⟨h1,h2,h3⟩:=h
 have hown:∃ xs,w.ownsRow base 58 4 v n xs:=by
  rcases h3 with ⟨rfl,rfl⟩ | ⟨g,cap,rfl,hg,hm,hr⟩
  ·exact⟨[],⟨by simp,.inl ⟨rfl,rfl⟩⟩⟩
  ·obtain⟨xs,hx,hc⟩:=QC hr hm hg;exact⟨xs,hx⟩
 obtain⟨xs,hown⟩:=hown;obtain⟨As,ns,cs0,rfl,-,-,-⟩:=hs.form;obtain⟨Au,nu,cu,rfl,-,-,-⟩:=hu.form
 obtain⟨g,cap,w',hrun,ho,hgr,hat,hlt⟩:=run_append_lies (P:=Tryz.prog) w t ty base 58 i0 _ 4 64 ht hi0 hz0 hz1 hz2 rfl (by omega) v n xs hown ⟨b,0,none⟩ 1 1 [.bool neg,.slice As ns cs0,.bool false,.slice Au nu cu] rfl
  (fun j u hj=>by
   have e:(⟨b,0,none⟩:Addr).add j=⟨b,j,none⟩:=by
    unfold Addr.add; split
    ·rename_i e; subst e; rfl
    ·simp
   rw [e,qx hb]
   simpa using hj)
  (fun u hu=>by simp at hu; rcases hu with rfl | rfl | rfl | rfl <;> rfl) (by omega) (by unfold maxLen; omega) (by omega) h2 w.heap.size rfl
 rw [hrun1] at hrun;injection hrun with e1 e2
 injection e1 with e1 _ e3
 injection e1 with e1
 injection e1 with e1 _
 subst e1 e2 e3;exact⟨g1,cap1,w1,g',hrun1,hG1,hg',zG hgr hk hT,hw9,hat⟩
theorem xq {ops:Array Oper} {o:Oper} {a:Act} {K:Act->World->Prop} {Q:Exit->Act->World->Prop} {E:Prop} (hgd:o.guard=none) (s x:Operand) (t:TypeId) (ht:Tryz.prog.underlying t=some (.slice 58))
  (ho:o.op=.call { callee:=.builtin .append,args:=#[s,x],argTypes:=#[t,t] }) {f:Nat->Rat} (hs:a.eval s=v) (h:Grow N base w v n f)
 (hx:a.eval x=.slice (some ⟨b,0,none⟩) 1 1) {neg:Bool} {s1 s2:Value} {fr:Nat×Nat} (hb:w.heap[b]?=some (.cells #[.bool neg,s1,.bool false,s2] 58 fr)) (hneg:Hid (neg=decide (q.num < 0))) (g1:Gs N w s1 (dg q.num.natAbs)) (g2:Gs N w s2 (dg q.den)) (hn:n < 1000000000)
  (hK:∀ g cap w' g',Grow N base w' (.slice (some ⟨g,0,none⟩) (n+1) cap) (n+1) (upd f n q)->base<=g'->Chg g' (g'+1) w w'->(v.ownBlock=some g'\/g'=w.heap.size)->(v.ownBlock=some g\/g=w.heap.size)->K (a.put o.dst (.slice (some ⟨g,0,none⟩) (n+1) cap)) w') :
  if Region.wanted o (yielded ops a.tmps)=true then Oper.wp Tryz.prog o a w K Q else E:=by
 have hw:Region.wanted o (yielded ops a.tmps)=true:=by simp [Region.wanted,hgd]
 rw [if_pos hw];obtain⟨g,cap,w',g',hrun,h2,h3,h4,h5,h6⟩:=vV t o.type ht h hb hneg g1 g2 hn;unfold Oper.wp execOp;simp only [ho,resolve,invoke,builtin,Sem.run_bind,Sem.run_pure,Result.andThen_ok,List.map_toArray,List.map_cons,List.map_nil,hs,hx,hrun];exact hK g cap w' g' h2 h3 h4 h5 h6
def Mn.rbk (N:Nat) (q:Rat):Mn:=⟨fun v w=>∃ g,v=.slice (some ⟨g,0,none⟩) 1 1/\kW N w g q,fun e h=>by
  obtain⟨g,h0,h1⟩:=h
  exact⟨g,h0,h1.ext e⟩⟩
theorem q0u {cap:Nat} (h:w.ownsRow base 58 4 (.slice (some ⟨g,0,none⟩) 0 cap) 0 []) (hN:N<=base) (hb:base<=w.heap.size) (x:Nat->Rat):Grow N base w (.slice (some ⟨g,0,none⟩) 0 cap) 0 x:=by
 rcases h.2 with ⟨h0,-⟩ | ⟨g',cap',cur,hv,hg,hh,hnc,hcm,hcs,-⟩
 ·cases h0
 ·simp only [Value.slice.injEq,Option.some.injEq,Addr.mk.injEq,and_true,true_and] at hv;obtain⟨rfl,rfl⟩:=hv;exact⟨hN,hb,.inr ⟨_,_,rfl,hg,hcm,by omega,Nat.zero_le _,⟨cur,hh,hcs⟩,fun j hj=>absurd hj (Nat.not_lt_zero j)⟩⟩
theorem jl {ops:Array Oper} {rest:List Oper} {o:Oper} {a:Act} {Q:Exit->Act->World->Prop} (hg:o.guard=none) (l c:Operand) (hop:o.op=Op.makeSlice 24 l c)
  (kl kc:IntKind) (C:Int) (n:Nat) (hl:a.eval l=.int kl 0) (hc:a.eval c=.int kc C) (hC:C=(n:Int)) (hn:n < 1000000) (hN:N<=base) (hb:base<=w.heap.size)
  (hK:∀ w',(∀ x,Grow N base w' (.slice (some ⟨w.heap.size,0,none⟩) 0 n) 0 x)->Ext w w'->wpList Tryz.prog ops Q rest (a.put o.dst (.slice (some ⟨w.heap.size,0,none⟩) 0 n)) w'):wpList Tryz.prog ops Q (o :: rest) a w:=by
 obtain⟨i0,hi0,hz0,hz1,hz2⟩:=info_parts xw;refine wpList_make_own w hg l c 24 hop base 58 i0 _ 4 Tryz.underlying24 hi0 hz0 hz1 kl kc C n hl hc hC (by rw [hz2]; omega) (by unfold maxLen; omega) hb ?_;intro w' h1 h2;have hx:=(Ext.refl w).grown h2 (fun k hk=>by cases hk);exact hK w' (fun x=>q0u h1 hN (q_l hb hx.size) x) hx
theorem q3m {lo' hi':Nat} {u:Value} {x y:Nat->Rat} (h:LsV N lo hi w v n x) (h':LsV N lo' hi' w u n y) (hs:∀ i,i < n->Sz (x i)/\Sz (y i)) (hn:n < 1000000) :
  Calls Tryz.prog 61 #[v,u] w (q2R N w n (fun i=>x i - y i)):=by
 have hN:N<=w.heap.size:=LsV.le h;obtain⟨R,hR⟩:=qc (q2R N w n (fun i=>x i - y i));rw [<-hR.out];have HX:=q_h h;have HY:=q_h h';have HS:=q_h hs;obtain⟨A1,c1,rfl,k1,-⟩:=h.form;obtain⟨A2,c2,rfl,k2,-⟩:=h'.form;clear h h' hs;go_enter Tryz.func61,Tryz.ntmps61;go_wp2_with (at_make; refine q_o ?_);refine jl (N:=N) (base:=w.heap.size) rfl _ _ rfl .i64 .i64 _ n rfl rfl rfl hn hN (q_r) ?_;intro w1 hG e1;have HG0:=q_h (hG (fun i=>x i - y i));clear hG;go_wp2_with fail
 go_loopw [12,5] (fun iv ov wr=>∃ (i:Nat) (g c:Nat),i<=n/\iv=.int .i64 (i:Int)/\ov=.slice (some ⟨g,0,none⟩) i c/\Grow N w.heap.size wr ov i (fun i=>x i - y i)/\Ext w wr) (fun iv _ _=>n - (intOf iv).toNat)
 case atStart=>exact⟨0,_,_,Nat.zero_le _,rfl,rfl,HG0.out,e1⟩
 case round =>
  obtain⟨i,g,c,hi,rfl,rfl,HG,hE⟩:=hrel
  by_cases hlt:i < n
  case neg =>
   have t1:decide ((i:Int) < (n:Int))=false:=q_f (by omega);obtain rfl:n=i:=by omega
   go_wp2
   first | go_ret | skip
   rw [hR.out];exact⟨_,_,rfl,HG.lsv (q_r) rfl,hE⟩
  have t1:decide ((i:Int) < (n:Int))=true:=q_t (by omega);have t2:(i:Int) < (n:Int):=by omega
  obtain⟨b1,o1,rfl,-,-,hx⟩:=LsV.addr (HX.out.ext hE) (by omega);obtain⟨b2,o2,rfl,-,-,hy⟩:=LsV.addr (HY.out.ext hE) (by omega);obtain⟨n1,A3,k3,c3,A4,k4,c4,p0,p1,p2,p3,hb1,g1,g2⟩:=(hx i hlt).open;obtain⟨n2,A5,k5,c5,A6,k6,c6,q0,q1,q2,q3,hb2,g3,g4⟩:=(hy i hlt).open;have hRp:qY N wr (.agg #[.bool n1,.slice A3 k3 c3,.bool false,.slice A4 k4 c4]) (x i):=qY.mk hb1 g1 g2;have hRq:qY N wr (.agg #[.bool n2,.slice A5 k5 c5,.bool false,.slice A6 k6 c6]) (y i):=qY.mk hb2 g3 g4;have HSI:=q_h (HS.out i hlt);obtain⟨xi,hxi⟩:=qc (x i);obtain⟨yi,hyi⟩:=qc (y i);rw [<-hxi.out] at hRp HSI;rw [<-hyi.out] at hRq HSI;obtain⟨wq,hwq⟩:∃ wq,wq=wr:=⟨_,rfl⟩
  subst hwq;clear hx hy hb1 hb2 g1 g2 g3 g4 HG0;go_upto_region 5 with (fail);refine Je [Mn.eq (.slice (some ⟨g,0,none⟩) i c),Mn.eq (.slice (some ⟨b1,o1,none⟩) n c1),Mn.i (i:Int),Mn.q b1 (o1+i*4),Mn.rat N (xi),Mn.eq (.slice (some ⟨b2,o2,none⟩) n c2),Mn.i (i:Int),Mn.q b2 (o2+i*4),Mn.rat N (yi),Mn.rat N (xi - yi),Mn.rbk N (xi - yi),Mn.any,Mn.any] (sM [15,16,17,18,19,20,21,22,23,24,25,26,5]) [11,12] (rQ 11 2) 2 (by kernel_rfl) ?_ ?_
  ·show ∀ i,i < 13->_
   iterate 13 refine fs ?_ ?_
   ·exact fz
   all_goals intro hl; first | exact absurd hl (by decide) | (clear hl; refine stp rfl ?_; intro ac wi eI hB hA K hK)
   have o5:=oOf (hB 5) rfl
   rotate_left
   have o0:=oOf (hB 0) rfl
   rotate_left
   have o6:=oOf (hB 6) rfl
   rotate_left
   obtain⟨_,s16,rfl⟩:=hA 1 16;obtain⟨_,s17,rfl⟩:=hA 2 17
   rotate_left
   obtain⟨_,s18,rfl⟩:=hA 3 18;clear hB hA;have cc0:=eI.cell p0;have cc1:=eI.cell p1;have cc2:=eI.cell p2;have cc3:=eI.cell p3
   ·go_simp;exact q_k hK (hRp.ext eI)
   have o1:=oOf (hB 1) rfl
   rotate_left
   have o6:=oOf (hB 6) rfl
   rotate_left
   obtain⟨_,s20,rfl⟩:=hA 5 20;obtain⟨_,s21,rfl⟩:=hA 6 21
   rotate_left
   obtain⟨_,s22,rfl⟩:=hA 7 22;clear hB hA;have cc0:=eI.cell q0;have cc1:=eI.cell q1;have cc2:=eI.cell q2;have cc3:=eI.cell q3
   ·go_simp;exact q_k hK (hRq.ext eI)
   obtain⟨x19,s19,j19⟩:=hA 4 19;replace j19:Mn.p (Mn.rat N (xi)) x19 wi:=j19;obtain⟨x23,s23,j23⟩:=hA 8 23;replace j23:Mn.p (Mn.rat N (yi)) x23 wi:=j23;clear hB hA
   ·go_simp;refine (q0C j19 j23 HSI.out.1 HSI.out.2).mono ?_;rintro e wj ⟨vj,rfl,hj,ej⟩;go_wp2_with fail;exact hK.out _ _ ej hj
   obtain⟨x24,s24,j24⟩:=hA 9 24;replace j24:Mn.p (Mn.rat N (xi - yi)) x24 wi:=j24;clear hB hA
   ·obtain⟨bj,Aj,kj,cj,Aj',kj',cj',rfl,hbj,gj1,gj2⟩:=qY.parts j24;go_simp;refine qo ?_;intro wj ej hszj BJ;exact hK.out _ _ ej ⟨_,rfl,kW.mk BJ hbj (gj1.ext ej) (gj2.ext ej)⟩
   all_goals clear hB hA; go_simp; exact q_k hK rfl
  intro vals wz eZ hJ;have J15:vals 0=_:=hJ 0 (by decide) (by decide);have J25:Mn.p (Mn.rbk N (xi - yi)) (vals 10) wz:=hJ 10 (by decide) (by decide);clear hJ;simp only [pr,Nat.reduceAdd,J15];clear J15
  generalize vals 10=z25 at J25 ⊢
  obtain⟨gb,rfl,bj,Aj,kj,cj,Aj',kj',cj',BX,hbj,gj1,gj2⟩:=J25;have hGz:=HG.ext eZ;refine ql (i:=11) rfl (by kernel_rfl) (by kernel_rfl) (fun K hK=>?_);refine xq rfl _ _ 24 Tryz.underlying24 rfl (by rfl) hGz (by rfl) BX hbj gj1 gj2 (by omega) ?_;rintro gq cq w17 g' hG8 hb9 c17 u1' u2';refine hK.out _ _ ?_;clear hK K;try simp only [nr]
  refine ql (i:=12) rfl (by kernel_rfl) (by kernel_rfl) (fun K hK=>?_);go_simp;refine hK.out _ _ ?_;clear hK K;try simp only [nr]
  refine qh (by kernel_rfl) ?_ _;have hE8:=c17.ext (hE.trans eZ) hb9
  have HG8:=q_h (hG8.congr (y:=fun i=>x i - y i) (fun j _=>by
   unfold upd
   by_cases h9:j=i
   ·rw [if_pos h9,h9,hxi.out,hyi.out]
   ·rw [if_neg h9]))
  clear hG8 c17 hGz BX hbj gj1 gj2 eZ p0 p1 p2 p3 q0 q1 q2 q3 hRp hRq u1' u2' HG;go_wp2;go_roundw
  case rel=>exact⟨i+1,gq,cq,by omega,by go_num,rfl,HG8.out,hE8⟩
  case measure=>simp [intOf]; omega
theorem Y4 {lo' hi':Nat} {u:Value} {M:Nat->Nat->Rat} {x:Nat->Rat} (h:MtV N lo hi w v m n M) (h':LsV N lo' hi' w u n x) {k':Nat} (hk:HtM m n k M) (hk':HtL n k' x) (hK:n*(k+k'+1)+1<=29000000000) (hm:m < 1000000) :
  Calls Tryz.prog 62 #[v,u] w (q2R N w m (av n M x)):=by
 have hN:N<=w.heap.size:=LsV.le h';obtain⟨R,hR⟩:=qc (q2R N w m (av n M x));rw [<-hR.out];have HX:=q_h h;have HY:=q_h h';have HK:=q_h hk;have HK':=q_h hk';have HKK:=q_h hK;obtain⟨A1,c1,rfl,k1,-⟩:=h.form;obtain⟨A2,c2,rfl,k2,-⟩:=h'.form;clear h h' hk hk' hK;go_enter Tryz.func62,Tryz.ntmps62;go_wp2_with (at_make; refine q_o ?_);refine jl (N:=N) (base:=w.heap.size) rfl _ _ rfl .i64 .i64 _ m rfl rfl rfl hm hN (q_r) ?_;intro w1 hG e1;have HG0:=q_h (hG (av n M x));clear hG;go_wp2_with fail
 go_loopw [15,5] (fun iv ov wr=>∃ (i:Nat) (g c:Nat),i<=m/\iv=.int .i64 (i:Int)/\ov=.slice (some ⟨g,0,none⟩) i c/\Grow N w.heap.size wr ov i (av n M x)/\Ext w wr) (fun iv _ _=>m - (intOf iv).toNat)
 case atStart=>exact⟨0,_,_,Nat.zero_le _,rfl,rfl,HG0.out,e1⟩
 case round =>
  obtain⟨i,g,c,hi,rfl,rfl,HG,hE⟩:=hrel
  by_cases hlt:i < m
  case neg =>
   have t1:decide ((i:Int) < (m:Int))=false:=q_f (by omega);obtain rfl:m=i:=by omega
   go_wp2
   first | go_ret | skip
   rw [hR.out];exact⟨_,_,rfl,HG.lsv (q_r) rfl,hE⟩
  have t1:decide ((i:Int) < (m:Int))=true:=q_t (by omega);have t2:(i:Int) < (m:Int):=by omega
  obtain⟨b1,o1,rfl,-,-,hx⟩:=MtV.addr (HX.out.ext hE) (by omega);obtain⟨A3,c3,p0,-,-,hrow⟩:=hx i hlt;have HROW:=q_h hrow;have HYR:=q_h (HY.out.ext hE);have HGH:=q_h HG;obtain⟨wq,hwq⟩:∃ wq,wq=wr:=⟨_,rfl⟩
  subst hwq;clear hx hrow HG0 HG;go_wp2_with (go_at_call 131; refine q_o ?_);refine (q5v HROW.out HYR.out (fun j hj=>HK.out i hlt j hj) HK'.out HKK.out).mono ?_;intro e w5 hh;obtain⟨b,A,n9,c9,A',n',c',rfl,hb,g1,g2,e5⟩:=hh.form;go_upto_region 6 with (fail);refine qo ?_;intro w6 e6 hsz6 B6;obtain⟨s0,s1,s2,s3,-⟩:=cells4 B6;clear p0;go_wp2_with (at_builtin; refine q_o ?_);refine qo ?_;intro w7 e7 hsz7 B7;have E7:=(e5.trans e6).trans e7;refine zT rfl _ _ 24 Tryz.underlying24 rfl (by rfl) (HGH.out.ext E7) (by rfl) B7 hb (g1.ext (e6.trans e7)) (g2.ext (e6.trans e7)) (by omega) ?_;rintro gq cq w8 hG8 ⟨g',hg',C8,-⟩ hlt8;have hE8:=C8.ext (hE.trans E7) hg'
  have HG8:=q_h (hG8.congr (y:=av n M x) (fun j _=>by
   unfold upd
   by_cases h9:j=i
   ·rw [if_pos h9,h9]; rfl
   ·rw [if_neg h9]))
  clear hG8 C8 E7 B7 B6 s0 s1 s2 s3 e5 e6 e7 g1 g2 hh;go_wp2;go_roundw
  case rel=>exact⟨i+1,gq,cq,by omega,by go_num,rfl,HG8.out,hE8⟩
  case measure=>simp [intOf]; omega
structure Cls (ET:TypeId) (k:Nat) (z0:Value) (bz:Nat):Prop where
 inf:(Tryz.prog.info? ET).map (fun i=>(i.zero,i.size,i.bytes))=some (some z0,k,bz)
 cells:z0.cells.size=k
 pos:0 < k
 lk:k<=10
 le:bz<=100
 ne:ET≠179
def xh (ET:TypeId) (k base:Nat) (w:World) (v:Value) (n:Nat) (xs:List Value):Prop:=base<=w.heap.size/\w.ownsRow base ET k v n xs
section
variable {ET:TypeId} {k:Nat} {z0:Value} {bz:Nat}
theorem xh.empty (hb:base<=g) (h:w.heap[g]?=some (.cells #[] ET (0,0))):xh ET k base w (.slice (some ⟨g,0,none⟩) 0 0) 0 [] :=
 ⟨by have:=qG h; omega,by simp,.inr ⟨g,0,#[],rfl,hb,h,q_r,Nat.zero_le _,by simp,by simp⟩⟩
theorem xh.ext {xs:List Value} (h:xh ET k base w v n xs) (e:Ext w w'):xh ET k base w' v n xs:=by
 refine⟨q_l h.1 e.size,h.2.1,?_⟩
 rcases h.2.2 with h0 | ⟨g,cap,cur,hv,hb,hh,h1,h2,h3,h4⟩
 ·exact .inl h0
 ·exact .inr ⟨g,cap,cur,hv,hb,e.block hh,h1,h2,h3,h4⟩
theorem Xo (hc:Cls ET k z0 bz) {xs:List Value} (t ty:TypeId) (ht:Tryz.prog.underlying t=some (.slice ET)) (h:xh ET k base w v n xs) {a:Addr} {news:List Value} (hl:news.length=m*k)
  (hnews:∀ j u,news[j]?=some u->w.cell? (a.add j)=some u) (h1:∀ u∈news,u.oneCell'=true) (hn:n+m<=1000000) :
  ∃ v' w',(Builtin.append_ #[t,t] ty #[v,.slice (some a) m c]).run Tryz.prog w=.ok v' w'/\xh ET k base w' v' (n+m) (xs ++ news)/\(v'.ownBlock=v.ownBlock\/v'.ownBlock=some w.heap.size)/\(∃ g',base<=g'/\(v.ownBlock=some g'\/g'=w.heap.size)/\Chg g' (g'+1) w w'):=by
 obtain⟨i0,hi0,hz0,hz1,hz2⟩:=info_parts hc.inf;obtain⟨hb0,hown⟩:=h;have hle:=hc.le
 obtain⟨v',w',hrun,hO,hgr,-,hat⟩:=run_append_own_at (P:=Tryz.prog) w base t ty ET i0 _ k bz ht hi0 hz0 hz1 hz2 hc.cells hc.pos v n xs hown a m c news (by omega) hnews h1 (by unfold maxLen; omega)
  (q_l (Nat.mul_le_mul hn hc.le) (by decide)) hb0
 refine⟨v',w',hrun,⟨q_l hb0 hgr.size,hO⟩,hat,?_⟩;have hT:NoU w w.heap.size:=fun cs fr h=>by rw [Array.getElem?_eq_none (q_r)] at h; cases h
 rcases hown.2 with ⟨rfl,h0⟩ | ⟨g0,cap0,cur,rfl,hbb,hh,_⟩
 ·exact⟨w.heap.size,hb0,.inr rfl,zG hgr (fun k hk=>by simp [Value.ownBlock] at hk) hT⟩
 ·have hT0:NoU w g0:=NoU.mk hh hc.ne;exact⟨g0,hbb,.inl rfl,zG hgr (fun k hk=>by simpa [Value.ownBlock] using hk.symm) hT0⟩
theorem Qq (hc:Cls ET k z0 bz) {xs:List Value} {ops:Array Oper} {rest:List Oper} {o:Oper} {a:Act} {Q:Exit->Act->World->Prop} (hgd:o.guard=none) (s x:Operand) (t:TypeId) (ht:Tryz.prog.underlying t=some (.slice ET))
  (ho:o.op=.call { callee:=.builtin .append,args:=#[s,x],argTypes:=#[t,t] }) (hs:a.eval s=v) (h:xh ET k base w v n xs) {ad:Addr} {news:List Value} (hx:a.eval x=.slice (some ad) m c) (hl:news.length=m*k)
  (hnews:∀ j u,news[j]?=some u->w.cell? (ad.add j)=some u) (h1:∀ u∈news,u.oneCell'=true) (hn:n+m<=1000000)
  (hK:∀ v' w',xh ET k base w' v' (n+m) (xs ++ news)->(v'.ownBlock=v.ownBlock\/v'.ownBlock=some w.heap.size)->(∃ g',base<=g'/\(v.ownBlock=some g'\/g'=w.heap.size)/\Chg g' (g'+1) w w')->wpList Tryz.prog ops Q rest (a.put o.dst v') w'):wpList Tryz.prog ops Q (o :: rest) a w:=by
 refine wpList_plain hgd fun _ hK'=>?_
 obtain⟨v',w',hrun,h2,h3,h4⟩:=Xo hc t o.type ht h hl hnews h1 hn (c:=c);unfold Oper.wp execOp;simp only [ho,resolve,invoke,builtin,Sem.run_bind,Sem.run_pure,Result.andThen_ok,List.map_toArray,List.map_cons,List.map_nil,hs,hx,hrun];exact hK' _ _ (hK v' w' h2 h3 h4)
theorem xh.at_ {xs:List Value} (h:xh ET k base w v n xs) (hn:0 < n):∃ g cap,v=.slice (some ⟨g,0,none⟩) n cap/\base<=g/\n<=cap/\cap<=maxLen/\∀ j u,xs[j]?=some u->w.cell? ⟨g,j,none⟩=some u:=by
 have hl:=h.2.1
 rcases h.2.2 with ⟨-,h⟩ | ⟨g,cap,cur,hv,hb,hg,hnc,hcm,hcs,htk⟩
 ·omega
 ·refine⟨g,cap,hv,hb,hnc,hcm,fun j u hj=>?_⟩;rw [qx hg]
  have hjl:j < n*k:=by
   rw [<-hl];exact (List.getElem?_eq_some_iff.1 hj).1
  have h9:(cur.toList.take (n*k))[j]?=some u:=by rw [htk]; exact hj
  rw [List.getElem?_take,if_pos hjl] at h9;simpa using h9
theorem xh.own_lt {xs:List Value} (h:xh ET k base w v n xs):∀ k,v.ownBlock=some k->base<=k/\k < w.heap.size:=by
 rcases h.2.2 with ⟨rfl,h0⟩ | ⟨g,cap,cur,rfl,hb,hh,-⟩
 ·intro k hk; simp [Value.ownBlock] at hk
 ·intro k hk;obtain rfl:g=k:=by simpa [Value.ownBlock] using hk
  exact⟨hb,qG hh⟩
theorem xh.form {xs:List Value} (h:xh ET k base w v n xs):∃ A c,v=.slice A n c:=by
 rcases h.2.2 with ⟨rfl,h0⟩ | ⟨g,cap,cur,rfl,_⟩
 ·exact⟨_,_,by rw [h0]⟩
 ·exact⟨_,_,rfl⟩
end
theorem Xl {ET:TypeId} {z0:Value} {bz:Nat} (ho:One ET z0 bz) (hz:z0.cells=#[z0]) (t:TypeId) (ht:Tryz.prog.underlying t=some (.slice ET)) (w:World) (kl kc:IntKind) (n:Nat) (hn:n < 1000000) :
  ∃ w' cs,(Instr.makeSlice t (.int kl n) (.int kc n)).run Tryz.prog w=.ok (.slice (some ⟨w.heap.size,0,none⟩) n n) w'/\w'.heap[w.heap.size]?=some (.cells cs ET (0,0))/\cs.size=n/\(∀ i,i < n->cs[i]?=some z0)/\Ext w w':=by
 obtain⟨i0,hi0,hz0,hz1,hz2⟩:=info_parts ho.inf;have hle:=ho.le;obtain⟨w',hrun,hown,hgr⟩:=run_make_full (P:=Tryz.prog) w w.heap.size t ET i0 _ 1 ht hi0 hz0 hz1 kl kc n (by rw [hz2]; exact q_l (Nat.mul_le_mul hle (Nat.le_of_lt hn)) (by decide)) (by unfold maxLen; omega) (q_r);have hx:=(Ext.refl w).grown hgr (fun k hk=>by cases hk)
 rcases hown.2 with ⟨h,_⟩ | ⟨g,cap,cur,hv,hg,hh,hnc,hcm,hcs,htk⟩
 ·cases h
 ·have e1:w.heap.size=g:=Option.some.inj (congrArg Value.ownBlock hv);have e3:n=cap:=congrArg (fun v:Value=>match v with | .slice _ _ c=>c | _=>0) hv;subst e1 e3;refine⟨w',cur,hrun,hh,by omega,fun i hi=>?_,hx⟩;rw [hz,toList_madeCells_one] at htk;have h1:(cur.toList.take (n*1))[i]?=(List.replicate (n*1) z0)[i]?:=by rw [htk]
  rw [List.getElem?_take,if_pos (by omega),List.getElem?_replicate,if_pos (by omega)] at h1;simpa using h1
theorem kZ {ET:TypeId} {z0:Value} {bz:Nat} (ho:One ET z0 bz) (hz:z0.cells=#[z0]) {ops:Array Oper} {rest:List Oper} {o:Oper} {a:Act} {Q:Exit->Act->World->Prop} (hg:o.guard=none) (l c:Operand) (t:TypeId) (ht:Tryz.prog.underlying t=some (.slice ET)) (hop:o.op=Op.makeSlice t l c)
  (kl kc:IntKind) (L C:Int) (n:Nat) (hl:a.eval l=.int kl L) (hc:a.eval c=.int kc C) (hL:L=(n:Int)) (hC:C=(n:Int)) (hn:n < 1000000)
  (hK:∀ w' cs,w'.heap[w.heap.size]?=some (.cells cs ET (0,0))->cs.size=n->(∀ i,i < n->cs[i]?=some z0)->Ext w w'->wpList Tryz.prog ops Q rest (a.put o.dst (.slice (some ⟨w.heap.size,0,none⟩) n n)) w'):wpList Tryz.prog ops Q (o :: rest) a w:=by
 refine wpList_plain hg fun K hK'=>?_
 obtain⟨w',cs,hrun,r1,r2,r3,r4⟩:=Xl ho hz t ht w kl kc n hn;subst hL;subst hC;unfold Oper.wp;simp [execOp,hop,hl,hc,hrun,Result.andThen]
 exact hK' _ _ (hK w' cs r1 r2 r3 r4)
def FlB (ET:TypeId) (w:World) (g m:Nat) (f:Nat->Value):Prop:=∃ cs,w.heap[g]?=some (.cells cs ET (0,0))/\cs.size=m/\∀ i,i < m->cs[i]?=some (f i)
theorem FlB.ext {ET:TypeId} {f:Nat->Value} (h:FlB ET w g m f) (e:Ext w w'):FlB ET w' g m f:=by
 obtain⟨cs,h1,h2,h3⟩:=h;exact⟨cs,e.block h1,h2,h3⟩
theorem FlB.chg {ET:TypeId} {f:Nat->Value} (h:FlB ET w g m f) (c:Chg lo hi w w') (hd:g < lo\/hi<=g):FlB ET w' g m f:=by
 obtain⟨cs,h1,h2,h3⟩:=h;exact⟨cs,c.blk h1 hd,h2,h3⟩
theorem FlB.cell {ET:TypeId} {f:Nat->Value} (h:FlB ET w g m f) (hi:i < m):w.cell? ⟨g,i,none⟩=some (f i)/\w.frozen? ⟨g,i,none⟩=false:=by
 obtain⟨cs,h1,h2,h3⟩:=h;exact⟨by rw [qx h1]; exact h3 i hi,zq h1 i⟩
theorem FlB.lt {ET:TypeId} {f:Nat->Value} (h:FlB ET w g m f):g < w.heap.size:=by
 obtain⟨cs,h1,-⟩:=h;exact qG h1
theorem FlB.set {ET:TypeId} {f:Nat->Value} (h:FlB ET w g m f) (hne:ET≠179) (hi:i < m) (v:Value):∃ w',w.setCell ⟨g,i,none⟩ v=w'/\FlB ET w' g m (fun j=>if j=i then v else f j)/\Chg g (g+1) w w'/\w'.heap.size=w.heap.size:=by
 obtain⟨cs,h1,h2,h3⟩:=h;have U:=(Upd.refl g w).set i v;refine⟨_,rfl,⟨_,heap_set h1 i v,by simpa using h2,fun j hj=>?_⟩,U.chg (NoU.mk h1 hne),U.size⟩;rw [Array.getElem?_setIfInBounds]
 by_cases hij:i=j
 ·subst hij;rw [if_pos rfl,if_pos (by omega)]
  show _=some (if i=i then v else f i)
  rw [if_pos rfl]
 ·rw [if_neg hij]
  show _=some (if j=i then v else f j)
  rw [if_neg (fun e:j=i=>hij e.symm)];exact h3 j hj
theorem q46:4≠179:=by decide
def Ko (o:Nat->Int) (n m:Nat):Bool:=decide (n=m) && allB n (fun i=>(decide (0<=o i) && decide (o i < (m:Int))) && allB i (fun j=>!decide (o j=o i)))
theorem q1P {o:Nat->Int} (hi:i < n) (h:¬ (0<=o i/\o i < (m:Int))\/∃ j,j < i/\o j=o i):Ko o n m=false:=by
 unfold Ko;rw [qL hi,Bool.and_false]
 rcases h with h | ⟨j,h1,h2⟩
 ·by_cases h0:0<=o i
  ·rw [q_f (show ¬ o i < (m:Int) by omega),Bool.and_false,Bool.false_and]
  ·rw [q_f h0,Bool.false_and,Bool.false_and]
 ·rw [qL h1 (by rw [q_t h2]; rfl),Bool.and_false]
def Ze (o:Nat->Int) (i j:Nat):Bool:=jk i (fun k=>decide (o k=(j:Int)))
theorem vG {o:Nat->Int} (h:IzV N lo hi w v n o) (hm:m < 1000000) :
  Calls Tryz.prog 57 #[v,.int .i64 (m:Int)] w (zL w (.bool (Ko o n m))):=by
 have HI:=q_h h;obtain⟨A,c,rfl,hnc,hcm⟩:=h.form;unfold maxLen at hcm;obtain⟨r,hr⟩:=qc (Ko o n m);rw [<-hr.out];clear h;go_enter Tryz.func57,Tryz.ntmps57;go_wp2_with (at_make; refine q_o ?_);refine kZ q1S rfl rfl _ _ 161 Tryz.underlying161 rfl .i64 .i64 _ _ m rfl rfl rfl rfl hm ?_;intro w1 cs B1 hcs hz e1;have HF:Hid (FlB 4 w1 w.heap.size m (fun j=>.bool (Ze o 0 j))):=⟨cs,B1,hcs,hz⟩
 clear B1 hcs hz;go_wp2_with fail
 go_loopw [12] (fun iv wr=>∃ i:Nat,i<=n/\iv=.int .i64 (i:Int)/\Hid (FlB 4 wr w.heap.size m (fun j=>.bool (Ze o i j)))/\Ext w wr/\Hid (∀ j,j < i->(0<=o j/\o j < (m:Int))/\∀ k,k < j->o k≠o j)) (fun iv _=>n - (intOf iv).toNat)
 case atStart=>exact⟨0,Nat.zero_le _,rfl,HF,e1,fun j hj=>absurd hj (Nat.not_lt_zero j)⟩
 case round =>
  clear HF e1;obtain⟨i,hi,rfl,HF,hE,HO⟩:=hrel
  by_cases hlt:i < n
  case neg =>
   have t1:decide ((i:Int) < (n:Int))=false:=q_f (by omega)
   have HR:Hid (r=decide (n=m)):=by
    rw [Hid,hr.out];unfold Ko;rw [qg.2,Bool.and_true];intro j hj;obtain⟨⟨h1,h2⟩,h3⟩:=HO.out j (by omega);rw [q_t h1,q_t h2,qg.2]
    ·rfl
    ·intro k hk;rw [q_f (h3 k hk)]
     rfl
   by_cases hnm:n=m
   ·obtain rfl:r=true:=by rw [HR.out,q_t hnm]
    have t2:((n:Int) == (m:Int))=true:=by simp [hnm]
    clear hnm;go_wp2;go_ret;exact⟨rfl,hE⟩
   ·obtain rfl:r=false:=by rw [HR.out,q_f hnm]
    have t2:((n:Int) == (m:Int))=false:=by simp; omega
    clear hnm;go_wp2;go_ret;exact⟨rfl,hE⟩
  have t1:decide ((i:Int) < (n:Int))=true:=q_t (by omega);have t2:(i:Int) < (n:Int):=by omega
  obtain⟨b,off,rfl,hx⟩:=(HI.out.ext hE).addr (by omega);have p0:=hx i hlt;obtain⟨u,hu⟩:=qc (o i);rw [<-hu.out] at p0
  have HB:Hid (¬ (0<=u/\u < (m:Int))\/(∃ j,j < i/\o j=u)->r=false):=fun h9=>by
   rw [hr.out];exact q1P hlt (by rw [<-hu.out]; exact h9)
  clear hx
  by_cases k0:u < 0
  ·have t3:decide (u < 0)=true:=decide_eq_true k0;obtain rfl:r=false:=HB.out (.inl (by omega));clear k0;go_wp2;go_ret;exact⟨rfl,hE⟩
  have t3:decide (u < 0)=false:=decide_eq_false k0
  by_cases k1:(m:Int)<=u
  ·have t4:decide ((m:Int)<=u)=true:=decide_eq_true k1;obtain rfl:r=false:=HB.out (.inl (by omega));clear k0 k1;go_wp2;go_ret;exact⟨rfl,hE⟩
  have t4:decide ((m:Int)<=u)=false:=decide_eq_false k1;obtain⟨j,rfl⟩:∃ j:Nat,u=(j:Int):=⟨u.toNat,by omega⟩
  have hj:j < m:=by omega
  have hj':(j:Int) < (m:Int):=by omega
  obtain⟨q0,q1⟩:=HF.out.cell hj;obtain⟨s,hs⟩:=qc (Ze o i j);rw [<-hs.out] at q0;cases s with
  | true =>
   obtain rfl:r=false:=HB.out (.inr (by
    have h9:=hs.out.symm;unfold Ze jk at h9;simp only [List.any_eq_true,List.mem_range,decide_eq_true_eq] at h9
    exact h9))
   clear k0 k1;go_wp2;go_ret;exact⟨rfl,hE⟩
  | false =>
   have HO2:Hid (∀ k,k < i+1->(0<=o k/\o k < (m:Int))/\∀ l,l < k->o l≠o k):=fun k hk=>by
    by_cases hki:k=i
    ·subst hki;refine⟨by rw [<-hu.out]; omega,fun l hl h9=>?_⟩;have h8:=zM.1 hs.out.symm l hl;rw [decide_eq_false_iff_not] at h8;exact h8 (by rw [h9,<-hu.out])
    ·exact HO.out k (by omega)
   clear k0 k1;go_upto_region 8 with (fail);obtain⟨w5,E5,F5,C5,hs5⟩:=HF.out.set q46 hj (.bool true);rw [E5]
   have HF5:Hid (FlB 4 w5 w.heap.size m (fun k=>.bool (Ze o (i+1) k))):=by
    obtain⟨cs5,h1,h2,h3⟩:=F5;refine⟨cs5,h1,h2,fun k hk=>?_⟩;rw [h3 k hk]
    have h7:Ze o (i+1) k=(Ze o i k || decide (o i=(k:Int))):=by
     unfold Ze jk;rw [List.range_succ,List.any_append]
     simp
    show some (if k=j then Value.bool true else Value.bool (Ze o i k))=some (Value.bool (Ze o (i+1) k))
    by_cases hkj:k=j
    ·rw [if_pos hkj,h7,<-hu.out,hkj,decide_eq_true rfl,Bool.or_true]
    ·rw [if_neg hkj,h7,<-hu.out,q_f (by omega),Bool.or_false]
   have hE5:=C5.ext hE (q_r);clear E5 F5 C5 q0 q1 HF p0;go_wp2;go_roundw
   case rel=>exact⟨i+1,by omega,by go_num,HF5,hE5,HO2⟩
   case measure=>simp [intOf]; omega
section
variable {P:Program} {ops:Array Oper} {Q:Exit->Act->World->Prop} {late:List Nat}
def q4f (ops:Array Oper) (late soft:List Nat):Bool:=(List.range ops.size).all fun i=>late.contains i || soft.contains i || yI ops late i
def apartB (ops:Array Oper) (i:Nat):Bool :=
 match ops[i]? with
 | some oi=>(List.range ops.size).all fun j=>j == i || (jc ops j).contains i || (sweep ops i (jc ops i)).contains j || (match ops[j]? with | some oj=>oi.apart ops oj | none=>true)
 | none=>false
def q3I (ops:Array Oper) (late soft:List Nat):Bool:=soft.all fun i=>decide (i < ops.size) && !late.contains i && apartB ops i && (jc ops i).all fun j=>yI ops late j
def Sft (P:Program) (ops:Array Oper) (Q:Exit->Act->World->Prop) (Js:List Mn) (ds:List (Option Tmp)) (a0:Act) (W:World) (i:Nat):Prop :=
 ∀ o,ops.toList[i]?=some o->(∀ c a v w,Q (.panic c) (Act.put a o.dst v) w->Q (.panic c) a w)/\∀ a w,Ext W w->(∀ t,ds.contains (some t)=false->a.tmps[t]?=a0.tmps[t]?) ->
  (∀ j,(jc ops i).contains j=true->∀ t,ds[j]?=some (some t)->∃ v,a.tmps[t]?=some v/\(Js[j]?.getD Mn.any).p v w) ->
  ∃ v,YieldsIf P ops (fun _=>True) o v a/\(Js[i]?.getD Mn.any).p v w
theorem sft {Js:List Mn} {ds:List (Option Tmp)} {a0:Act} {W:World} {o:Oper} (hi:ops.toList[i]?=some o) (hQ:∀ c a v w,Q (.panic c) (Act.put a o.dst v) w->Q (.panic c) a w)
  (h:∀ a w,Ext W w->(∀ (t:Nat) (_:ds.contains (some t)=false:=by kernel_rfl),a.tmps[t]?=a0.tmps[t]?) ->
   (∀ (j t:Nat) (_:(jc ops i).contains j=true:=by kernel_rfl) (_:ds[j]?=some (some t):=by rfl),∃ v,a.tmps[t]?=some v/\(Js[j]?.getD Mn.any).p v w) ->
   ∃ v,YieldsIf P ops (fun _=>True) o v a/\(Js[i]?.getD Mn.any).p v w):Sft P ops Q Js ds a0 W i:=by
 intro o' ho';rw [hi] at ho';cases ho'
 exact⟨hQ,fun a w e hB hA=>h a w e hB (fun j t h1 h2=>hA j h1 t h2)⟩
theorem q4j {soft:List Nat} {Js:List Mn} {ds:List (Option Tmp)} {a0:Act} {W:World} (hd:ops.toList.map (·.dst)=ds) (hnd:nodupB ds=true) (hsz:Vz ds a0.tmps.size=true) (hlow:q4e ops=true) (hlate:q4f ops late soft=true) (hsoft:q3I ops late soft=true) (hns:Region.noSelect ops=true)
  (hstep:∀ i,i < ops.size->late.contains i=false->soft.contains i=false->Stp P ops Q late Js ds a0 W i) (hsft:∀ i,soft.contains i=true->Sft P ops Q Js ds a0 W i) (hk:cnt (lastB ops late).toArray ops.size=k)
  (hdone:∀ vals w,Ext W w->(∀ j,j < ops.size->late.contains j=false->(Js[j]?.getD Mn.any).p (vals j) w)->x8 P ops Q (fun _=>True) late k (lastB ops late).toArray (qO ds (lastB ops late) vals 0 a0) w) :
  ∀ (fuel:Nat) (listed:Array Bool) (vals:Nat->Value) (w:World),listed.size=ops.size->Closed ops listed->(∀ t,late.contains t=true->t < ops.size->listed.getD t false=false)->cnt listed ops.size<=fuel->Ext W w ->
   (∀ j,listed.getD j false=true->(Js[j]?.getD Mn.any).p (vals j) w)->YV P ops Q (fun _=>True) late fuel listed (qO ds listed.toList vals 0 a0) w:=by
 intro fuel
 induction fuel with
 | zero =>
  intro listed vals w h1 h2 h3 h4 h5 h6
  by_cases hall:∀ i,i < ops.size->late.contains i=false->listed.getD i false=true
  ·have hL:listed=(lastB ops late).toArray:=by
    apply Array.ext
    ·simp [lastB,h1]
    ·intro i hi _;have hio:i < ops.size:=by omega
     have e1:listed[i]=listed.getD i false:=by simp [hi]
     rw [e1];simp only [lastB,List.getElem_toArray,List.getElem_map,List.getElem_range];cases hc:late.contains i with
     | false=>exact hall i hio hc
     | true=>exact h3 i hc hio
   subst hL;have:=hdone vals w h5 (fun j hj hc=>h6 j (hall j hj hc)) h2;rw [hk] at h4;exact X7 h4 this
  ·exfalso
   apply hall
   intro i hi _
   have hz:∀ n,n<=ops.size->cnt listed n=0->∀ i,i < n->listed.getD i false=true:=by
    intro n
    induction n with
    | zero=>intro _ _ i hi; omega
    | succ n ih =>
     intro hn hc i hi;unfold cnt at hc
     by_cases e:i=n
     ·subst e
      by_cases hg:listed.getD i false=true
      ·exact hg
      ·rw [if_neg hg] at hc; omega
     ·exact ih (by omega) (by omega) i (by omega)
   exact hz ops.size (q_r) (by omega) i hi
 | succ fuel ih =>
  intro listed vals w h1 h2 h3 h4 h5 h6
  by_cases hall:∀ i,i < ops.size->late.contains i=false->listed.getD i false=true
  ·have hL:listed=(lastB ops late).toArray:=by
    apply Array.ext
    ·simp [lastB,h1]
    ·intro i hi _;have hio:i < ops.size:=by omega
     have e1:listed[i]=listed.getD i false:=by simp [hi]
     rw [e1];simp only [lastB,List.getElem_toArray,List.getElem_map,List.getElem_range];cases hc:late.contains i with
     | false=>exact hall i hio hc
     | true=>exact h3 i hc hio
   subst hL;have:=hdone vals w h5 (fun j hj hc=>h6 j (hall j hj hc)) h2;rw [hk] at h4;exact X7 h4 this
  ·have hfacts:∀ i,i∈Region.ready .any ops listed->∀ j,(jc ops i).contains j=true->∀ t,ds[j]?=some (some t)->∃ v,(qO ds listed.toList vals 0 a0).tmps[t]?=some v/\(Js[j]?.getD Mn.any).p v w:=by
    intro i hi j hj t ht;have hjl:=x9 hi j (by simpa using hj);refine⟨vals j,?_,h6 j hjl⟩
    have hjs:j < listed.size:=by
     rcases Nat.lt_or_ge j listed.size with h | h
     ·exact h
     ·simp [Array.getElem?_eq_none h] at hjl
    have:=wu ds listed.toList vals 0 j a0 hnd (by rw [Array.getElem?_toList]; simp [hjs] at hjl ⊢; exact hjl) ht (by
     have:=List.all_eq_true.1 hsz (some t) (List.mem_of_getElem? ht)
     simpa using this)
    rw [Nat.zero_add] at this;exact this
   have hnext:∀ i,i∈Region.ready .any ops listed->late.contains i=false->∀ (o:Oper),ops.toList[i]?=some o->∀ v w',Ext w w'->(Js[i]?.getD Mn.any).p v w'->YV P ops Q (fun _=>True) late fuel (listed.setIfInBounds i true) ((qO ds listed.toList vals 0 a0).put o.dst v) w':=by
    intro i hi hic o ho' v w' e hJ;have hun:=yO hi
    have hio:i < ops.size:=by
     rw [Array.getElem?_toList] at ho';exact (Array.getElem?_eq_some_iff.1 ho').1
    have hdi:ds[i]?=some o.dst:=by rw [<-hd,List.getElem?_map,ho']; rfl
    have hbi:listed.toList[i]?=some false:=by
     rw [Array.getElem?_toList];have:i < listed.size:=by omega
     simp [this] at hun ⊢; exact hun
    have hc:=JX (by omega:i < listed.size) hun ops.size;rw [if_pos hio] at hc;have hps:=vY (v:=v) ds listed.toList vals 0 i a0 hnd hbi hdi;rw [Nat.zero_add] at hps;rw [<-hps,<-Array.toList_setIfInBounds];refine ih (listed.setIfInBounds i true) (Zj vals i v) w' (by simpa using h1) (h2.set hi) (fun t htl htn=>?_) (by omega) (h5.trans e) (fun j hj=>?_)
    ·rw [Go.getD_set_ne false (fun e=>by subst e; rw [hic] at htl; cases htl)];exact h3 t htl htn
    ·by_cases hji:i=j
     ·subst hji;have:Zj vals i v i=v:=by simp [Zj]
      rw [this]; exact hJ
     ·rw [Go.getD_set_ne false hji] at hj;have:Zj vals i v j=vals j:=by unfold Zj; rw [if_neg (fun e=>hji e.symm)]
      rw [this];exact (Js[j]?.getD Mn.any).mono e (h6 j hj)
   by_cases hsr:∃ i,soft.contains i=true/\i∈Region.ready .any ops listed
   ·obtain⟨i,his,hi⟩:=hsr;have hsb:=List.all_eq_true.1 hsoft i (by simpa using his);simp only [Bool.and_eq_true,decide_eq_true_eq,Bool.not_eq_true'] at hsb;obtain⟨⟨⟨hio,hic⟩,hap⟩,-⟩:=hsb;obtain⟨-,o,ho,-⟩:=mem_ready.1 hi;have ho':ops.toList[i]?=some o:=by rw [Array.getElem?_toList]; exact ho
    obtain⟨hQ,hsf⟩:=hsft i his o ho';obtain⟨v,hy,hJ⟩:=hsf _ w h5 (fun t ht=>vZ ds _ vals 0 a0 ht) (hfacts i hi);refine J3 ho (Region.noSelect_spec hns) (fun c a w=>hQ c a v w) fuel listed _ w (fun j oj hoj hji hjl hno=>?_) hi hy (hnext i hi hic o ho' v w (Ext.refl _) hJ);unfold apartB at hap;rw [ho] at hap;have hjo:j < ops.size:=(Array.getElem?_eq_some_iff.1 hoj).1;have h9:=List.all_eq_true.1 hap j (by simpa using hjo);rw [hoj] at h9;simp only [Bool.or_eq_true,beq_iff_eq] at h9
    rcases h9 with ((h9 | h9) | h9) | h9
    ·exact absurd h9 hji
    ·exfalso
     have h8:i∈jc ops j:=by simpa using h9
     unfold jc at h8;rw [hoj] at h8;simp only [List.mem_map,List.mem_filter] at h8;obtain⟨e,⟨he,hb⟩,hon⟩:=h8;exact hno e (by simpa using he) hb hon
    ·exfalso
     have h7:=jw h2 i (jc ops i) (fun x hx=>x9 hi x hx) j (by simpa using h9);have h6':j < listed.size:=by omega
     simp [h6'] at h7 hjl
     rw [h7] at hjl; cases hjl
    ·exact h9
   ·have hex:∃ i,i < ops.size/\late.contains i=false/\listed.getD i false=false:=by
     apply Classical.byContradiction
     intro hno
     apply hall
     intro i hi hc;cases hl:listed.getD i false with
     | true=>rfl
     | false=>exact absurd ⟨i,hi,hc,hl⟩ hno
    obtain⟨u,hu,huc,hul⟩:=hex;have hne:=Xu hlow h1 0 (Nat.zero_le _) (fun i hi=>by omega) ⟨u,hu,hul⟩;refine⟨fun h0=>?_,fun i hi=>?_⟩
    ·obtain⟨i,hi⟩:=hne; rw [h0] at hi; cases hi
    ·obtain⟨-,o,ho,-⟩:=mem_ready.1 hi;have hio:i < ops.size:=(Array.getElem?_eq_some_iff.1 ho).1
     have hsi:soft.contains i=false:=by
      cases hc:soft.contains i with
      | false=>rfl
      | true=>exact absurd ⟨i,hc,hi⟩ hsr
     have hic:late.contains i=false:=by
      cases hc:late.contains i with
      | false=>rfl
      | true =>
       exfalso
       have hw:=List.all_eq_true.1 hlate u (by simpa using hu);rw [huc,Bool.false_or] at hw
       rcases (by simpa using hw:soft.contains u=true\/yI ops late u=true) with hs | hs
       ·have hsb:=List.all_eq_true.1 hsoft u (by simpa using hs);rw [Bool.and_eq_true] at hsb;have hpr:=List.all_eq_true.1 hsb.2;refine hsr ⟨u,hs,mem_ready.2 ⟨?_,ops[u],by simp [hu],fun e he hb=>?_⟩⟩
        ·have:u < listed.size:=by omega
         simp [this] at hul ⊢; exact hul
        ·have h8:=hpr e.on (by
          unfold jc;rw [Array.getElem?_eq_getElem hu];simp only [List.mem_map,List.mem_filter]
          exact⟨e,⟨by simpa using he,hb⟩,rfl⟩)
         exact jf h8 h2 hi hc
       ·have:=jf hs h2 hi hc;rw [hul] at this; cases this
     have ho':ops.toList[i]?=some o:=by rw [Array.getElem?_toList]; exact ho
     refine wpOp_step ho (fun K' hK=>?_);exact hstep i hio hic hsi o ho' _ w h5 (fun t ht=>QD (by rw [<-hd]; simp) h3 vals a0 ht) (hfacts i hi) K' (fun v w' e hJ=>hK _ _ ⟨fun _ _=>trivial,hnext i hi hic o ho' v w' e hJ⟩)
theorem Jr (Js:List Mn) (ds:List (Option Tmp)) (late soft:List Nat) (bs:List Bool) (k:Nat) {id:Nat} {a0:Act} {W:World} (hm:P.follows .mixedOrders=true) (hd:ops.toList.map (·.dst)=ds) (hnd:nodupB ds=true) (hsz:Vz ds a0.tmps.size=true) (hlow:q4e ops=true) (hlate:q4f ops late soft=true) (hsoft:q3I ops late soft=true) (hns:Region.noSelect ops=true)
  (hb:lastB ops late=bs) (hk:cnt bs.toArray ops.size=k) (hstep:∀ i,i < ops.size->late.contains i=false->soft.contains i=false->Stp P ops Q late Js ds a0 W i) (hsft:∀ i,soft.contains i=true->Sft P ops Q Js ds a0 W i)
  (hdone:∀ vals w,Ext W w->(∀ j,j < ops.size->late.contains j=false->(Js[j]?.getD Mn.any).p (vals j) w)->x8 P ops Q (fun _=>True) late k bs.toArray (qO ds bs vals 0 a0) w) :
  (Code.region id ops true).wp P Q a0 W:=by
 subst hb
 have h0:∀ n,qO ds (Array.replicate n false).toList (fun _=>undef) 0 a0=a0:=by
  intro n;simp only [Array.toList_replicate]
  have:∀ (ds:List (Option Tmp)) (n k:Nat),qO ds (List.replicate n false) (fun _=>undef) k a0=a0:=by
   intro ds
   induction ds with
   | nil=>intro n k; unfold qO; rfl
   | cons d ds ih =>
    intro n k;cases n with
    | zero=>rfl
    | succ n=>exact ih n (k+1)
  exact this ds n 0
 have hc0:∀ (n:Nat) (l:Array Bool),cnt l n<=n:=by
  intro n l
  induction n with
  | zero=>exact q_r
  | succ n ih=>unfold cnt; split <;> omega
 have hf0:∀ j,(Array.replicate ops.size false).getD j false=false:=fun j=>by
  rw [Array.getD_eq_getD_getElem?,Array.getElem?_replicate]; split <;> rfl
 have:=q4j (P:=P) (Q:=Q) (late:=late) hd hnd hsz hlow hlate hsoft hns hstep hsft hk hdone ops.size (Array.replicate ops.size false) (fun _=>undef) W.drew (by simp) (Closed.start _) (fun t _ _=>hf0 t) (hc0 _ _) (Ext.refl W).drew (fun j hj=>by rw [hf0 j] at hj; cases hj);rw [h0] at this;exact wp_region_any hm (ji _ _ _ _ this)
theorem regS (Js:List Mn) (ds:List (Option Tmp)) (late soft:List Nat) (bs:List Bool) (k:Nat) {id:Nat} {a0:Act} {W:World} (h:(P.follows .mixedOrders && (decide (ops.toList.map (·.dst)=ds) && (nodupB ds && (Vz ds a0.tmps.size && (q4e ops && (q4f ops late soft && (q3I ops late soft && (Region.noSelect ops && (decide (lastB ops late=bs) && decide (cnt bs.toArray ops.size=k))))))))))=true) (hstep:∀ i,i < ops.size->late.contains i=false->soft.contains i=false->Stp P ops Q late Js ds a0 W i) (hsft:∀ i,soft.contains i=true->Sft P ops Q Js ds a0 W i)
  (hdone:∀ vals w,Ext W w->(∀ j,j < ops.size->late.contains j=false->(Js[j]?.getD Mn.any).p (vals j) w)->x8 P ops Q (fun _=>True) late k bs.toArray (qO ds bs vals 0 a0) w) :
  (Code.region id ops true).wp P Q a0 W:=by
 simp only [Bool.and_eq_true,decide_eq_true_eq] at h;obtain⟨h1,h2,h3,h4,h5,h6,h7,h8,h9,h10⟩:=h;exact Jr Js ds late soft bs k h1 h2 h3 h4 h5 h6 h7 h8 h9 h10 hstep hsft hdone
end
end Go.Proofs.YtfmddpahhloleaaGreat
