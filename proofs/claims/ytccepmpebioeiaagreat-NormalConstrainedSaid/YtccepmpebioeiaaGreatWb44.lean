import Derived.Test.YtccepmpebioeiaaGreatWb26
import Derived.Test.YtccepmpebioeiaaGreatWb24
import Derived.Test.YtccepmpebioeiaaGreatWb27
import Derived.Test.YtccepmpebioeiaaGreatWb43
import Derived.Deep.CutBlock
import Derived.Test.YtccepmpebioeiaaGreatWb37
import Derived.Deep.Slices
import Derived.Deep.Strs
import Derived.Lib.SmallJoins
import Derived.ProofKit
import Derived.OpenShut
import Derived.WalkKit
import Derived.Below
import Derived.Test.YtccepmpebioeiaaGreatWb29
import Derived.Test.YtccepmpebioeiaaGreatWb42
set_option linter.all false
set_option maxHeartbeats 8000000
namespace Go.Proofs.YtccepmpebioeiaaGreat
open Go.RowKit
theorem val_one {l:List Nat} (h:l.length≤1):val l=l[0]?.getD 0:=by
 rcases l with _ | ⟨x,l⟩
 ·rfl
 ·have h2:l=[]:=List.eq_nil_of_length_eq_zero (by simpa using h)
  subst h2
  simp [val]
theorem brief_sz {R:Raw} (h:briefB R=true):R.l1.length≤1∧R.l2.length≤1:=by
 unfold briefB at h
 simp only [Bool.and_eq_true,decide_eq_true_eq] at h
 exact⟨h.1.1.1,h.1.1.2⟩
theorem brief_ht {q:Rat} (h:briefB (raw q)=true):Ht 17 q:=by
 unfold briefB raw at h
 simp only [Bool.and_eq_true,decide_eq_true_eq] at h
 obtain⟨⟨⟨h1,h2⟩,h3⟩,h4⟩:=h
 rw [←val_one h1,val_dg] at h3
 rw [←val_one h2,val_dg] at h4
 have h5:(2:Nat) ^ 17=131072:=by decide
 exact⟨by omega,by omega⟩
theorem brief_raw {R:Raw} (h:briefB R=true):RawSz R∧RawS R:=by
 obtain⟨h1,h2⟩:=brief_sz h
 exact⟨⟨by omega,by omega⟩,⟨by omega,by omega⟩⟩
def ratOf (R:Raw):Rat:=Rat.divInt (zval R.b1 R.l1) (zval R.b2 R.l2)
theorem ratOf_raw (q:Rat):ratOf (raw q)=q:=by
 unfold ratOf raw
 have h4:zval false (dg q.den)=(q.den:Int):=by unfold zval; rw [val_dg]; simp
 simp only [zval_canon,h4]
 exact Rat.num_divInt_den q
theorem raw_ratOf {R:Raw} (h:okR R=true):R=raw (ratOf R):=by
 obtain⟨q,rfl⟩:=okR_spec h
 rw [ratOf_raw]
theorem rat_pos {q:Rat} (h:0 < q.num):0 < q:=by
 rw [Rat.lt_iff]
 simpa using h
theorem code_zero {Z:Lin} (h:codeOf Z=0):canonB Z=true∧sizeB Z=true∧fitB Z=true∧allB Z.np (fun i=>posB (Z.p i))=true:=by
 unfold codeOf at h
 by_cases h1:canonB Z=false
 ·rw [if_pos h1] at h; exact absurd h (by decide)
 rw [if_neg h1] at h
 by_cases h2:sizeB Z=false
 ·rw [if_pos h2] at h; exact absurd h (by decide)
 rw [if_neg h2] at h
 by_cases h3:fitB Z=false
 ·rw [if_pos h3] at h; exact absurd h (by decide)
 rw [if_neg h3] at h
 by_cases h4:allB Z.np (fun i=>posB (Z.p i))=false
 ·rw [if_pos h4] at h; exact absurd h (by decide)
 exact⟨by simpa using h1,by simpa using h2,by simpa using h3,by simpa using h4⟩
theorem shB_all {most n:Nat} {R:Nat→Raw} (h:shB most n R=true):n≤most∧∀ i,i < n→briefB (R i)=true:=by
 unfold shB at h
 rw [Bool.and_eq_true,decide_eq_true_eq,allB_true] at h
 exact h
theorem few34_all {r c:Nat} {Z:Lin} (h:few34 r c Z=true):Z.m≤r∧(∀ i,i < Z.nl→briefB (Z.l i)=true)∧(∀ i,i < Z.np→briefB (Z.p i)=true)∧∀ i,i < Z.m→Z.L i≤c∧∀ j,j < Z.L i→briefB (Z.A i j)=true:=by
 unfold few34 at h
 rw [Bool.and_eq_true,Bool.and_eq_true,Bool.and_eq_true,decide_eq_true_eq,allB_true] at h
 obtain⟨h1,h2,h3,h4⟩:=h
 exact⟨h1,(shB_all h2).2,(shB_all h3).2,fun i hi=>shB_all (h4 i hi)⟩
theorem few34_sz {r c:Nat} {Z:Lin} (h:few34 r c Z=true):Z.m≤r∧LinSz Z∧∀ i,i < Z.np→RawS (Z.p i):=by
 obtain⟨h1,h2,h3,h4⟩:=few34_all h
 exact⟨h1,⟨fun i hi j hj=>(brief_raw ((h4 i hi).2 j hj)).1,fun i hi=>(brief_raw (h2 i hi)).1,fun i hi=>(brief_raw (h3 i hi)).1⟩,fun i hi=>(brief_raw (h3 i hi)).2⟩
structure FewG (r c:Nat) (Z:Lin) (n:Nat) (X:Nat→Nat→Rat) (y p:Nat→Rat):Prop where
 m0:0 < Z.m
 mr:Z.m≤r
 n0:0 < n
 nc:n≤c
 L:∀ i,i < Z.m→Z.L i=n
 eA:∀ i,i < Z.m→∀ j,j < n→Z.A i j=raw (X i j)
 nl:Z.nl=Z.m
 el:∀ i,i < Z.m→Z.l i=raw (y i)
 np:Z.np=Z.m
 ep:∀ i,i < Z.m→Z.p i=raw (p i)
 pos:∀ i,i < Z.m→0 < p i
 hX:HtM Z.m n 17 X
 hy:HtL Z.m 17 y
 hp:HtL Z.m 17 p
theorem few34_lin {r c:Nat} {Z:Lin} (h:few34 r c Z=true) (hc:codeOf Z=0):FewG r c Z (Z.L 0) (fun i j=>ratOf (Z.A i j)) (fun i=>ratOf (Z.l i)) (fun i=>ratOf (Z.p i)):=by
 obtain⟨h1,h2,h3,h4⟩:=few34_all h
 obtain⟨c1,c2,c3,c4⟩:=code_zero hc
 unfold canonB canonA at c1
 rw [Bool.and_eq_true,Bool.and_eq_true,allB_true,allB_true,allB_true] at c1
 obtain⟨k1,k2,k3⟩:=c1
 unfold sizeB at c2
 simp only [Bool.and_eq_true,decide_eq_true_eq] at c2
 unfold fitB evenB at c3
 rw [Bool.and_eq_true,Bool.and_eq_true,allB_true,decide_eq_true_eq,decide_eq_true_eq] at c3
 obtain⟨f1,f2,f3⟩:=c3
 have hL:∀ i,i < Z.m→Z.L i=Z.L 0:=fun i hi=>of_decide_eq_true (f1 i hi)
 rw [allB_true] at c4
 have kA:∀ i,i < Z.m→∀ j,j < Z.L 0→okR (Z.A i j)=true:=fun i hi j hj=>allB_true.1 (k1 i hi) j (by rw [hL i hi]; exact hj)
 refine⟨by omega,h1,by omega,(h4 0 (by omega)).1,hL,fun i hi j hj=>raw_ratOf (kA i hi j hj),f2,fun i hi=>raw_ratOf (k2 i (by omega)),f3,fun i hi=>raw_ratOf (k3 i (by omega)),fun i hi=>?_,fun i hi j hj=>?_,fun i hi=>?_,fun i hi=>?_⟩
 ·have h5:=c4 i (by omega)
  rw [raw_ratOf (k3 i (by omega)),posB_raw,decide_eq_true_eq] at h5
  exact rat_pos h5
 ·refine brief_ht ?_
  rw [←raw_ratOf (kA i hi j hj)]
  exact (h4 i hi).2 j (by rw [hL i hi]; exact hj)
 ·refine brief_ht ?_
  rw [←raw_ratOf (k2 i (by omega))]
  exact h2 i (by omega)
 ·refine brief_ht ?_
  rw [←raw_ratOf (k3 i (by omega))]
  exact h3 i (by omega)
theorem shB_lsv {most n:Nat} {R:Nat→Raw} (h:shB most n R=true) (hok:allB n (fun i=>okR (R i))=true) {N lo hi:Nat} {w:World} {v:Value} (hv:LsR N lo hi w v n R) :
  LsV N lo hi w v n (fun i=>ratOf (R i))∧HtL n 17 (fun i=>ratOf (R i)):=by
 have hk:=allB_true.1 hok
 refine⟨LsR.congr hv (fun i hi=>raw_ratOf (hk i hi)),fun i hi=>brief_ht ?_⟩
 rw [←raw_ratOf (hk i hi)]
 exact (shB_all h).2 i hi
theorem mul_le8 {m a b:Nat} (hm:m≤8) (ha:a≤b):m*a≤8*b:=Nat.mul_le_mul hm ha
theorem mul_le5 {m a b:Nat} (hm:m≤5) (ha:a≤b):m*a≤5*b:=Nat.mul_le_mul hm ha
theorem sign_le34 {q:Rat} (h:q≤0):q.num.sign≤0:=by
 have h1:¬ 0 < q.num.sign:=fun h1=>absurd (rat_pos (Int.sign_pos_iff.1 h1)) (Rat.not_lt.2 h)
 omega
end Go.Proofs.YtccepmpebioeiaaGreat
namespace Go.Proofs.YtccepmpebioeiaaGreat
open Go.RowKit Go.ChangeShapes Go.ChangeAt
theorem cells_int:Tryz.prog.cellsOf 42=2:=by kernel_rfl
theorem cells_rat:Tryz.prog.cellsOf 44=4:=by kernel_rfl
theorem cells_bool:Tryz.prog.cellsOf 4=1:=by kernel_rfl
theorem cells_u32:Tryz.prog.cellsOf 141=1:=by kernel_rfl
theorem cells_u32s:Tryz.prog.cellsOf 40=1:=by kernel_rfl
theorem cells_rats:Tryz.prog.cellsOf 24=1:=by kernel_rfl
section
variable {H:Type} {enc:TypeId×Value→H} {w:World} {spare:Nat→Bool} {held:Bool}
instance:Inhabited Raw:=⟨⟨false,[],false,[]⟩⟩
theorem spot_none {v:Value} (a:Addr) (h:w.cell? (a.add 0)=some v):a=⟨a.block,a.off,none⟩:=by
 obtain⟨b,off,spot⟩:=a
 have hs:=World.cell?_spot h
 have h2:spot=none:=by simpa [Addr.add] using hs
 subst h2; rfl
theorem gs_of_trod {n:Nat} {v:Value} {x:DataW H×List MemPlace} (h:DataW.trod enc Tryz.prog w 0 spare held n 40 [v]=some x):∃ l,Gs w.heap.size w v l:=by
 rcases Go.Deep.open_slice1 Tryz.underlying40 cells_u32 h with ⟨hcs,-⟩ | ⟨a,len,cap,m,n',V,D,Pl,hcs,-,hl,hm,hmm,-,hx⟩
 ·simp only [List.cons.injEq,and_true] at hcs
  subst hcs
  exact⟨[],Gs.nil (Nat.le_refl _) _ (Nat.zero_le _)⟩
 ·simp only [List.cons.injEq,and_true] at hcs
  subst hcs
  have hlm:len≤m:=by rw [hmm]; split <;> omega
  have hv:∀ i,i < len→∃ z:Nat,V i=.int .u32 (z:Int)∧z < 4294967296:=fun i hi=>by
   obtain⟨-,h2⟩:=hx i (by omega)
   obtain⟨z,hz,-,hw⟩:=DataW.trod_int Tryz.underlying141 h2
   simp only [List.cons.injEq,and_true] at hz
   have hb:=bounds_u32 hw
   exact⟨z.toNat,by rw [hz]; congr 1; omega,by omega⟩
  obtain⟨f,hf⟩:=Go.Deep.choose_lt (α:=Nat) hv
  refine⟨(List.range len).map f,Nat.le_refl _,_,len,cap,rfl,by simp,hl,hm,fun y hy=>?_,fun h0=>?_⟩
  ·obtain⟨i,hi,rfl⟩:=List.mem_map.1 hy
   exact (hf i (by simpa using hi)).2
  ·have h1:=(hx 0 (by omega)).1
   have ha:=spot_none a h1
   refine⟨a.block,a.off,by rw [←ha],⟨?_,.inl ?_⟩,fun i hi=>?_⟩
   ·rw [ha,add_none] at h1; exact cell_lt (p:=⟨a.block,a.off+0,none⟩) h1
   ·rw [ha,add_none] at h1; exact cell_lt (p:=⟨a.block,a.off+0,none⟩) h1
   ·have h2:=(hx i (by omega)).1
    rw [ha,add_none,(hf i hi).1] at h2
    rw [h2]
    simp [hi]
theorem rat_of_trod {n:Nat} {c0 c1 c2 c3:Value} {x:DataW H×List MemPlace} (h:DataW.trod enc Tryz.prog w 0 spare held n 44 [c0,c1,c2,c3]=some x) :
  ∃ R:Raw,c0=.bool R.b1∧c2=.bool R.b2∧Gs w.heap.size w c1 R.l1∧Gs w.heap.size w c3 R.l2:=by
 obtain⟨y0,y1,n1,-,-,h0,h1⟩:=trod_struct2 Tryz.underlying44 h
 simp only [cells_int,List.drop_zero,List.take_succ_cons,List.take_zero,List.drop_succ_cons] at h0 h1
 obtain⟨z0,z1,n2,-,-,k0,k1⟩:=trod_struct2 Tryz.underlying42 h0
 obtain⟨z2,z3,n3,-,-,k2,k3⟩:=trod_struct2 Tryz.underlying42 h1
 simp only [cells_bool,cells_u32s,List.drop_zero,List.take_succ_cons,List.take_zero,List.drop_succ_cons] at k0 k1 k2 k3
 obtain⟨b1,e1,-⟩:=DataW.trod_bool Tryz.underlying4 k0
 obtain⟨b2,e2,-⟩:=DataW.trod_bool Tryz.underlying4 k2
 obtain⟨l1,g1⟩:=gs_of_trod k1
 obtain⟨l2,g2⟩:=gs_of_trod k3
 simp only [List.cons.injEq,and_true] at e1 e2
 exact⟨⟨b1,l1,b2,l2⟩,e1,e2,g1,g2⟩
theorem ls_of_trod {n:Nat} {v:Value} {x:DataW H×List MemPlace} (h:DataW.trod enc Tryz.prog w 0 spare held n 24 [v]=some x):∃ k R,LsR w.heap.size 0 w.heap.size w v k R:=by
 rcases Go.Deep.open_slice Tryz.underlying24 h with ⟨hcs,-⟩ | ⟨a,len,cap,m,n',D,Pl,hcs,-,hl,hm,hmm,-,hx⟩
 ·simp only [List.cons.injEq,and_true] at hcs
  subst hcs
  exact⟨0,fun _=>default,Nat.le_refl _,Nat.le_refl _,_,_,rfl,Nat.le_refl _,Nat.zero_le _,fun h0=>absurd h0 (by omega)⟩
 ·simp only [List.cons.injEq,and_true] at hcs
  subst hcs
  have hlm:len≤m:=by rw [hmm]; split <;> omega
  rw [cells_rat] at hx
  rcases Nat.eq_zero_or_pos len with hl0 | hl0
  ·subst hl0
   exact⟨0,fun _=>default,Nat.le_refl _,Nat.le_refl _,_,_,rfl,hl,hm,fun h0=>absurd h0 (by omega)⟩
  obtain⟨B,O,rfl⟩:∃ B O,a=⟨B,O,none⟩:=by
   obtain⟨cs,h1,h2⟩:=hx 0 (by omega)
   obtain⟨-,hlen,hc⟩:=World.cells?_some h1
   have k0:=hc 0 (by omega)
   have hz:(a.add (0*4)).add 0=a.add 0:=by rw [Go.Deep.add_add]
   rw [hz,List.getElem?_eq_getElem (by omega)] at k0
   exact⟨_,_,spot_none a k0⟩
  have hv:∀ i,i < len→∃ R:Raw,At4 w.heap.size w B (O+i*4) R:=fun i hi=>by
   obtain⟨cs,h1,h2⟩:=hx i (by omega)
   obtain⟨-,hlen,hc⟩:=World.cells?_some h1
   match cs,hlen with
   | [c0,c1,c2,c3],_ =>
    obtain⟨R,e0,e2,g1,g3⟩:=rat_of_trod h2
    have k0:=hc 0 (by omega)
    have k1:=hc 1 (by omega)
    have k2:=hc 2 (by omega)
    have k3:=hc 3 (by omega)
    rw [add_none,add_none] at k0 k1 k2 k3
    refine⟨R,c1,c3,?_,?_,?_,?_,g1,g3⟩
    ·rw [←e0]; exact k0
    ·exact k1
    ·rw [←e2]; exact k2
    ·exact k3
  obtain⟨f,hf⟩:=Go.Deep.choose_lt (α:=Raw) hv
  refine⟨len,f,Nat.le_refl _,Nat.le_refl _,_,cap,rfl,hl,hm,fun h0=>⟨B,O,rfl,Nat.zero_le _,?_,fun i hi=>hf i hi⟩⟩
  obtain⟨s,t,k0,-⟩:=hf 0 h0
  exact cell_lt k0
theorem mt_of_trod {n:Nat} {v:Value} {x:DataW H×List MemPlace} (h:DataW.trod enc Tryz.prog w 0 spare held n 23 [v]=some x):∃ k L R,MtR w.heap.size 0 w.heap.size w v k L R:=by
 rcases Go.Deep.open_slice1 Tryz.underlying23 cells_rats h with ⟨hcs,-⟩ | ⟨a,len,cap,m,n',V,D,Pl,hcs,-,hl,hm,hmm,-,hx⟩
 ·simp only [List.cons.injEq,and_true] at hcs
  subst hcs
  exact⟨0,fun _=>0,fun _ _=>default,Nat.le_refl _,Nat.le_refl _,_,_,rfl,Nat.le_refl _,Nat.zero_le _,fun h0=>absurd h0 (by omega)⟩
 ·simp only [List.cons.injEq,and_true] at hcs
  subst hcs
  have hlm:len≤m:=by rw [hmm]; split <;> omega
  rcases Nat.eq_zero_or_pos len with hl0 | hl0
  ·subst hl0
   exact⟨0,fun _=>0,fun _ _=>default,Nat.le_refl _,Nat.le_refl _,_,_,rfl,hl,hm,fun h0=>absurd h0 (by omega)⟩
  obtain⟨B,O,rfl⟩:∃ B O,a=⟨B,O,none⟩:=⟨_,_,spot_none a (hx 0 (by omega)).1⟩
  have hv:∀ i,i < len→∃ kR:Nat×(Nat→Raw),w.cell? ⟨B,O+i,none⟩=some (V i)∧LsR w.heap.size 0 w.heap.size w (V i) kR.1 kR.2:=fun i hi=>by
   obtain⟨h1,h2⟩:=hx i (by omega)
   rw [add_none] at h1
   obtain⟨k,R,hR⟩:=ls_of_trod h2
   exact⟨(k,R),h1,hR⟩
  obtain⟨f,hf⟩:=Go.Deep.choose_lt (α:=Nat×(Nat→Raw)) hv
  refine⟨len,fun i=>(f i).1,fun i=>(f i).2,Nat.le_refl _,Nat.le_refl _,_,cap,rfl,hl,hm,fun h0=>⟨B,O,rfl,Nat.zero_le _,cell_lt (hf 0 h0).1,fun i hi=>⟨V i,(hf i hi).1,(hf i hi).2⟩⟩⟩
end
theorem own:ownKnob Tryz.prog.godebug=none:=by kernel_rfl
theorem laidOut:laidOutB Tryz.prog=true:=by kernel_rfl
end Go.Proofs.YtccepmpebioeiaaGreat
namespace Go.Proofs.YtccepmpebioeiaaGreat
open Go.RowKit
set_option maxRecDepth 100000 in
theorem r5_sum {N lo hi lo' hi':Nat} {w:World} {v v' u:Value} {m n:Nat} {X Y:Nat→Nat→Rat} {kq:Rat} (h:MtV N lo hi w v m n X) (h':MtV N lo' hi' w v' m n Y) (hk:RatV N w u kq) (hm0:0 < m) (hm:m < 1000000) (hn0:0 < n) (hn:n < 1000000)
  {kx ky kk:Nat} (hkx:HtM m n kx X) (hky:HtM m n ky Y) (hkk:Ht kk kq) (hK:kx+(kk+ky)+1≤29000000000) :
  Calls Tryz.prog 73 #[v,v',u] w (RetOwn N w m n (fun i j=>X i j+kq*Y i j)):=by
 have hN:=h.le
 obtain⟨A,c,rfl,hmc,hcm⟩:=h.form
 obtain⟨A0,c0,rfl,hmc0,hcm0⟩:=h'.form
 obtain⟨nk,A5,k5,c5,A6,k6,c6,rfl,hbk,gk1,gk2⟩:=hk.parts
 unfold maxLen at hcm hcm0
 have hI:=h
 have hI':=h'
 have HSZ:Hid (∀ i,i < m→∀ j,j < n→Sz (X i j)∧Sz (Y i j)∧Sz (kq*Y i j)):=fun i hi j hj=>⟨(hkx i hi j hj).sz (by omega),(hky i hi j hj).sz (by omega),(hkk.mul (hky i hi j hj)).sz (by omega)⟩
 have HKZ:Hid (Sz kq):=hkk.sz (by omega)
 obtain⟨Z,hZ⟩:=hid_eq (fun i j=>X i j+kq*Y i j)
 have HZE:Hid (∀ i j,X i j+kq*Y i j=Z i j):=fun i j=>by rw [hZ.out]
 rw [←hZ.out]
 clear h h' hk hkx hky hkk hK
 go_enter Tryz.func73,Tryz.ntmps73
 go_wp2_with (go_at_call 116; refine Hid.out ?_)
 refine boxesC1 ?_
 intro W hW hszW B0
 refine (r5_copy (hI.ext hW) hm hn0 hn).mono ?_
 rintro e w1 ⟨h,cap,β,κ,rfl,hcap,ho,e1⟩
 have hE1:=hW.trans e1
 have hs1:=e1.size
 replace B0:=e1.block B0
 have hBK:BoxR N w1 w.heap.size kq:=BoxR.mk B0 hbk (gk1.ext hE1) (gk2.ext hE1)
 obtain⟨lo1,hlo1⟩:∃ lo1,lo1=W.heap.size:=⟨_,rfl⟩
 obtain⟨hi1,hhi1⟩:∃ hi1,hi1=w1.heap.size:=⟨_,rfl⟩
 rw [←hlo1,←hhi1] at ho
 obtain⟨gK,hgK⟩:∃ gK,gK=w.heap.size:=⟨_,rfl⟩
 rw [←hgK] at hBK ⊢
 have hgl:gK < lo1:=by omega
 have hNl:N≤lo1:=ho.le
 have hwl:w.heap.size≤lo1:=by omega
 have hI1:=(hI.ext hE1)
 have hI1':=(hI'.ext hE1)
 have hhiW:hi≤lo1:=by have:=hI.2.1; omega
 have hhiW':hi'≤lo1:=by have:=hI'.2.1; omega
 clear B0 hW hszW e1 gk1 gk2 hgK hbk hI hI'
 go_wp2
 go_loopw [8] (fun i wr=>∃ k:Nat,k≤m∧i=.int .i64 k∧Chg lo1 hi1 w1 wr∧∃ B,OwnM N lo1 hi1 wr h cap m n β κ B∧Hid (∀ i,i < k→∀ j,j < n→B i j=Z i j)) (fun i _=>m - (intOf i).toNat)
 case atStart=>exact⟨0,Nat.zero_le _,rfl,Chg.refl _ _ _,_,ho,fun i hi=>by omega⟩
 case round =>
  clear ho
  obtain⟨k,hk,rfl,hC,B,ho,HB⟩:=hrel
  by_cases hlt:k < m
  ·obtain⟨wq,hwq⟩:∃ wq,wq=wr:=⟨wr,rfl⟩
   subst hwq
   go_wp2
   go_loopw [9] (fun i wr=>∃ l:Nat,l≤n∧i=.int .i64 l∧Chg lo1 hi1 w1 wr∧∃ B,OwnM N lo1 hi1 wr h cap m n β κ B∧Hid (∀ i,i < k→∀ j,j < n→B i j=Z i j)∧Hid (∀ j,j < l→B k j=Z k j)) (fun i _=>n - (intOf i).toNat)
   case atStart=>exact⟨0,Nat.zero_le _,rfl,hC,B,ho,HB,fun j hj=>by omega⟩
   case round =>
    clear hC ho HB B
    obtain⟨l,hl,rfl,hC,B,ho,HB,HC⟩:=hrel
    have hXr:=hI1.chg hC hNl (.inl hhiW)
    have hYr:=hI1'.chg hC hNl (.inl hhiW')
    have hKr:=hBK.chg hC hNl (.inl hgl)
    obtain⟨b,off,rfl,-,-,hx⟩:=hXr.addr hm0
    obtain⟨A2,c2,q0,-,hc2,hl2⟩:=hx k hlt
    unfold maxLen at hc2
    clear hx
    by_cases hlt':l < n
    ·obtain⟨b2,off2,rfl,-,-,hx⟩:=hl2.addr (by omega)
     obtain⟨n1,A3,k3,c3,A4,k4,c4,p0,p1,p2,p3,hb1,g1,g2⟩:=(hx l hlt').open
     clear hx hl2
     obtain⟨b',off',rfl,-,-,hx⟩:=hYr.addr hm0
     obtain⟨A7,c7,q1,-,hc7,hl7⟩:=hx k hlt
     unfold maxLen at hc7
     clear hx
     obtain⟨b7,off7,rfl,-,-,hx⟩:=hl7.addr (by omega)
     obtain⟨n2,A8,k8,c8,A9,k9,c9,d0,d1,d2,d3,hb2,g3,g4⟩:=(hx l hlt').open
     clear hx hl7
     obtain⟨n3,S1,S2,S3,S4,S5,S6,r0,r1,r2,r3,-,-,-,-,hRK,-⟩:=hKr.open
     have o0:=ho.hcell hlt
     obtain⟨zs1,zs2,zs3⟩:=HSZ.out k hlt l hlt'
     have HS1:=Lib.hid zs1
     have HS2:=Lib.hid zs2
     have HS3:=Lib.hid zs3
     have HZ1:=Lib.hid (HZE.out k l)
     have hRX:RatV N wr (.agg #[.bool n1,.slice A3 k3 c3,.bool false,.slice A4 k4 c4]) (X k l):=RatV.mk hb1 g1 g2
     have hRY:RatV N wr (.agg #[.bool n2,.slice A8 k8 c8,.bool false,.slice A9 k9 c9]) (Y k l):=RatV.mk hb2 g3 g4
     clear zs1 zs2 zs3 g1 g2 g3 g4 hb1 hb2 hXr hYr hKr
     go_upto_region 8 with (fail)
     refine region_inv [Mn.eq (.slice (some ⟨h,0,none⟩) m cap),Mn.eq (.int .i64 (k:Int)),Mn.eq (.pointer (some ⟨h,k,none⟩)),Mn.eq (.slice (some ⟨β k,0,none⟩) n (κ k)),Mn.eq (.int .i64 (l:Int)),Mn.eq (.slice (some ⟨b,off,none⟩) m c),Mn.eq (.int .i64 (k:Int)),Mn.eq (.pointer (some ⟨b,off+k,none⟩)),Mn.eq (.slice (some ⟨b2,off2,none⟩) n c2),Mn.eq (.int .i64 (l:Int)),Mn.eq (.pointer (some ⟨b2,off2+l*4,none⟩)),Mn.rat N (X k l),Mn.rat N kq,Mn.eq (.slice (some ⟨b',off',none⟩) m c0),Mn.eq (.int .i64 (k:Int)),Mn.eq (.pointer (some ⟨b',off'+k,none⟩)),Mn.eq (.slice (some ⟨b7,off7,none⟩) n c7),Mn.eq (.int .i64 (l:Int)),Mn.eq (.pointer (some ⟨b7,off7+l*4,none⟩)),Mn.rat N (Y k l),Mn.rat N (kq*Y k l),Mn.rat N (Z k l),Mn.eq (.pointer (some ⟨β k,l*4,none⟩)),Mn.any] [some 27,some 28,some 29,some 30,some 31,some 32,some 33,some 34,some 35,some 36,some 37,some 38,some 39,some 40,some 41,some 42,some 43,some 44,some 45,some 46,some 47,some 48,some 49,none] [23] [true,true,true,true,true,true,true,true,true,true,true,true,true,true,true,true,true,true,true,true,true,true,true,false] 1 (by kernel_rfl) (by kernel_rfl) (by kernel_rfl) (by kernel_rfl) (by kernel_rfl) (by kernel_rfl) (by kernel_rfl) (by kernel_rfl) ?_ ?_
     ·intro i hi hl
      have hi':i=0∨i=1∨i=2∨i=3∨i=4∨i=5∨i=6∨i=7∨i=8∨i=9∨i=10∨i=11∨i=12∨i=13∨i=14∨i=15∨i=16∨i=17∨i=18∨i=19∨i=20∨i=21∨i=22∨i=23:=by have h9:i < 24:=hi; omega
      clear hi
      rcases hi' with rfl | rfl | rfl | rfl | rfl | rfl | rfl | rfl | rfl | rfl | rfl | rfl | rfl | rfl | rfl | rfl | rfl | rfl | rfl | rfl | rfl | rfl | rfl | rfl
      ·clear hl
       refine stp rfl ?_
       intro ac wi eI hold hpre K hK
       have o7:=hold 7 (by kernel_rfl)
       simp only [List.getElem?_toArray,List.getElem?_cons_succ,List.getElem?_cons_zero] at o7
       clear hold hpre
       go_simp
       exact hK.out _ _ (Ext.refl _) rfl
      ·clear hl
       refine stp rfl ?_
       intro ac wi eI hold hpre K hK
       have o8:=hold 8 (by kernel_rfl)
       simp only [List.getElem?_toArray,List.getElem?_cons_succ,List.getElem?_cons_zero] at o8
       clear hold hpre
       go_simp
       exact hK.out _ _ (Ext.refl _) rfl
      ·clear hl
       refine stp rfl ?_
       intro ac wi eI hold hpre K hK
       obtain⟨x27,s27,j27⟩:=hpre 0 (by kernel_rfl) 27 rfl
       obtain rfl:x27=(.slice (some ⟨h,0,none⟩) m cap):=j27
       obtain⟨x28,s28,j28⟩:=hpre 1 (by kernel_rfl) 28 rfl
       obtain rfl:x28=(.int .i64 (k:Int)):=j28
       clear hold hpre
       go_simp
       exact hK.out _ _ (Ext.refl _) rfl
      ·clear hl
       refine stp rfl ?_
       intro ac wi eI hold hpre K hK
       obtain⟨x29,s29,j29⟩:=hpre 2 (by kernel_rfl) 29 rfl
       obtain rfl:x29=(.pointer (some ⟨h,k,none⟩)):=j29
       clear hold hpre
       have cc0:=eI.cell o0
       have cc1:=eI.cell q0
       have cc2:=eI.cell q1
       have cc3:=eI.cell p0
       have cc4:=eI.cell p1
       have cc5:=eI.cell p2
       have cc6:=eI.cell p3
       have cc7:=eI.cell d0
       have cc8:=eI.cell d1
       have cc9:=eI.cell d2
       have cc10:=eI.cell d3
       have cc11:=eI.cell r0
       have cc12:=eI.cell r1
       have cc13:=eI.cell r2
       have cc14:=eI.cell r3
       go_simp
       exact hK.out _ _ (Ext.refl _) rfl
      ·clear hl
       refine stp rfl ?_
       intro ac wi eI hold hpre K hK
       have o9:=hold 9 (by kernel_rfl)
       simp only [List.getElem?_toArray,List.getElem?_cons_succ,List.getElem?_cons_zero] at o9
       clear hold hpre
       go_simp
       exact hK.out _ _ (Ext.refl _) rfl
      ·clear hl
       refine stp rfl ?_
       intro ac wi eI hold hpre K hK
       have o0:=hold 0 (by kernel_rfl)
       simp only [List.getElem?_toArray,List.getElem?_cons_succ,List.getElem?_cons_zero] at o0
       clear hold hpre
       go_simp
       exact hK.out _ _ (Ext.refl _) rfl
      ·clear hl
       refine stp rfl ?_
       intro ac wi eI hold hpre K hK
       have o8:=hold 8 (by kernel_rfl)
       simp only [List.getElem?_toArray,List.getElem?_cons_succ,List.getElem?_cons_zero] at o8
       clear hold hpre
       go_simp
       exact hK.out _ _ (Ext.refl _) rfl
      ·clear hl
       refine stp rfl ?_
       intro ac wi eI hold hpre K hK
       obtain⟨x32,s32,j32⟩:=hpre 5 (by kernel_rfl) 32 rfl
       obtain rfl:x32=(.slice (some ⟨b,off,none⟩) m c):=j32
       obtain⟨x33,s33,j33⟩:=hpre 6 (by kernel_rfl) 33 rfl
       obtain rfl:x33=(.int .i64 (k:Int)):=j33
       clear hold hpre
       go_simp
       exact hK.out _ _ (Ext.refl _) rfl
      ·clear hl
       refine stp rfl ?_
       intro ac wi eI hold hpre K hK
       obtain⟨x34,s34,j34⟩:=hpre 7 (by kernel_rfl) 34 rfl
       obtain rfl:x34=(.pointer (some ⟨b,off+k,none⟩)):=j34
       clear hold hpre
       have cc0:=eI.cell o0
       have cc1:=eI.cell q0
       have cc2:=eI.cell q1
       have cc3:=eI.cell p0
       have cc4:=eI.cell p1
       have cc5:=eI.cell p2
       have cc6:=eI.cell p3
       have cc7:=eI.cell d0
       have cc8:=eI.cell d1
       have cc9:=eI.cell d2
       have cc10:=eI.cell d3
       have cc11:=eI.cell r0
       have cc12:=eI.cell r1
       have cc13:=eI.cell r2
       have cc14:=eI.cell r3
       go_simp
       exact hK.out _ _ (Ext.refl _) rfl
      ·clear hl
       refine stp rfl ?_
       intro ac wi eI hold hpre K hK
       have o9:=hold 9 (by kernel_rfl)
       simp only [List.getElem?_toArray,List.getElem?_cons_succ,List.getElem?_cons_zero] at o9
       clear hold hpre
       go_simp
       exact hK.out _ _ (Ext.refl _) rfl
      ·clear hl
       refine stp rfl ?_
       intro ac wi eI hold hpre K hK
       obtain⟨x35,s35,j35⟩:=hpre 8 (by kernel_rfl) 35 rfl
       obtain rfl:x35=(.slice (some ⟨b2,off2,none⟩) n c2):=j35
       obtain⟨x36,s36,j36⟩:=hpre 9 (by kernel_rfl) 36 rfl
       obtain rfl:x36=(.int .i64 (l:Int)):=j36
       clear hold hpre
       go_simp
       exact hK.out _ _ (Ext.refl _) rfl
      ·clear hl
       refine stp rfl ?_
       intro ac wi eI hold hpre K hK
       obtain⟨x37,s37,j37⟩:=hpre 10 (by kernel_rfl) 37 rfl
       obtain rfl:x37=(.pointer (some ⟨b2,off2+l*4,none⟩)):=j37
       clear hold hpre
       have cc0:=eI.cell o0
       have cc1:=eI.cell q0
       have cc2:=eI.cell q1
       have cc3:=eI.cell p0
       have cc4:=eI.cell p1
       have cc5:=eI.cell p2
       have cc6:=eI.cell p3
       have cc7:=eI.cell d0
       have cc8:=eI.cell d1
       have cc9:=eI.cell d2
       have cc10:=eI.cell d3
       have cc11:=eI.cell r0
       have cc12:=eI.cell r1
       have cc13:=eI.cell r2
       have cc14:=eI.cell r3
       go_simp
       exact hK.out _ _ (Ext.refl _) (hRX.ext eI)
      ·clear hl
       refine stp rfl ?_
       intro ac wi eI hold hpre K hK
       have o5:=hold 5 (by kernel_rfl)
       simp only [List.getElem?_toArray,List.getElem?_cons_succ,List.getElem?_cons_zero] at o5
       clear hold hpre
       have cc0:=eI.cell o0
       have cc1:=eI.cell q0
       have cc2:=eI.cell q1
       have cc3:=eI.cell p0
       have cc4:=eI.cell p1
       have cc5:=eI.cell p2
       have cc6:=eI.cell p3
       have cc7:=eI.cell d0
       have cc8:=eI.cell d1
       have cc9:=eI.cell d2
       have cc10:=eI.cell d3
       have cc11:=eI.cell r0
       have cc12:=eI.cell r1
       have cc13:=eI.cell r2
       have cc14:=eI.cell r3
       go_simp
       exact hK.out _ _ (Ext.refl _) (hRK.ext eI)
      ·clear hl
       refine stp rfl ?_
       intro ac wi eI hold hpre K hK
       have o1:=hold 1 (by kernel_rfl)
       simp only [List.getElem?_toArray,List.getElem?_cons_succ,List.getElem?_cons_zero] at o1
       clear hold hpre
       go_simp
       exact hK.out _ _ (Ext.refl _) rfl
      ·clear hl
       refine stp rfl ?_
       intro ac wi eI hold hpre K hK
       have o8:=hold 8 (by kernel_rfl)
       simp only [List.getElem?_toArray,List.getElem?_cons_succ,List.getElem?_cons_zero] at o8
       clear hold hpre
       go_simp
       exact hK.out _ _ (Ext.refl _) rfl
      ·clear hl
       refine stp rfl ?_
       intro ac wi eI hold hpre K hK
       obtain⟨x40,s40,j40⟩:=hpre 13 (by kernel_rfl) 40 rfl
       obtain rfl:x40=(.slice (some ⟨b',off',none⟩) m c0):=j40
       obtain⟨x41,s41,j41⟩:=hpre 14 (by kernel_rfl) 41 rfl
       obtain rfl:x41=(.int .i64 (k:Int)):=j41
       clear hold hpre
       go_simp
       exact hK.out _ _ (Ext.refl _) rfl
      ·clear hl
       refine stp rfl ?_
       intro ac wi eI hold hpre K hK
       obtain⟨x42,s42,j42⟩:=hpre 15 (by kernel_rfl) 42 rfl
       obtain rfl:x42=(.pointer (some ⟨b',off'+k,none⟩)):=j42
       clear hold hpre
       have cc0:=eI.cell o0
       have cc1:=eI.cell q0
       have cc2:=eI.cell q1
       have cc3:=eI.cell p0
       have cc4:=eI.cell p1
       have cc5:=eI.cell p2
       have cc6:=eI.cell p3
       have cc7:=eI.cell d0
       have cc8:=eI.cell d1
       have cc9:=eI.cell d2
       have cc10:=eI.cell d3
       have cc11:=eI.cell r0
       have cc12:=eI.cell r1
       have cc13:=eI.cell r2
       have cc14:=eI.cell r3
       go_simp
       exact hK.out _ _ (Ext.refl _) rfl
      ·clear hl
       refine stp rfl ?_
       intro ac wi eI hold hpre K hK
       have o9:=hold 9 (by kernel_rfl)
       simp only [List.getElem?_toArray,List.getElem?_cons_succ,List.getElem?_cons_zero] at o9
       clear hold hpre
       go_simp
       exact hK.out _ _ (Ext.refl _) rfl
      ·clear hl
       refine stp rfl ?_
       intro ac wi eI hold hpre K hK
       obtain⟨x43,s43,j43⟩:=hpre 16 (by kernel_rfl) 43 rfl
       obtain rfl:x43=(.slice (some ⟨b7,off7,none⟩) n c7):=j43
       obtain⟨x44,s44,j44⟩:=hpre 17 (by kernel_rfl) 44 rfl
       obtain rfl:x44=(.int .i64 (l:Int)):=j44
       clear hold hpre
       go_simp
       exact hK.out _ _ (Ext.refl _) rfl
      ·clear hl
       refine stp rfl ?_
       intro ac wi eI hold hpre K hK
       obtain⟨x45,s45,j45⟩:=hpre 18 (by kernel_rfl) 45 rfl
       obtain rfl:x45=(.pointer (some ⟨b7,off7+l*4,none⟩)):=j45
       clear hold hpre
       have cc0:=eI.cell o0
       have cc1:=eI.cell q0
       have cc2:=eI.cell q1
       have cc3:=eI.cell p0
       have cc4:=eI.cell p1
       have cc5:=eI.cell p2
       have cc6:=eI.cell p3
       have cc7:=eI.cell d0
       have cc8:=eI.cell d1
       have cc9:=eI.cell d2
       have cc10:=eI.cell d3
       have cc11:=eI.cell r0
       have cc12:=eI.cell r1
       have cc13:=eI.cell r2
       have cc14:=eI.cell r3
       go_simp
       exact hK.out _ _ (Ext.refl _) (hRY.ext eI)
      ·clear hl
       refine stp rfl ?_
       intro ac wi eI hold hpre K hK
       obtain⟨x39,s39,j39⟩:=hpre 12 (by kernel_rfl) 39 rfl
       replace j39:Mn.p (Mn.rat N kq) x39 wi:=j39
       obtain⟨x46,s46,j46⟩:=hpre 19 (by kernel_rfl) 46 rfl
       replace j46:Mn.p (Mn.rat N (Y k l)) x46 wi:=j46
       clear hold hpre
       go_simp
       refine (r2_mul j39 j46 HKZ.out HS2.out).mono ?_
       rintro e wj ⟨vj,rfl,hj,ej⟩
       go_wp2_with fail
       exact hK.out _ _ ej hj
      ·clear hl
       refine stp rfl ?_
       intro ac wi eI hold hpre K hK
       obtain⟨x38,s38,j38⟩:=hpre 11 (by kernel_rfl) 38 rfl
       replace j38:Mn.p (Mn.rat N (X k l)) x38 wi:=j38
       obtain⟨x47,s47,j47⟩:=hpre 20 (by kernel_rfl) 47 rfl
       replace j47:Mn.p (Mn.rat N (kq*Y k l)) x47 wi:=j47
       clear hold hpre
       go_simp
       refine (r2_add j38 j47 HS1.out HS3.out).mono ?_
       rw [HZ1.out]
       rintro e wj ⟨vj,rfl,hj,ej⟩
       go_wp2_with fail
       exact hK.out _ _ ej hj
      ·clear hl
       refine stp rfl ?_
       intro ac wi eI hold hpre K hK
       obtain⟨x30,s30,j30⟩:=hpre 3 (by kernel_rfl) 30 rfl
       obtain rfl:x30=(.slice (some ⟨β k,0,none⟩) n (κ k)):=j30
       obtain⟨x31,s31,j31⟩:=hpre 4 (by kernel_rfl) 31 rfl
       obtain rfl:x31=(.int .i64 (l:Int)):=j31
       clear hold hpre
       go_simp
       exact hK.out _ _ (Ext.refl _) rfl
      ·exact absurd hl (by decide)
     intro vals wz eZ hJ
     have J27:Mn.p (Mn.eq (.slice (some ⟨h,0,none⟩) m cap)) (vals 0) wz:=hJ 0 (by decide) (by decide)
     have J28:Mn.p (Mn.eq (.int .i64 (k:Int))) (vals 1) wz:=hJ 1 (by decide) (by decide)
     have J29:Mn.p (Mn.eq (.pointer (some ⟨h,k,none⟩))) (vals 2) wz:=hJ 2 (by decide) (by decide)
     have J30:Mn.p (Mn.eq (.slice (some ⟨β k,0,none⟩) n (κ k))) (vals 3) wz:=hJ 3 (by decide) (by decide)
     have J31:Mn.p (Mn.eq (.int .i64 (l:Int))) (vals 4) wz:=hJ 4 (by decide) (by decide)
     have J32:Mn.p (Mn.eq (.slice (some ⟨b,off,none⟩) m c)) (vals 5) wz:=hJ 5 (by decide) (by decide)
     have J33:Mn.p (Mn.eq (.int .i64 (k:Int))) (vals 6) wz:=hJ 6 (by decide) (by decide)
     have J34:Mn.p (Mn.eq (.pointer (some ⟨b,off+k,none⟩))) (vals 7) wz:=hJ 7 (by decide) (by decide)
     have J35:Mn.p (Mn.eq (.slice (some ⟨b2,off2,none⟩) n c2)) (vals 8) wz:=hJ 8 (by decide) (by decide)
     have J36:Mn.p (Mn.eq (.int .i64 (l:Int))) (vals 9) wz:=hJ 9 (by decide) (by decide)
     have J37:Mn.p (Mn.eq (.pointer (some ⟨b2,off2+l*4,none⟩))) (vals 10) wz:=hJ 10 (by decide) (by decide)
     have J38:Mn.p (Mn.rat N (X k l)) (vals 11) wz:=hJ 11 (by decide) (by decide)
     have J39:Mn.p (Mn.rat N kq) (vals 12) wz:=hJ 12 (by decide) (by decide)
     have J40:Mn.p (Mn.eq (.slice (some ⟨b',off',none⟩) m c0)) (vals 13) wz:=hJ 13 (by decide) (by decide)
     have J41:Mn.p (Mn.eq (.int .i64 (k:Int))) (vals 14) wz:=hJ 14 (by decide) (by decide)
     have J42:Mn.p (Mn.eq (.pointer (some ⟨b',off'+k,none⟩))) (vals 15) wz:=hJ 15 (by decide) (by decide)
     have J43:Mn.p (Mn.eq (.slice (some ⟨b7,off7,none⟩) n c7)) (vals 16) wz:=hJ 16 (by decide) (by decide)
     have J44:Mn.p (Mn.eq (.int .i64 (l:Int))) (vals 17) wz:=hJ 17 (by decide) (by decide)
     have J45:Mn.p (Mn.eq (.pointer (some ⟨b7,off7+l*4,none⟩))) (vals 18) wz:=hJ 18 (by decide) (by decide)
     have J46:Mn.p (Mn.rat N (Y k l)) (vals 19) wz:=hJ 19 (by decide) (by decide)
     have J47:Mn.p (Mn.rat N (kq*Y k l)) (vals 20) wz:=hJ 20 (by decide) (by decide)
     have J48:Mn.p (Mn.rat N (Z k l)) (vals 21) wz:=hJ 21 (by decide) (by decide)
     have J49:Mn.p (Mn.eq (.pointer (some ⟨β k,l*4,none⟩))) (vals 22) wz:=hJ 22 (by decide) (by decide)
     clear hJ
     simp only [putAll,if_true,Bool.false_eq_true,if_false,Act.put,Nat.zero_add,Nat.reduceAdd,List.setIfInBounds_toArray,List.set_cons_zero,List.set_cons_succ]
     generalize vals 0=z27 at J27 ⊢
     obtain rfl:z27=(.slice (some ⟨h,0,none⟩) m cap):=J27
     generalize vals 1=z28 at J28 ⊢
     obtain rfl:z28=(.int .i64 (k:Int)):=J28
     generalize vals 2=z29 at J29 ⊢
     obtain rfl:z29=(.pointer (some ⟨h,k,none⟩)):=J29
     generalize vals 3=z30 at J30 ⊢
     obtain rfl:z30=(.slice (some ⟨β k,0,none⟩) n (κ k)):=J30
     generalize vals 4=z31 at J31 ⊢
     obtain rfl:z31=(.int .i64 (l:Int)):=J31
     generalize vals 5=z32 at J32 ⊢
     obtain rfl:z32=(.slice (some ⟨b,off,none⟩) m c):=J32
     generalize vals 6=z33 at J33 ⊢
     obtain rfl:z33=(.int .i64 (k:Int)):=J33
     generalize vals 7=z34 at J34 ⊢
     obtain rfl:z34=(.pointer (some ⟨b,off+k,none⟩)):=J34
     generalize vals 8=z35 at J35 ⊢
     obtain rfl:z35=(.slice (some ⟨b2,off2,none⟩) n c2):=J35
     generalize vals 9=z36 at J36 ⊢
     obtain rfl:z36=(.int .i64 (l:Int)):=J36
     generalize vals 10=z37 at J37 ⊢
     obtain rfl:z37=(.pointer (some ⟨b2,off2+l*4,none⟩)):=J37
     generalize vals 11=z38 at J38 ⊢
     generalize vals 12=z39 at J39 ⊢
     generalize vals 13=z40 at J40 ⊢
     obtain rfl:z40=(.slice (some ⟨b',off',none⟩) m c0):=J40
     generalize vals 14=z41 at J41 ⊢
     obtain rfl:z41=(.int .i64 (k:Int)):=J41
     generalize vals 15=z42 at J42 ⊢
     obtain rfl:z42=(.pointer (some ⟨b',off'+k,none⟩)):=J42
     generalize vals 16=z43 at J43 ⊢
     obtain rfl:z43=(.slice (some ⟨b7,off7,none⟩) n c7):=J43
     generalize vals 17=z44 at J44 ⊢
     obtain rfl:z44=(.int .i64 (l:Int)):=J44
     generalize vals 18=z45 at J45 ⊢
     obtain rfl:z45=(.pointer (some ⟨b7,off7+l*4,none⟩)):=J45
     generalize vals 19=z46 at J46 ⊢
     generalize vals 20=z47 at J47 ⊢
     generalize vals 21=z48 at J48 ⊢
     generalize vals 22=z49 at J49 ⊢
     obtain rfl:z49=(.pointer (some ⟨β k,l*4,none⟩)):=J49
     obtain⟨bz,Az,kz,cz,Az',kz',cz',rfl,hbz,gz1,gz2⟩:=RatV.parts J48
     have ho2:=ho.ext eZ
     obtain⟨zb,zA,zn,zc,zA2,zn2,zc2,t0,t1,t2,t3,t4,t5,t6,t7⟩:∃ z0 z1 z2 z3:Value,∃ y0 y1 y2:Nat,wz.cell? ⟨β k,l*4,none⟩=some z0∧wz.cell? ⟨β k,l*4+1,none⟩=some z1∧wz.cell? ⟨β k,l*4+2,none⟩=some z2∧wz.cell? ⟨β k,l*4+3,none⟩=some z3∧wz.frozen? ⟨β k,l*4,none⟩=false∧wz.frozen? ⟨β k,l*4+1,none⟩=false∧wz.frozen? ⟨β k,l*4+2,none⟩=false∧wz.frozen? ⟨β k,l*4+3,none⟩=false:=by
      obtain⟨zb,zA,zn,zc,zA2,zn2,zc2,t0,t1,t2,t3,t4,t5,t6,t7,-⟩:=(ho2.row k hlt).at_ hlt'
      exact⟨_,_,_,_,0,0,0,t0,t1,t2,t3,t4,t5,t6,t7⟩
     refine stepL_late (i:=23) rfl (by kernel_rfl) (by kernel_rfl) (fun K hK=>?_)
     go_simp
     refine hK.out _ _ ?_
     clear hK K
     try simp only [nr]
     refine stepL_done (by kernel_rfl) ?_ _
     have hcn:l < κ k:=by have:=(ho2.row k hlt).2.1; omega
     obtain⟨w6,E6,C6,hs6,hr6⟩:=(ho2.row k hlt).set (i:=l) (q:=Z k l) hcn (by omega) hbz gz1 gz2
     rw [E6]
     clear E6
     have ho6:=ho2.setRow hlt C6 (hr6.less (n':=n) (by omega))
     have hC6:=(hC.trans (eZ.chg _ _)).trans (C6.wide (ho2.lo_ k hlt) (ho2.hi_ k hlt))
     clear hC ho ho2 hr6 C6 eZ t0 t1 t2 t3 t4 t5 t6 t7 o0 q0 q1 p0 p1 p2 p3 d0 d1 d2 d3 r0 r1 r2 r3
     go_wp2
     go_roundw
     case rel=>exact⟨l+1,by omega,by go_num,hC6,_,ho6,fun i hi j hj=>(by
       rw [updM_ne _ _ (by omega)]; exact HB.out i hi j hj),all_succ (fun j hj=>(by rw [updM_same,upd_ne _ _ (by omega)]; exact HC.out j hj)) (by rw [updM_same,upd_same])⟩
     case measure=>simp [intOf]; omega
    ·obtain rfl:l=n:=by omega
     clear hl2
     go_wp2
     go_roundw
     case rel=>exact⟨k+1,by omega,by go_num,hC,B,ho,all_succ HB.out HC.out⟩
     case measure=>simp [intOf]; omega
  ·obtain rfl:k=m:=by omega
   go_wp2
   go_ret
   exact⟨h,cap,β,κ,rfl,hcap,(ho.congr (fun i hi j hj=>HB.out i hi j hj)).wide hwl hN ho.his (Nat.le_refl _),hC.ext hE1 hwl⟩
set_option maxRecDepth 100000 in
theorem n_Constrained_lbad {N lo hi:Nat} {w:World} {v:Value} {Z:Lin} (h:LinV N lo hi w v Z) (hs:LinSz Z) (hp:∀ i,i < Z.np→RawS (Z.p i)) (hc:codeOf Z≠0) (A4:Option Addr) (m4 c4:Nat) (A5:Option Addr) (m5 c5:Nat) :
  Calls Tryz.prog 28 #[v,.slice A4 m4 c4,.slice A5 m5 c5] w (RetV w (.tuple #[.slice none 0 0,.slice none 0 0,.int .i64 (codeOf Z)])):=by
 have HS:=Lib.hid hs
 have HP:=Lib.hid hp
 obtain⟨r,hr⟩:=hid_eq (codeOf Z)
 have hr0:(r == 0)=false:=by rw [hr.out]; simpa using hc
 have hr1:(r != 0)=true:=by simpa using hr0
 rw [←hr.out]
 have hI:=h
 obtain⟨A1,c1,A2,c2,A3,c3,rfl,h1,h2,h3,hm,hnl,hnp⟩:=h.parts
 clear h h1 h2 h3 hc hs hp
 go_enter Tryz.func28,Tryz.ntmps28
 go_upto_region 1 with (fail)
 refine boxes1 ?_
 intro W hE hsz B0
 obtain⟨a0,a1,a2,-⟩:=cells3 B0
 go_wp2_with (go_at_call 58; refine Hid.out ?_)
 refine (n_check (hI.ext hE) HS.out HP.out).mono ?_
 rintro e w1 ⟨rfl,e1⟩
 rw [←hr.out]
 clear a0 a1 a2
 go_wp2
 first | go_ret3 | skip
 exact⟨rfl,hE.trans e1⟩
end Go.Proofs.YtccepmpebioeiaaGreat
