import Derived.Test.YtccepmpebioeiaaGreatWb25
import Derived.Test.YtccepmpebioeiaaGreatWb23
import Derived.Test.YtccepmpebioeiaaGreatWb26
import Derived.Test.YtccepmpebioeiaaGreatWb35
import Derived.Deep.Slices
import Derived.Deep.Strs
import Derived.Lib.SmallJoins
import Derived.ProofKit
import Derived.OpenShut
import Derived.WalkKit
import Derived.Below
import Derived.Test.YtccepmpebioeiaaGreatWb39
import Derived.Test.YtccepmpebioeiaaGreatWb36
import Derived.Deep.CutBlock
import Derived.Test.YtccepmpebioeiaaGreatWb38
set_option linter.all false
set_option maxHeartbeats 8000000
namespace Go.Proofs.YtccepmpebioeiaaGreat
open Go.RowKit
theorem val_one {l:List Nat} (h:l.length≤1):val l=l[0]?.getD 0:=by
 rcases l with _ | ⟨x,l⟩
 ·rfl
 ·have h2:l=[]:=List.eq_nil_of_length_eq_zero (by simpa using h);subst h2;simp [val]
theorem brief_sz {R:Raw} (h:briefB R=true):R.l1.length≤1∧R.l2.length≤1:=by
 unfold briefB at h;simp only [Bool.and_eq_true,decide_eq_true_eq] at h;exact⟨h.1.1.1,h.1.1.2⟩
theorem brief_ht {q:Rat} (h:briefB (raw q)=true):Ht 17 q:=by
 unfold briefB raw at h;simp only [Bool.and_eq_true,decide_eq_true_eq] at h;obtain⟨⟨⟨h1,h2⟩,h3⟩,h4⟩:=h;rw [←val_one h1,val_dg] at h3;rw [←val_one h2,val_dg] at h4;have h5:(2:Nat) ^ 17=131072:=by decide
 exact⟨by omega,by omega⟩
theorem brief_raw {R:Raw} (h:briefB R=true):RawSz R∧RawS R:=by
 obtain⟨h1,h2⟩:=brief_sz h;exact⟨⟨by omega,by omega⟩,⟨by omega,by omega⟩⟩
def ratOf (R:Raw):Rat:=Rat.divInt (zval R.b1 R.l1) (zval R.b2 R.l2)
theorem ratOf_raw (q:Rat):ratOf (raw q)=q:=by
 unfold ratOf raw;have h4:zval false (dg q.den)=(q.den:Int):=by unfold zval; rw [val_dg]; simp
 simp only [zval_canon,h4];exact Rat.num_divInt_den q
theorem raw_ratOf {R:Raw} (h:okR R=true):R=raw (ratOf R):=by
 obtain⟨q,rfl⟩:=okR_spec h;rw [ratOf_raw]
theorem rat_pos {q:Rat} (h:0 < q.num):0 < q:=by
 rw [Rat.lt_iff];simpa using h
theorem code_zero {Z:Lin} (h:codeOf Z=0):canonB Z=true∧sizeB Z=true∧fitB Z=true∧allB Z.np (fun i=>posB (Z.p i))=true:=by
 unfold codeOf at h
 by_cases h1:canonB Z=false
 ·rw [if_pos h1] at h; exact absurd h (by decide)
 rw [if_neg h1] at h
 by_cases h2:sizeB Z=false
 ·rw [if_pos h2] at h; exact absurd h (by decide)
 rw [if_neg h2] at h
 by_cases h3:fitB Z=false
 ·rw [if_pos h3] at h; exact absurd h (by decide)
 rw [if_neg h3] at h
 by_cases h4:allB Z.np (fun i=>posB (Z.p i))=false
 ·rw [if_pos h4] at h; exact absurd h (by decide)
 exact⟨by simpa using h1,by simpa using h2,by simpa using h3,by simpa using h4⟩
theorem shB_all {most n:Nat} {R:Nat→Raw} (h:shB most n R=true):n≤most∧∀ i,i < n→briefB (R i)=true:=by
 unfold shB at h;rw [Bool.and_eq_true,decide_eq_true_eq,allB_true] at h;exact h
theorem few34_all {r c:Nat} {Z:Lin} (h:few34 r c Z=true):Z.m≤r∧(∀ i,i < Z.nl→briefB (Z.l i)=true)∧(∀ i,i < Z.np→briefB (Z.p i)=true)∧∀ i,i < Z.m→Z.L i≤c∧∀ j,j < Z.L i→briefB (Z.A i j)=true:=by
 unfold few34 at h;rw [Bool.and_eq_true,Bool.and_eq_true,Bool.and_eq_true,decide_eq_true_eq,allB_true] at h;obtain⟨h1,h2,h3,h4⟩:=h;exact⟨h1,(shB_all h2).2,(shB_all h3).2,fun i hi=>shB_all (h4 i hi)⟩
theorem few34_sz {r c:Nat} {Z:Lin} (h:few34 r c Z=true):Z.m≤r∧LinSz Z∧∀ i,i < Z.np→RawS (Z.p i):=by
 obtain⟨h1,h2,h3,h4⟩:=few34_all h;exact⟨h1,⟨fun i hi j hj=>(brief_raw ((h4 i hi).2 j hj)).1,fun i hi=>(brief_raw (h2 i hi)).1,fun i hi=>(brief_raw (h3 i hi)).1⟩,fun i hi=>(brief_raw (h3 i hi)).2⟩
structure FewG (r c:Nat) (Z:Lin) (n:Nat) (X:Nat→Nat→Rat) (y p:Nat→Rat):Prop where
 m0:0 < Z.m
 mr:Z.m≤r
 n0:0 < n
 nc:n≤c
 L:∀ i,i < Z.m→Z.L i=n
 eA:∀ i,i < Z.m→∀ j,j < n→Z.A i j=raw (X i j)
 nl:Z.nl=Z.m
 el:∀ i,i < Z.m→Z.l i=raw (y i)
 np:Z.np=Z.m
 ep:∀ i,i < Z.m→Z.p i=raw (p i)
 pos:∀ i,i < Z.m→0 < p i
 hX:HtM Z.m n 17 X
 hy:HtL Z.m 17 y
 hp:HtL Z.m 17 p
theorem few34_lin {r c:Nat} {Z:Lin} (h:few34 r c Z=true) (hc:codeOf Z=0):FewG r c Z (Z.L 0) (fun i j=>ratOf (Z.A i j)) (fun i=>ratOf (Z.l i)) (fun i=>ratOf (Z.p i)):=by
 obtain⟨h1,h2,h3,h4⟩:=few34_all h;obtain⟨c1,c2,c3,c4⟩:=code_zero hc;unfold canonB canonA at c1;rw [Bool.and_eq_true,Bool.and_eq_true,allB_true,allB_true,allB_true] at c1;obtain⟨k1,k2,k3⟩:=c1;unfold sizeB at c2;simp only [Bool.and_eq_true,decide_eq_true_eq] at c2;unfold fitB evenB at c3;rw [Bool.and_eq_true,Bool.and_eq_true,allB_true,decide_eq_true_eq,decide_eq_true_eq] at c3;obtain⟨f1,f2,f3⟩:=c3;have hL:∀ i,i < Z.m→Z.L i=Z.L 0:=fun i hi=>of_decide_eq_true (f1 i hi)
 rw [allB_true] at c4;have kA:∀ i,i < Z.m→∀ j,j < Z.L 0→okR (Z.A i j)=true:=fun i hi j hj=>allB_true.1 (k1 i hi) j (by rw [hL i hi]; exact hj)
 refine⟨by omega,h1,by omega,(h4 0 (by omega)).1,hL,fun i hi j hj=>raw_ratOf (kA i hi j hj),f2,fun i hi=>raw_ratOf (k2 i (by omega)),f3,fun i hi=>raw_ratOf (k3 i (by omega)),fun i hi=>?_,fun i hi j hj=>?_,fun i hi=>?_,fun i hi=>?_⟩
 ·have h5:=c4 i (by omega);rw [raw_ratOf (k3 i (by omega)),posB_raw,decide_eq_true_eq] at h5;exact rat_pos h5
 ·refine brief_ht ?_;rw [←raw_ratOf (kA i hi j hj)];exact (h4 i hi).2 j (by rw [hL i hi]; exact hj)
 ·refine brief_ht ?_;rw [←raw_ratOf (k2 i (by omega))];exact h2 i (by omega)
 ·refine brief_ht ?_;rw [←raw_ratOf (k3 i (by omega))];exact h3 i (by omega)
theorem shB_lsv {most n:Nat} {R:Nat→Raw} (h:shB most n R=true) (hok:allB n (fun i=>okR (R i))=true) {N lo hi:Nat} {w:World} {v:Value} (hv:LsR N lo hi w v n R) :
  LsV N lo hi w v n (fun i=>ratOf (R i))∧HtL n 17 (fun i=>ratOf (R i)):=by
 have hk:=allB_true.1 hok;refine⟨LsR.congr hv (fun i hi=>raw_ratOf (hk i hi)),fun i hi=>brief_ht ?_⟩;rw [←raw_ratOf (hk i hi)];exact (shB_all h).2 i hi
end Go.Proofs.YtccepmpebioeiaaGreat
namespace Go.Proofs.YtccepmpebioeiaaGreat
open Go.RowKit Go.ChangeShapes Go.ChangeAt
theorem cells_int:Tryz.prog.cellsOf 42=2:=by kernel_rfl
theorem cells_rat:Tryz.prog.cellsOf 44=4:=by kernel_rfl
theorem cells_bool:Tryz.prog.cellsOf 4=1:=by kernel_rfl
theorem cells_u32:Tryz.prog.cellsOf 141=1:=by kernel_rfl
theorem cells_u32s:Tryz.prog.cellsOf 40=1:=by kernel_rfl
theorem cells_rats:Tryz.prog.cellsOf 24=1:=by kernel_rfl
section
variable {H:Type} {enc:TypeId×Value→H} {w:World} {spare:Nat→Bool} {held:Bool}
instance:Inhabited Raw:=⟨⟨false,[],false,[]⟩⟩
theorem spot_none {v:Value} (a:Addr) (h:w.cell? (a.add 0)=some v):a=⟨a.block,a.off,none⟩:=by
 obtain⟨b,off,spot⟩:=a;have hs:=World.cell?_spot h;have h2:spot=none:=by simpa [Addr.add] using hs
 subst h2; rfl
theorem gs_of_trod {n:Nat} {v:Value} {x:DataW H×List MemPlace} (h:DataW.trod enc Tryz.prog w 0 spare held n 40 [v]=some x):∃ l,Gs w.heap.size w v l:=by
 rcases Go.Deep.open_slice1 Tryz.underlying40 cells_u32 h with ⟨hcs,-⟩ | ⟨a,len,cap,m,n',V,D,Pl,hcs,-,hl,hm,hmm,-,hx⟩
 ·simp only [List.cons.injEq,and_true] at hcs;subst hcs;exact⟨[],Gs.nil (Nat.le_refl _) _ (Nat.zero_le _)⟩
 ·simp only [List.cons.injEq,and_true] at hcs;subst hcs;have hlm:len≤m:=by rw [hmm]; split <;> omega
  have hv:∀ i,i < len→∃ z:Nat,V i=.int .u32 (z:Int)∧z < 4294967296:=fun i hi=>by
   obtain⟨-,h2⟩:=hx i (by omega);obtain⟨z,hz,-,hw⟩:=DataW.trod_int Tryz.underlying141 h2;simp only [List.cons.injEq,and_true] at hz;have hb:=bounds_u32 hw;exact⟨z.toNat,by rw [hz]; congr 1; omega,by omega⟩
  obtain⟨f,hf⟩:=Go.Deep.choose_lt (α:=Nat) hv;refine⟨(List.range len).map f,Nat.le_refl _,_,len,cap,rfl,by simp,hl,hm,fun y hy=>?_,fun h0=>?_⟩
  ·obtain⟨i,hi,rfl⟩:=List.mem_map.1 hy;exact (hf i (by simpa using hi)).2
  ·have h1:=(hx 0 (by omega)).1;have ha:=spot_none a h1;refine⟨a.block,a.off,by rw [←ha],⟨?_,.inl ?_⟩,fun i hi=>?_⟩
   ·rw [ha,add_none] at h1; exact cell_lt (p:=⟨a.block,a.off+0,none⟩) h1
   ·rw [ha,add_none] at h1; exact cell_lt (p:=⟨a.block,a.off+0,none⟩) h1
   ·have h2:=(hx i (by omega)).1;rw [ha,add_none,(hf i hi).1] at h2;rw [h2];simp [hi]
theorem rat_of_trod {n:Nat} {c0 c1 c2 c3:Value} {x:DataW H×List MemPlace} (h:DataW.trod enc Tryz.prog w 0 spare held n 44 [c0,c1,c2,c3]=some x) :
  ∃ R:Raw,c0=.bool R.b1∧c2=.bool R.b2∧Gs w.heap.size w c1 R.l1∧Gs w.heap.size w c3 R.l2:=by
 obtain⟨y0,y1,n1,-,-,h0,h1⟩:=trod_struct2 Tryz.underlying44 h;simp only [cells_int,List.drop_zero,List.take_succ_cons,List.take_zero,List.drop_succ_cons] at h0 h1;obtain⟨z0,z1,n2,-,-,k0,k1⟩:=trod_struct2 Tryz.underlying42 h0;obtain⟨z2,z3,n3,-,-,k2,k3⟩:=trod_struct2 Tryz.underlying42 h1;simp only [cells_bool,cells_u32s,List.drop_zero,List.take_succ_cons,List.take_zero,List.drop_succ_cons] at k0 k1 k2 k3;obtain⟨b1,e1,-⟩:=DataW.trod_bool Tryz.underlying4 k0;obtain⟨b2,e2,-⟩:=DataW.trod_bool Tryz.underlying4 k2;obtain⟨l1,g1⟩:=gs_of_trod k1;obtain⟨l2,g2⟩:=gs_of_trod k3;simp only [List.cons.injEq,and_true] at e1 e2;exact⟨⟨b1,l1,b2,l2⟩,e1,e2,g1,g2⟩
theorem ls_of_trod {n:Nat} {v:Value} {x:DataW H×List MemPlace} (h:DataW.trod enc Tryz.prog w 0 spare held n 24 [v]=some x):∃ k R,LsR w.heap.size 0 w.heap.size w v k R:=by
 rcases Go.Deep.open_slice Tryz.underlying24 h with ⟨hcs,-⟩ | ⟨a,len,cap,m,n',D,Pl,hcs,-,hl,hm,hmm,-,hx⟩
 ·simp only [List.cons.injEq,and_true] at hcs;subst hcs;exact⟨0,fun _=>default,Nat.le_refl _,Nat.le_refl _,_,_,rfl,Nat.le_refl _,Nat.zero_le _,fun h0=>absurd h0 (by omega)⟩
 ·simp only [List.cons.injEq,and_true] at hcs;subst hcs;have hlm:len≤m:=by rw [hmm]; split <;> omega
  rw [cells_rat] at hx
  rcases Nat.eq_zero_or_pos len with hl0 | hl0
  ·subst hl0;exact⟨0,fun _=>default,Nat.le_refl _,Nat.le_refl _,_,_,rfl,hl,hm,fun h0=>absurd h0 (by omega)⟩
  obtain⟨B,O,rfl⟩:∃ B O,a=⟨B,O,none⟩:=by
   obtain⟨cs,h1,h2⟩:=hx 0 (by omega);obtain⟨-,hlen,hc⟩:=World.cells?_some h1;have k0:=hc 0 (by omega);have hz:(a.add (0*4)).add 0=a.add 0:=by rw [Go.Deep.add_add]
   rw [hz,List.getElem?_eq_getElem (by omega)] at k0;exact⟨_,_,spot_none a k0⟩
  have hv:∀ i,i < len→∃ R:Raw,At4 w.heap.size w B (O+i*4) R:=fun i hi=>by
   obtain⟨cs,h1,h2⟩:=hx i (by omega);obtain⟨-,hlen,hc⟩:=World.cells?_some h1
   match cs,hlen with
   | [c0,c1,c2,c3],_ =>
    obtain⟨R,e0,e2,g1,g3⟩:=rat_of_trod h2;have k0:=hc 0 (by omega);have k1:=hc 1 (by omega);have k2:=hc 2 (by omega);have k3:=hc 3 (by omega);rw [add_none,add_none] at k0 k1 k2 k3;refine⟨R,c1,c3,?_,?_,?_,?_,g1,g3⟩
    ·rw [←e0]; exact k0
    ·exact k1
    ·rw [←e2]; exact k2
    ·exact k3
  obtain⟨f,hf⟩:=Go.Deep.choose_lt (α:=Raw) hv;refine⟨len,f,Nat.le_refl _,Nat.le_refl _,_,cap,rfl,hl,hm,fun h0=>⟨B,O,rfl,Nat.zero_le _,?_,fun i hi=>hf i hi⟩⟩;obtain⟨s,t,k0,-⟩:=hf 0 h0;exact cell_lt k0
theorem mt_of_trod {n:Nat} {v:Value} {x:DataW H×List MemPlace} (h:DataW.trod enc Tryz.prog w 0 spare held n 23 [v]=some x):∃ k L R,MtR w.heap.size 0 w.heap.size w v k L R:=by
 rcases Go.Deep.open_slice1 Tryz.underlying23 cells_rats h with ⟨hcs,-⟩ | ⟨a,len,cap,m,n',V,D,Pl,hcs,-,hl,hm,hmm,-,hx⟩
 ·simp only [List.cons.injEq,and_true] at hcs;subst hcs;exact⟨0,fun _=>0,fun _ _=>default,Nat.le_refl _,Nat.le_refl _,_,_,rfl,Nat.le_refl _,Nat.zero_le _,fun h0=>absurd h0 (by omega)⟩
 ·simp only [List.cons.injEq,and_true] at hcs;subst hcs;have hlm:len≤m:=by rw [hmm]; split <;> omega
  rcases Nat.eq_zero_or_pos len with hl0 | hl0
  ·subst hl0;exact⟨0,fun _=>0,fun _ _=>default,Nat.le_refl _,Nat.le_refl _,_,_,rfl,hl,hm,fun h0=>absurd h0 (by omega)⟩
  obtain⟨B,O,rfl⟩:∃ B O,a=⟨B,O,none⟩:=⟨_,_,spot_none a (hx 0 (by omega)).1⟩
  have hv:∀ i,i < len→∃ kR:Nat×(Nat→Raw),w.cell? ⟨B,O+i,none⟩=some (V i)∧LsR w.heap.size 0 w.heap.size w (V i) kR.1 kR.2:=fun i hi=>by
   obtain⟨h1,h2⟩:=hx i (by omega);rw [add_none] at h1;obtain⟨k,R,hR⟩:=ls_of_trod h2;exact⟨(k,R),h1,hR⟩
  obtain⟨f,hf⟩:=Go.Deep.choose_lt (α:=Nat×(Nat→Raw)) hv;refine⟨len,fun i=>(f i).1,fun i=>(f i).2,Nat.le_refl _,Nat.le_refl _,_,cap,rfl,hl,hm,fun h0=>⟨B,O,rfl,Nat.zero_le _,cell_lt (hf 0 h0).1,fun i hi=>⟨V i,(hf i hi).1,(hf i hi).2⟩⟩⟩
end
theorem own:ownKnob Tryz.prog.godebug=none:=by kernel_rfl
theorem laidOut:laidOutB Tryz.prog=true:=by kernel_rfl
end Go.Proofs.YtccepmpebioeiaaGreat
namespace Go.Proofs.YtccepmpebioeiaaGreat
open Go.RowKit
theorem GrowS.nil0 {base:Nat} {w:World} (hb:base≤w.heap.size):GrowS base w (.slice none 0 0) []:=⟨hb,rfl,.inl ⟨rfl,rfl⟩⟩
theorem set3 {w:World} {g:Nat} {t:TypeId} {y0 y1 y2:Value} (hb:w.heap[g]?=some (.cells #[y0,y1,y2] t (0,0))) (x0:Value):∃ w1,w.setCell ⟨g,0,none⟩ x0=w1∧w1.heap[g]?=some (.cells #[x0,y1,y2] t (0,0))∧Upd g w w1 :=
 ⟨_,rfl,by have h1:=heap_set hb 0 x0; simpa using h1,(Upd.refl g w).set 0 x0⟩
theorem set31 {w:World} {g:Nat} {t:TypeId} {y0 y1 y2:Value} (hb:w.heap[g]?=some (.cells #[y0,y1,y2] t (0,0))) (x0:Value):∃ w1,w.setCell ⟨g,1,none⟩ x0=w1∧w1.heap[g]?=some (.cells #[y0,x0,y2] t (0,0))∧Upd g w w1 :=
 ⟨_,rfl,by have h1:=heap_set hb 1 x0; simpa using h1,(Upd.refl g w).set 1 x0⟩
theorem set32 {w:World} {g:Nat} {t:TypeId} {y0 y1 y2:Value} (hb:w.heap[g]?=some (.cells #[y0,y1,y2] t (0,0))) (x0:Value):∃ w1,w.setCell ⟨g,2,none⟩ x0=w1∧w1.heap[g]?=some (.cells #[y0,y1,x0] t (0,0))∧Upd g w w1 :=
 ⟨_,rfl,by have h1:=heap_set hb 2 x0; simpa using h1,(Upd.refl g w).set 2 x0⟩
def RetCp (N:Nat) (w:World) (m n:Nat) (X:Nat→Nat→Rat) (y p:Nat→Rat) (e:Ending) (w':World):Prop :=
 ∃ h cap g2 c2 g3 c3 β κ lo,e=.returned (.agg #[.slice (some ⟨h,0,none⟩) m cap,.slice (some ⟨g2,0,none⟩) m c2,.slice (some ⟨g3,0,none⟩) m c3])∧w.heap.size≤g2∧g2 < g3∧g3 < lo∧cap≤maxLen∧OwnM N lo w'.heap.size w' h cap m n β κ X ∧
  m≤c2∧c2≤maxLen∧RowB N w' g2 c2 m y∧m≤c3∧c3≤maxLen∧RowB N w' g3 c3 m p∧Ext w w'
set_option maxRecDepth 100000 in
theorem n_copied {N lo hi lo2 hi2:Nat} {w:World} {v1 v2 v3:Value} {m n:Nat} {X:Nat→Nat→Rat} {y p:Nat→Rat} (h1:MtV N lo hi w v1 m n X) (h2:LsV N lo2 hi2 w v2 m y) (h3:LsV N lo2 hi2 w v3 m p) (hm0:0 < m) (hm:m≤64) (hn0:0 < n) (hn:n≤64) :
  Calls Tryz.prog 87 #[.agg #[v1,v2,v3]] w (RetCp N w m n X y p):=by
 obtain⟨Rf,hRf⟩:=hid_eq (RetCp N w m n X y p);rw [←hRf.out];have hN:=h1.le;obtain⟨A1,c1,rfl,hmc,hcm⟩:=h1.form;obtain⟨A2,c2,rfl,hmc2,hcm2⟩:=h2.form;obtain⟨A3,c3,rfl,hmc3,hcm3⟩:=h3.form;have hI1:=h1;have hI2:=h2;have hI3:=h3;clear h1 h2 h3;go_enter Tryz.func87,Tryz.ntmps87;go_upto_region 1 with (fail);refine boxes2 ?_;intro W hE hsz B0 B4;obtain⟨a0,a1,a2,-⟩:=cells3 B0
 go_cut [3] (fun pt wx=>∃ gt g2 cap2 g3 cap3:Nat,pt=.pointer (some ⟨gt,0,none⟩)∧W.heap.size≤gt∧gt < wx.heap.size∧wx.heap[gt]?=some (.cells #[.slice none 0 0,.slice (some ⟨g2,0,none⟩) m cap2,.slice (some ⟨g3,0,none⟩) m cap3] 26 (0,0)) ∧
  W.heap.size≤g2∧g2 < g3∧g3 < wx.heap.size∧gt≠g2∧gt≠g3∧m≤cap2∧cap2≤maxLen∧RowB N wx g2 cap2 m y∧m≤cap3∧cap3≤maxLen∧RowB N wx g3 cap3 m p∧Ext W wx)
 case first =>
  have eC:=(Ext.refl W).drew;refine region_late (fun w'=>w'.cell? ⟨w.heap.size,1,none⟩=some (.slice A2 m c2)∧w'.cell? ⟨w.heap.size,2,none⟩=some (.slice A3 m c3)) [8] (by kernel_rfl) (by exact⟨eC.cell a1,eC.cell a2⟩) (fun hHeld=>?_);refine sP 0 (h:=?_);try simp only [nr]
  refine sT 1 (h:=?_);try simp only [nr]
  refine sP 3 (h:=?_);try simp only [nr]
  refine sT 4 (h:=?_);try simp only [nr]
  refine stepL_two (i:=2) (j:=7) rfl rfl (by kernel_rfl) (fun K hK=>?_) (fun K hK=>?_)
  ·go_simp;refine (sl_clone (hI2.ext (hE.trans eC)) hm0 (by omega)).mono ?_;rintro e w2 ⟨g2,cap2,rfl,hg2,hcm2',hnc2,hr2,e2⟩;have hl2:=hr2.lt;have hx2:=eC.size;replace eC:=eC.trans e2
   (try replace eA2:=eA2.trans e2)
   go_wp2_with fail;clear hHeld;refine hK.out _ _ (by exact⟨eC.cell a1,eC.cell a2⟩) fun hHeld=>?_
   clear hK K;try simp only [nr]
   refine stepL_two (i:=5) (j:=7) rfl rfl (by kernel_rfl) (fun K hK=>?_) (fun K hK=>?_)
   ·go_simp;refine (sl_clone (hI3.ext (hE.trans eC)) hm0 (by omega)).mono ?_;rintro e w3 ⟨g3,cap3,rfl,hg3,hcm3',hnc3,hr3,e3⟩;have hl3:=hr3.lt;have hx3:=e3.size;replace eC:=eC.trans e3;replace hr2:=hr2.ext e3
    (try replace eA2:=eA2.trans e3)
    go_wp2_with fail;clear hHeld;refine hK.out _ _ (by exact⟨eC.cell a1,eC.cell a2⟩) fun hHeld=>?_
    clear hK K;try simp only [nr]
    refine sP 6 (h:=?_);try simp only [nr]
    refine stepL_only (i:=7) rfl (by kernel_rfl) (fun K hK=>?_);go_simp
    first | refine boxes1 ?_ | refine boxesD1 ?_
    intro wA eA hszA BA;have hgl:W.heap.size≤_:=eC.size;replace eC:Ext W wA:=by first | exact eC.trans eA | exact eA
    have eA2:=Ext.refl wA
    (try replace hr2:=hr2.ext eA)
    (try replace hr3:=hr3.ext eA)
    clear hHeld;refine hK.out _ _ (by exact⟨eC.cell a1,eC.cell a2⟩) fun hHeld=>?_
    clear hK K;try simp only [nr]
    refine stepL_late (i:=8) rfl (by kernel_rfl) (by kernel_rfl) (fun K hK=>?_);obtain⟨u0,u1,u2,u3,u4,u5⟩:=cells3 (eA2.block BA);go_simp;refine hK.out _ _ ?_;clear hK K;try simp only [nr]
    refine stepL_done (by kernel_rfl) ?_ _;clear hHeld;go_wp2_with fail
    go_meet
    have hD:W.drew.heap.size=W.heap.size:=rfl;have BT:=eA2.block BA;obtain⟨w17,E17,D17,U17⟩:=ex3 BT (.slice none 0 0) (.slice (some ⟨g2,0,none⟩) m cap2) (.slice (some ⟨g3,0,none⟩) m cap3);rw [E17];have C17:=U17.chg (NoU.mk BT (by decide));have hA9:=blk_lt BT;have hs17:=C17.size;have hN9:=hE.size;exact⟨_,g2,cap2,g3,cap3,rfl,by omega,by omega,D17,by omega,by omega,by omega,by omega,by omega,hnc2,hcm2',hr2.chg C17 (by omega) (by omega),hnc3,hcm3',hr3.chg C17 (by omega) (by omega),C17.ext eC (by omega)⟩
   ·go_simp
    first | refine boxes1 ?_ | refine boxesD1 ?_
    intro wA eA hszA BA;have hgl:W.heap.size≤_:=eC.size;replace eC:Ext W wA:=by first | exact eC.trans eA | exact eA
    have eA2:=Ext.refl wA
    (try replace hr2:=hr2.ext eA)
    (try replace hr3:=hr3.ext eA)
    clear hHeld;refine hK.out _ _ (by exact⟨eC.cell a1,eC.cell a2⟩) fun hHeld=>?_
    clear hK K;try simp only [nr]
    refine stepL_only (i:=5) rfl (by kernel_rfl) (fun K hK=>?_);go_simp;refine (sl_clone (hI3.ext (hE.trans eC)) hm0 (by omega)).mono ?_;rintro e w3 ⟨g3,cap3,rfl,hg3,hcm3',hnc3,hr3,e3⟩;have hl3:=hr3.lt;have hx3:=e3.size;replace eC:=eC.trans e3;replace hr2:=hr2.ext e3
    (try replace eA2:=eA2.trans e3)
    go_wp2_with fail;clear hHeld;refine hK.out _ _ (by exact⟨eC.cell a1,eC.cell a2⟩) fun hHeld=>?_
    clear hK K;try simp only [nr]
    refine sP 6 (h:=?_);try simp only [nr]
    refine stepL_late (i:=8) rfl (by kernel_rfl) (by kernel_rfl) (fun K hK=>?_);obtain⟨u0,u1,u2,u3,u4,u5⟩:=cells3 (eA2.block BA);go_simp;refine hK.out _ _ ?_;clear hK K;try simp only [nr]
    refine stepL_done (by kernel_rfl) ?_ _;clear hHeld;go_wp2_with fail
    go_meet
    have hD:W.drew.heap.size=W.heap.size:=rfl;have BT:=eA2.block BA;obtain⟨w17,E17,D17,U17⟩:=ex3 BT (.slice none 0 0) (.slice (some ⟨g2,0,none⟩) m cap2) (.slice (some ⟨g3,0,none⟩) m cap3);rw [E17];have C17:=U17.chg (NoU.mk BT (by decide));have hA9:=blk_lt BT;have hs17:=C17.size;have hN9:=hE.size;exact⟨_,g2,cap2,g3,cap3,rfl,by omega,by omega,D17,by omega,by omega,by omega,by omega,by omega,hnc2,hcm2',hr2.chg C17 (by omega) (by omega),hnc3,hcm3',hr3.chg C17 (by omega) (by omega),C17.ext eC (by omega)⟩
  ·go_simp
   first | refine boxes1 ?_ | refine boxesD1 ?_
   intro wA eA hszA BA;have hgl:W.heap.size≤_:=eC.size;replace eC:Ext W wA:=by first | exact eC.trans eA | exact eA
   have eA2:=Ext.refl wA
   (try replace hr2:=hr2.ext eA)
   (try replace hr3:=hr3.ext eA)
   clear hHeld;refine hK.out _ _ (by exact⟨eC.cell a1,eC.cell a2⟩) fun hHeld=>?_
   clear hK K;try simp only [nr]
   refine stepL_only (i:=2) rfl (by kernel_rfl) (fun K hK=>?_);go_simp;refine (sl_clone (hI2.ext (hE.trans eC)) hm0 (by omega)).mono ?_;rintro e w2 ⟨g2,cap2,rfl,hg2,hcm2',hnc2,hr2,e2⟩;have hl2:=hr2.lt;have hx2:=eC.size;replace eC:=eC.trans e2
   (try replace eA2:=eA2.trans e2)
   go_wp2_with fail;clear hHeld;refine hK.out _ _ (by exact⟨eC.cell a1,eC.cell a2⟩) fun hHeld=>?_
   clear hK K;try simp only [nr]
   refine stepL_only (i:=5) rfl (by kernel_rfl) (fun K hK=>?_);go_simp;refine (sl_clone (hI3.ext (hE.trans eC)) hm0 (by omega)).mono ?_;rintro e w3 ⟨g3,cap3,rfl,hg3,hcm3',hnc3,hr3,e3⟩;have hl3:=hr3.lt;have hx3:=e3.size;replace eC:=eC.trans e3;replace hr2:=hr2.ext e3
   (try replace eA2:=eA2.trans e3)
   go_wp2_with fail;clear hHeld;refine hK.out _ _ (by exact⟨eC.cell a1,eC.cell a2⟩) fun hHeld=>?_
   clear hK K;try simp only [nr]
   refine sP 6 (h:=?_);try simp only [nr]
   refine stepL_late (i:=8) rfl (by kernel_rfl) (by kernel_rfl) (fun K hK=>?_);obtain⟨u0,u1,u2,u3,u4,u5⟩:=cells3 (eA2.block BA);go_simp;refine hK.out _ _ ?_;clear hK K;try simp only [nr]
   refine stepL_done (by kernel_rfl) ?_ _;clear hHeld;go_wp2_with fail
   go_meet
   have hD:W.drew.heap.size=W.heap.size:=rfl;have BT:=eA2.block BA;obtain⟨w17,E17,D17,U17⟩:=ex3 BT (.slice none 0 0) (.slice (some ⟨g2,0,none⟩) m cap2) (.slice (some ⟨g3,0,none⟩) m cap3);rw [E17];have C17:=U17.chg (NoU.mk BT (by decide));have hA9:=blk_lt BT;have hs17:=C17.size;have hN9:=hE.size;exact⟨_,g2,cap2,g3,cap3,rfl,by omega,by omega,D17,by omega,by omega,by omega,by omega,by omega,hnc2,hcm2',hr2.chg C17 (by omega) (by omega),hnc3,hcm3',hr3.chg C17 (by omega) (by omega),C17.ext eC (by omega)⟩
 case rest =>
  obtain⟨gt,g2,cap2,g3,cap3,rfl,k1,k2,BT,k3,k4,k5,k6,k7,k8,k9,hr2,k10,k11,hr3,eW⟩:=hcut;obtain⟨wx,hwx⟩:∃ wx,wx=wc:=⟨_,rfl⟩
  subst hwx;have hsW:=hE.size;have hsX:=eW.size;have hNx:N≤wx.heap.size:=by omega
  replace B0:=eW.block B0;replace B4:=eW.block B4;have hEx:=hE.trans eW;clear a0 a1 a2 eW;obtain⟨a0,a1,a2,-⟩:=cells3 B0;obtain⟨gw,hgw⟩:∃ gw,gw=w.heap.size:=⟨_,rfl⟩
  obtain⟨lo9,hlo9⟩:∃ lo9,lo9=wx.heap.size:=⟨_,rfl⟩
  have hg4:w.heap.size+1 < gt:=by omega
  have hgx:lo9=wx.heap.size:=hlo9;have k2':gt < lo9:=by omega
  have k5':g3 < lo9:=by omega
  have k3':w.heap.size+1 < g2:=by omega
  go_wp2;clear a0 a1 a2
  go_loopw [16] (fun i wr=>∃ a:Nat,a≤m∧i=.int .i64 a∧Ext w wr∧lo9≤wr.heap.size∧(∃ v,wr.heap[gt]?=some (.cells #[v,.slice (some ⟨g2,0,none⟩) m cap2,.slice (some ⟨g3,0,none⟩) m cap3] 26 (0,0))∧GrowM N lo9 wr.heap.size wr v a n X)∧RowB N wr g2 cap2 m y∧RowB N wr g3 cap3 m p∧wr.heap[w.heap.size+1]?=some (.cells #[.slice none 0 0,.slice none 0 0,.slice none 0 0] 26 (0,0))) (fun i _=>m - (intOf i).toNat)
  case atStart=>exact⟨0,Nat.zero_le _,rfl,hEx,by omega,⟨_,BT,GrowM.nil (by omega) (by omega) (Nat.le_refl _) _⟩,hr2,hr3,B4⟩
  case round =>
   clear hr2 hr3 B4 BT hEx B0;obtain⟨a,ha,rfl,hEr,hlr,⟨v,BT,hG⟩,hr2,hr3,B4⟩:=hrel
   by_cases hlt:a < m
   ·obtain⟨b,off,hA,-,-,hx⟩:=(hI1.ext hEr).addr hm0;obtain⟨Ar,cr,o0,-,hcr,hrow⟩:=hx a hlt;subst hA;obtain⟨q0,q1,q2,q3,q4,q5⟩:=cells3 BT
    obtain⟨Av,cv,rfl⟩:∃ Av cv,v=.slice Av a cv:=by
     rcases hG.2.2.2 with ⟨rfl,h0⟩ | ⟨h9,cap9,β9,κ9,rfl,-⟩
     ·exact⟨none,0,by rw [h0]⟩
     ·exact⟨_,_,rfl⟩
    clear hx;go_upto_region 5 with (fail);clear o0;have eC:=(Ext.refl wr).drew;refine region_late (fun w'=>w'.cell? ⟨gt,0,none⟩=some (.slice Av a cv)) [5,7] (by kernel_rfl) (by exact eC.cell q0) (fun hHeld=>?_);refine sP 0 (h:=?_);try simp only [nr]
    refine sT 1 (h:=?_);try simp only [nr]
    refine sP 2 (h:=?_);try simp only [nr]
    refine stepL_only (i:=3) rfl (by kernel_rfl) (fun K hK=>?_);go_simp;refine (sl_clone (hrow.ext eC) hn0 (by omega)).mono ?_;rintro e w5 ⟨g5,cap5,rfl,hg5,hcm5,hnc5,hr5,e5⟩;have hD:wr.drew.heap.size=wr.heap.size:=rfl;replace eC:=eC.trans e5;go_wp2_with fail;clear hHeld;refine hK.out _ _ (by exact eC.cell q0) fun hHeld=>?_
    clear hK K;try simp only [nr]
    refine stepL_only (i:=4) rfl (by kernel_rfl) (fun K hK=>?_);go_simp
    first | refine boxes1 ?_ | refine boxesD1 ?_
    intro w6 e6 hsz6 BX;replace eC:=eC.trans e6;replace hr5:=hr5.ext e6;have hG6:=hG.ext eC;have hr26:=hr2.ext eC;have hr36:=hr3.ext eC;have BT6:=eC.block BT;have B46:=eC.block B4;have hE6:=hEr.trans eC;clear hHeld;refine hK.out _ _ (by exact eC.cell q0) fun hHeld=>?_
    clear hK K;try simp only [nr]
    refine stepL_late (i:=5) rfl (by kernel_rfl) (by kernel_rfl) (fun K hK=>?_);refine step_append_row rfl _ _ 23 Tryz.underlying23 rfl (by rfl) hG6 (by rfl) hr5 (by omega) hcm5 BX (by omega) ?_;rintro h7 cap7 w7 hG7 ⟨g',hg',c7,-⟩;have hE7:=c7.ext hE6 (by omega);replace hG7:=hG7.congr (B:=X) (fun i _ j _=>by unfold updM; split; (rename_i e; subst e; rfl); rfl);have hr27:=hr26.chg c7 (by omega) (by omega);have hr37:=hr36.chg c7 (by omega) (by omega);have BT7:=c7.blk BT6 (by omega);have B47:=c7.blk B46 (by omega);have hs7:=c7.size;have hs6:=eC.size;refine hK.out _ _ ?_;clear hK K;try simp only [nr]
    refine sP 6 (h:=?_);try simp only [nr]
    refine stepL_late (i:=7) rfl (by kernel_rfl) (by kernel_rfl) (fun K hK=>?_);obtain⟨u0,u1,u2,u3,u4,u5⟩:=cells3 BT7;go_simp;obtain⟨w8,E8,BT8,U8⟩:=set3 BT7 (.slice (some ⟨h7,0,none⟩) (a+1) cap7);rw [E8];have C8:=U8.chg (NoU.mk BT7 (by decide));have hG8:=hG7.chg C8 (by omega) (.inr (by omega));have hr28:=hr27.chg C8 (by omega) (by omega);have hr38:=hr37.chg C8 (by omega) (by omega);have B48:=C8.blk B47 (by omega);have hE8:=C8.ext hE7 (by omega);have hs8:=U8.size;refine hK.out _ _ ?_;clear hK K;try simp only [nr]
    refine stepL_done (by kernel_rfl) ?_ _;clear hHeld;clear q0 q1 q2 q3 q4 q5 u0 u1 u2 u3 u4 u5 hr2 hr3 hr26 hr36 hr27 hr37 BT BT6 BT7 B4 B46 B47 BX hr5 hG hG6 hG7 hrow c7 C8 U8 E8 hE6 hE7 eC hEr;go_wp2;go_roundw
    case rel=>exact⟨a+1,by omega,by go_num,hE8,by omega,⟨_,BT8,by rw [hs8] at *; exact hG8⟩,hr28,hr38,B48⟩
    case measure=>simp [intOf]; omega
   ·obtain rfl:m=a:=by omega
    obtain⟨h9,cap9,β9,κ9,rfl,hc9,ho9⟩:=hG.own hm0;obtain⟨q0,q1,q2,q3,q4,q5⟩:=cells3 BT;obtain⟨u0,u1,u2,u3,u4,u5⟩:=cells3 B4;go_wp2;obtain⟨w8,E8,D8,U8⟩:=ex3 B4 (.slice (some ⟨h9,0,none⟩) m cap9) (.slice (some ⟨g2,0,none⟩) m cap2) (.slice (some ⟨g3,0,none⟩) m cap3);rw [E8];have C8:=U8.chg (NoU.mk B4 (by decide));have ho10:=ho9.chg C8 (by omega) (.inr (by omega));have hr28:=hr2.chg C8 (by omega) (by omega);have hr38:=hr3.chg C8 (by omega) (by omega);have hE8:=C8.ext hEr (by omega);have hs8:=U8.size;obtain⟨x0,x1,x2,-⟩:=cells3 D8;clear q0 q1 q2 q3 q4 q5 u0 u1 u2 u3 u4 u5 E8;refine bodyPost_ret (v:=.agg #[.slice (some ⟨h9,0,none⟩) m cap9,.slice (some ⟨g2,0,none⟩) m cap2,.slice (some ⟨g3,0,none⟩) m cap3]) ?_ rfl ?_
    ·simp [results,x0,x1,x2,go_sem]
    ·rw [hRf.out];exact⟨h9,cap9,g2,cap2,g3,cap3,β9,κ9,lo9,rfl,by omega,k4,k5',hc9,by rw [hs8]; exact ho10,k8,k9,hr28,k10,k11,hr38,hE8⟩
def CutV (N:Nat) (w:World) (m n:Nat) (X:Nat→Nat→Rat) (y p:Nat→Rat) (v:Value) (w':World):Prop :=
 ∃ h cap g2 c2 g3 c3 lo,v=.agg #[.slice (some ⟨h,0,none⟩) m cap,.slice (some ⟨g2,0,none⟩) m c2,.slice (some ⟨g3,0,none⟩) m c3]∧w.heap.size≤g2∧g2 < g3∧g3 < lo∧MtV N lo w'.heap.size w' (.slice (some ⟨h,0,none⟩) m cap) m n X ∧
  m≤c2∧c2≤maxLen∧RowB N w' g2 c2 m y∧m≤c3∧c3≤maxLen∧RowB N w' g3 c3 m p
def RetCut (N:Nat) (w:World) (m n:Nat) (X:Nat→Nat→Rat) (y p:Nat→Rat) (e:Ending) (w':World):Prop:=∃ v,e=.returned v∧CutV N w m n X y p v w'∧Ext w w'
set_option maxRecDepth 100000 in
theorem n_cut {N lo hi lo2 hi2:Nat} {w:World} {v1 v2 v3:Value} {m n:Nat} {X:Nat→Nat→Rat} {y p:Nat→Rat} (h1:MtV N lo hi w v1 m n X) (h2:LsV N lo2 hi2 w v2 m y) (h3:LsV N lo2 hi2 w v3 m p) (hm:m≤64) (hn0:0 < n) (hn:n≤64) {i:Nat} (hi':i < m) :
  Calls Tryz.prog 88 #[.agg #[v1,v2,v3],.int .i64 (i:Int)] w (RetCut N w (m - 1) n (fun j=>X (skip i j)) (fun j=>y (skip i j)) (fun j=>p (skip i j))):=by
 obtain⟨Rf,hRf⟩:=hid_eq (RetCut N w (m - 1) n (fun j=>X (skip i j)) (fun j=>y (skip i j)) (fun j=>p (skip i j)));rw [←hRf.out];have hN:=h1.le;obtain⟨A1,c1,rfl,hmc,hcm⟩:=h1.form;obtain⟨A2,c2,rfl,hmc2,hcm2⟩:=h2.form;obtain⟨A3,c3,rfl,hmc3,hcm3⟩:=h3.form;have hI1:=h1;have hI2:=h2;have hI3:=h3;have hw1:IntKind.i64.wrap ((i:Int)+1)=(i:Int)+1:=IntWalk.i64_in _ (by omega);clear h1 h2 h3;go_enter Tryz.func88,Tryz.ntmps88;go_upto_region 1 with (fail);refine boxes2 ?_;intro W hE hsz B0 B4;obtain⟨a0,a1,a2,-⟩:=cells3 B0;go_wp2_with (go_at_call 87; refine Hid.out ?_);refine (n_copied (hI1.ext hE) (hI2.ext hE) (hI3.ext hE) (by omega) hm hn0 hn).mono ?_;rintro e w1 ⟨h,cap,g2,cap2,g3,cap3,β,κ,lo9,rfl,k1,k2,k3,hcap,ho,k4,k5,hr2,k6,k7,hr3,e1⟩;have hlh:=ho.hlo;have hhh:=ho.hhi;have hhs:=ho.his;have hsW:=hE.size;have hE1:=hE.trans e1;replace B4:=e1.block B4;clear a0 a1 a2 B0 e1;go_upto_region 2 with (fail);refine boxes1 ?_;intro w2 e2 hsz2 BT;replace ho:=ho.ext e2;replace hr2:=hr2.ext e2;replace hr3:=hr3.ext e2;replace B4:=e2.block B4;have hE2:=hE1.trans e2;obtain⟨gt,hgt⟩:∃ gt,gt=w1.heap.size:=⟨_,rfl⟩
 rw [←hgt] at BT hsz2 hhs hhh ho ⊢;have hs2:=e2.size;clear hgt e2;obtain⟨d0,d1,d2,d3,d4,d5⟩:=cells3 BT;obtain⟨hs,hb,hbs,-⟩:=ho.hh;go_wp2_with (go_at_call 146; refine Hid.out ?_);refine (sl_del_rows hb (by omega) (by unfold maxLen at hcap; omega) ho.mle hi' (fun k hk=>⟨_,ho.hcell (by omega),rfl⟩) (by first | rfl | exact hw1)).mono ?_;intro e w3 hd;obtain⟨rfl,C3,hM3⟩:=del_rows ho hcap hi' hd;have hE3:=C3.ext hE2 (by omega);replace hr2:=hr2.chg C3 (by omega) (by omega);replace hr3:=hr3.chg C3 (by omega) (by omega);replace B4:=C3.blk B4 (by omega);replace BT:=C3.blk BT (by omega);have hs3:=C3.size;clear d0 d1 d2 d3 d4 d5 hb hd ho C3;obtain⟨d0,d1,d2,d3,d4,d5⟩:=cells3 BT;go_upto_region 3 with (fail);obtain⟨w4,E4,BT4,U4⟩:=set3 BT (.slice (some ⟨h,0,none⟩) (m - 1) cap);rw [E4];have C4:=U4.chg (NoU.mk BT (by decide));have hM4:=hM3.chg C4 (by omega) (.inl (by omega));replace hr2:=hr2.chg C4 (by omega) (by omega);replace hr3:=hr3.chg C4 (by omega) (by omega);replace B4:=C4.blk B4 (by omega);have hE4:=C4.ext hE3 (by omega);have hs4:=U4.size;clear d0 d1 d2 d3 d4 d5 E4 U4 C4 BT hM3 hE3;obtain⟨d0,d1,d2,-⟩:=cells3 BT4;have hg2l:=hr2.lt;have hg3l:=hr3.lt;have eC:=(Ext.refl w4).drew;refine region_late (fun w'=>w'.cell? ⟨gt,1,none⟩=some (.slice (some ⟨g2,0,none⟩) m cap2)∧w'.cell? ⟨gt,2,none⟩=some (.slice (some ⟨g3,0,none⟩) m cap3)) [13,15] (by kernel_rfl) (by exact⟨eC.cell d1,eC.cell d2⟩) (fun hHeld=>?_)
 refine sP 0 (h:=?_);try simp only [nr]
 refine sT 1 (h:=?_);try simp only [nr]
 refine sP 2 (h:=?_);try simp only [nr]
 refine sP 3 (h:=?_);try simp only [nr]
 refine sP 4 (h:=?_);try simp only [nr]
 refine sP 6 (h:=?_);try simp only [nr]
 refine sT 7 (h:=?_);try simp only [nr]
 refine sP 8 (h:=?_);try simp only [nr]
 refine sP 9 (h:=?_);try simp only [nr]
 refine sP 10 (h:=?_);try simp only [nr]
 refine stepL_only (i:=5) rfl (by kernel_rfl) (fun K hK=>?_);go_simp;obtain⟨cs4,hb4,hbs4⟩:=(hr2.ext eC).2.2.1;refine (sl_del_rats hb4 hbs4 (by unfold maxLen at k5; omega) k4 hi' (row_one (hr2.ext eC)) (by first | rfl | exact hw1)).mono ?_;intro e w5 hd;obtain⟨rfl,C5,hr5⟩:=del_row (hr2.ext eC) hi' hd;replace d1:=C5.cell (eC.cell d1) (by show gt < _∨_≤gt; omega);replace d2:=C5.cell (eC.cell d2) (by show gt < _∨_≤gt; omega);have BT5:=C5.blk (eC.block BT4) (by omega);have B45:=C5.blk (eC.block B4) (by omega);have hM5:=(hM4.ext eC).chg C5 (by omega) (.inr (by omega));have hr35:=(hr3.ext eC).chg C5 (by omega) (by omega);have hE5:=C5.ext (hE4.trans eC) (by omega);have hs5:=C5.size;have hs5':=eC.size;replace eC:=Ext.refl w5;clear hd hb4;go_wp2_with fail;clear hHeld;refine hK.out _ _ (by exact⟨eC.cell d1,eC.cell d2⟩) fun hHeld=>?_
 clear hK K;try simp only [nr]
 refine sP 12 (h:=?_);try simp only [nr]
 refine stepL_only (i:=11) rfl (by kernel_rfl) (fun K hK=>?_);go_simp;obtain⟨cs6,hb6,hbs6⟩:=(hr35.ext eC).2.2.1;refine (sl_del_rats hb6 hbs6 (by unfold maxLen at k7; omega) k6 hi' (row_one (hr35.ext eC)) (by first | rfl | exact hw1)).mono ?_;intro e w7 hd;obtain⟨rfl,C7,hr7⟩:=del_row (hr35.ext eC) hi' hd;replace d1:=C7.cell (eC.cell d1) (by show gt < _∨_≤gt; omega);replace d2:=C7.cell (eC.cell d2) (by show gt < _∨_≤gt; omega);have BT7:=C7.blk (eC.block BT5) (by omega);have B47:=C7.blk (eC.block B45) (by omega);have hM7:=(hM5.ext eC).chg C7 (by omega) (.inr (by omega));have hr57:=(hr5.ext eC).chg C7 (by omega) (by omega);have hE7:=C7.ext (hE5.trans eC) (by omega);have hs7:=C7.size;have hs7':=eC.size;replace eC:=Ext.refl w7;clear hd hb6;go_wp2_with fail;clear hHeld;refine hK.out _ _ (by exact⟨eC.cell d1,eC.cell d2⟩) fun hHeld=>?_
 clear hK K;try simp only [nr]
 refine stepL_late (i:=13) rfl (by kernel_rfl) (by kernel_rfl) (fun K hK=>?_);obtain⟨u0,u1,u2,u3,u4,u5⟩:=cells3 BT7;go_simp;obtain⟨w8,E8,BT8,U8⟩:=set31 BT7 (.slice (some ⟨g2,0,none⟩) (m - 1) cap2);rw [E8];have C8:=U8.chg (NoU.mk BT7 (by decide));have hM8:=hM7.chg C8 (by omega) (.inl (by omega));have hr58:=hr57.chg C8 (by omega) (by omega);have hr78:=hr7.chg C8 (by omega) (by omega);have B48:=C8.blk B47 (by omega);have hE8:=C8.ext hE7 (by omega);have hs8:=U8.size;clear u0 u1 u2 u3 u4 u5;refine hK.out _ _ ?_;clear hK K;try simp only [nr]
 refine sP 14 (h:=?_);try simp only [nr]
 refine stepL_late (i:=15) rfl (by kernel_rfl) (by kernel_rfl) (fun K hK=>?_);obtain⟨u0,u1,u2,u3,u4,u5⟩:=cells3 BT8;go_simp;obtain⟨w9,E9,BT9,U9⟩:=set32 BT8 (.slice (some ⟨g3,0,none⟩) (m - 1) cap3);rw [E9];have C9:=U9.chg (NoU.mk BT8 (by decide));have hM9:=hM8.chg C9 (by omega) (.inl (by omega));have hr59:=hr58.chg C9 (by omega) (by omega);have hr79:=hr78.chg C9 (by omega) (by omega);have B49:=C9.blk B48 (by omega);have hE9:=C9.ext hE8 (by omega);have hs9:=U9.size;clear u0 u1 u2 u3 u4 u5;refine hK.out _ _ ?_;clear hK K;try simp only [nr]
 refine stepL_done (by kernel_rfl) ?_ _;clear hHeld;clear d0 d1 d2 hM4 hM5 hM7 hM8 hr2 hr3 hr35 hr5 hr57 hr58 hr7 hr78 B4 B45 B47 B48 BT4 BT5 BT7 BT8;obtain⟨d0,d1,d2,-⟩:=cells3 BT9;obtain⟨u0,u1,u2,u3,u4,u5⟩:=cells3 B49;go_wp2;obtain⟨w10,E10,D10,U10⟩:=ex3 B49 (.slice (some ⟨h,0,none⟩) (m - 1) cap) (.slice (some ⟨g2,0,none⟩) (m - 1) cap2) (.slice (some ⟨g3,0,none⟩) (m - 1) cap3);rw [E10];have C10:=U10.chg (NoU.mk B49 (by decide));have hM10:=hM9.chg C10 (by omega) (.inr (by omega));have hr510:=hr59.chg C10 (by omega) (by omega);have hr710:=hr79.chg C10 (by omega) (by omega);have hE10:=C10.ext hE9 (by omega);have hs10:=U10.size;obtain⟨x0,x1,x2,-⟩:=cells3 D10;clear d0 d1 d2 u0 u1 u2 u3 u4 u5 E10;refine bodyPost_ret (v:=.agg #[.slice (some ⟨h,0,none⟩) (m - 1) cap,.slice (some ⟨g2,0,none⟩) (m - 1) cap2,.slice (some ⟨g3,0,none⟩) (m - 1) cap3]) ?_ rfl ?_
 ·simp [results,x0,x1,x2,go_sem]
 ·rw [hRf.out];exact⟨_,rfl,⟨h,cap,g2,cap2,g3,cap3,lo9,rfl,by omega,k2,k3,MtR.wide hM10 (Nat.le_refl _) hM10.2.1 (Nat.le_refl _),by omega,k5,hr510,by omega,k7,hr710⟩,hE10⟩
def nilLin:Value:=.agg #[.slice none 0 0,.slice none 0 0,.slice none 0 0]
theorem CutV.chg {N l u:Nat} {w w1 w2:World} {m n:Nat} {X:Nat→Nat→Rat} {y p:Nat→Rat} {v:Value} (h:CutV N w m n X y p v w1) (c:Chg l u w1 w2) (hN:N≤l) (hl:u≤w.heap.size):CutV N w m n X y p v w2:=by
 obtain⟨h,cap,g2,c2,g3,c3,lo,rfl,k1,k2,k3,hM,k4,k5,r2,k6,k7,r3⟩:=h;have hM2:=hM.chg c hN (.inr (by omega));exact⟨h,cap,g2,c2,g3,c3,lo,rfl,k1,k2,k3,MtR.wide hM2 (Nat.le_refl _) c.size (Nat.le_refl _),k4,k5,r2.chg c hN (.inr (by omega)),k6,k7,r3.chg c hN (.inr (by omega))⟩
theorem CutV.ext {N:Nat} {w w1 w2:World} {m n:Nat} {X:Nat→Nat→Rat} {y p:Nat→Rat} {v:Value} (h:CutV N w m n X y p v w1) (e:Ext w1 w2):CutV N w m n X y p v w2:=by
 obtain⟨h,cap,g2,c2,g3,c3,lo,rfl,k1,k2,k3,hM,k4,k5,r2,k6,k7,r3⟩:=h;exact⟨h,cap,g2,c2,g3,c3,lo,rfl,k1,k2,k3,MtR.wide (hM.ext e) (Nat.le_refl _) e.size (Nat.le_refl _),k4,k5,r2.ext e,k6,k7,r3.ext e⟩
theorem CutV.low {N:Nat} {w w0 w1:World} {m n:Nat} {X:Nat→Nat→Rat} {y p:Nat→Rat} {v:Value} (h:CutV N w m n X y p v w1) (hl:w0.heap.size≤w.heap.size):CutV N w0 m n X y p v w1:=by
 obtain⟨h,cap,g2,c2,g3,c3,lo,rfl,k1,k2,k3,hM,k4,k5,r2,k6,k7,r3⟩:=h;exact⟨h,cap,g2,c2,g3,c3,lo,rfl,by omega,k2,k3,hM,k4,k5,r2,k6,k7,r3⟩
theorem CutV.form {N:Nat} {w w1:World} {m n:Nat} {X:Nat→Nat→Rat} {y p:Nat→Rat} {v:Value} (h:CutV N w m n X y p v w1):∃ (A1:Option Addr) (c1:Nat) (A2:Option Addr) (c2:Nat) (A3:Option Addr) (c3:Nat),v=.agg #[.slice A1 m c1,.slice A2 m c2,.slice A3 m c3] ∧
  MtV N 0 w1.heap.size w1 (.slice A1 m c1) m n X∧LsV N 0 w1.heap.size w1 (.slice A2 m c2) m y∧LsV N 0 w1.heap.size w1 (.slice A3 m c3) m p:=by
 obtain⟨h,cap,g2,c2,g3,c3,lo,rfl,k1,k2,k3,hM,k4,k5,r2,k6,k7,r3⟩:=h;have l2:=r2.lt;have l3:=r3.lt;exact⟨_,_,_,_,_,_,rfl,MtV.all hM,r2.lsv k4 k5 (Nat.zero_le _) l2 (Nat.le_refl _),r3.lsv k6 k7 (Nat.zero_le _) l3 (Nat.le_refl _)⟩
theorem l34_none_nil {w:World}:Calls Tryz.prog 40 #[nilLin] w (RetV w (.bool true)):=by
 unfold nilLin;go_enter Tryz.func40,Tryz.ntmps40;go_upto_region 1 with (fail);refine boxes1 ?_;intro W hE hsz B0;obtain⟨a0,a1,a2,-⟩:=cells3 B0;go_wp2;go_ret;exact⟨rfl,hE⟩
theorem l34_same {N lo hi lo2 hi2:Nat} {w:World} {v1 v2 v3 u1 u2 u3:Value} {m n:Nat} {X X':Nat→Nat→Rat} {y y' p p':Nat→Rat} (h1:MtV N lo hi w v1 m n X) (h2:LsV N lo hi w v2 m y) (h3:LsV N lo hi w v3 m p) (g1:MtV N lo2 hi2 w u1 m n X') (g2:LsV N lo2 hi2 w u2 m y') (g3:LsV N lo2 hi2 w u3 m p')
  (hX:∀ i,i < m→∀ j,j < n→X i j=X' i j) (hy:∀ i,i < m→y i=y' i) (hp:∀ i,i < m→p i=p' i) (sX:∀ i,i < m→∀ j,j < n→Sz (X i j)) (sy:∀ i,i < m→Sz (y i)) (sp:∀ i,i < m→Sz (p i)) :
  Calls Tryz.prog 41 #[.agg #[v1,v2,v3],.agg #[u1,u2,u3]] w (RetV w (.bool true)):=by
 have HX:=Lib.hid hX;have HY:=Lib.hid hy;have HP:=Lib.hid hp;have SX:=Lib.hid sX;have SY:=Lib.hid sy;have SP:=Lib.hid sp;obtain⟨A1,c1,rfl,hmc,hcm⟩:=h1.form;obtain⟨A2,c2,rfl,hmc2,hcm2⟩:=h2.form;obtain⟨A3,c3,rfl,hmc3,hcm3⟩:=h3.form;obtain⟨A4,c4,rfl,hmc4,hcm4⟩:=g1.form;obtain⟨A5,c5,rfl,hmc5,hcm5⟩:=g2.form;obtain⟨A6,c6,rfl,hmc6,hcm6⟩:=g3.form;have hI1:=h1;have hI2:=h2;have hI3:=h3;have hI4:=g1;have hI5:=g2;have hI6:=g3;clear h1 h2 h3 g1 g2 g3 hX hy hp sX sy sp;go_enter Tryz.func41,Tryz.ntmps41;go_upto_region 1 with (fail);refine boxes2 ?_;intro W hE hsz B0 B1;obtain⟨a0,a1,a2,-⟩:=cells3 B0;obtain⟨d0,d1,d2,-⟩:=cells3 B1;go_wp2_with (go_at_call 24; refine Hid.out ?_);refine (r2_sameMatrix (hI1.ext hE) (hI4.ext hE) SX.out HX.out).mono ?_;rintro e w1 ⟨rfl,e1⟩;replace hE:=hE.trans e1;replace B0:=e1.block B0;replace B1:=e1.block B1;clear a0 a1 a2 d0 d1 d2 e1;obtain⟨a0,a1,a2,-⟩:=cells3 B0;obtain⟨d0,d1,d2,-⟩:=cells3 B1;go_wp2_with (go_at_call 25; refine Hid.out ?_);refine (r2_sameList (hI2.ext hE) (hI5.ext hE) SY.out HY.out).mono ?_;rintro e w2 ⟨rfl,e2⟩;replace hE:=hE.trans e2;replace B0:=e2.block B0;replace B1:=e2.block B1;clear a0 a1 a2 d0 d1 d2 e2;obtain⟨a0,a1,a2,-⟩:=cells3 B0;obtain⟨d0,d1,d2,-⟩:=cells3 B1;go_wp2_with (go_at_call 25; refine Hid.out ?_);refine (r2_sameList (hI3.ext hE) (hI6.ext hE) SP.out HP.out).mono ?_;rintro e w3 ⟨rfl,e3⟩;go_wp2;go_ret;exact⟨rfl,hE.trans e3⟩
theorem grow_chgB {N base g:Nat} {w w':World} {v:Value} {n:Nat} {x:Nat→Rat} (h:Grow N base w v n x) (c:Chg g (g+1) w w') (hN:N≤g) (hd:v.ownBlock≠some g):Grow N base w' v n x:=by
 obtain⟨h1,h2,h3⟩:=h;refine⟨h1,Nat.le_trans h2 c.size,?_⟩
 rcases h3 with h3 | ⟨g0,cap,rfl,hg,hm,hr⟩
 ·exact .inl h3
 ·have hne:g0≠g:=fun e=>hd (by rw [←e]; rfl)
  exact .inr ⟨g0,cap,rfl,hg,hm,hr.chg c hN (by omega)⟩
theorem grow_lt {N base:Nat} {w:World} {v:Value} {n:Nat} {x:Nat→Rat} (h:Grow N base w v n x) {k:Nat} (hk:v.ownBlock=some k):base≤k∧k < w.heap.size:=by
 obtain⟨h1,h2,⟨rfl,-⟩ | ⟨g0,cap,rfl,hg,hm,hr⟩⟩:=h
 ·simp [Value.ownBlock] at hk
 ·have:g0=k:=by simpa [Value.ownBlock] using hk
  subst this;exact⟨hg,hr.lt⟩
theorem GrowS.chgB {base g:Nat} {w w':World} {v:Value} {xs:List Value} (h:GrowS base w v xs) (c:Chg g (g+1) w w') (hd:v.ownBlock≠some g):GrowS base w' v xs:=by
 obtain⟨h0,h1,h2⟩:=h;refine⟨Nat.le_trans h0 c.size,h1,?_⟩
 rcases h2 with h2 | ⟨g0,cap,cur,rfl,hb,hg,h3⟩
 ·exact .inl h2
 ·have hne:g0≠g:=fun e=>hd (by rw [←e]; rfl)
  exact .inr ⟨g0,cap,cur,rfl,hb,c.blk hg (by omega),h3⟩
theorem GrowS.own_lt {base:Nat} {w:World} {v:Value} {xs:List Value} (h:GrowS base w v xs) {k:Nat} (hk:v.ownBlock=some k):base≤k∧k < w.heap.size:=by
 obtain⟨h0,h1,⟨rfl,-⟩ | ⟨g0,cap,cur,rfl,hb,hg,h3⟩⟩:=h
 ·simp [Value.ownBlock] at hk
 ·have:g0=k:=by simpa [Value.ownBlock] using hk
  subst this;exact⟨hb,blk_lt hg⟩
theorem grow_noU {N base:Nat} {w:World} {v:Value} {n:Nat} {x:Nat→Rat} (h:Grow N base w v n x):∃ g',base≤g'∧NoU w g'∧(∀ k,v.ownBlock=some k→k=g')∧(v.ownBlock=some g'∨g'=w.heap.size):=by
 obtain⟨h1,h2,⟨rfl,-⟩ | ⟨g0,cap,rfl,hg,hm,hr⟩⟩:=h
 ·exact⟨w.heap.size,h2,fun cs fr h=>by (rw [Array.getElem?_eq_none (Nat.le_refl _)] at h; cases h),fun k hk=>by simp [Value.ownBlock] at hk,.inr rfl⟩
 ·exact⟨g0,hg,hr.noU,fun k hk=>by simpa [Value.ownBlock] using hk.symm,.inl rfl⟩
theorem run_append_rat_at {N base:Nat} {w:World} (t ty:TypeId) (ht:Tryz.prog.underlying t=some (.slice 44)) {v:Value} {n:Nat} {x:Nat→Rat} (h:Grow N base w v n x)
  {b:Nat} {neg:Bool} {s u:Value} {q:Rat} {fr:Nat×Nat} (hb:w.heap[b]?=some (.cells #[.bool neg,s,.bool false,u] 44 fr)) (hneg:Hid (neg=decide (q.num < 0))) (hs:Gs N w s (dg q.num.natAbs)) (hu:Gs N w u (dg q.den)) (hn:n < 1000000000) :
  ∃ g cap w' g',(Builtin.append_ #[t,t] ty #[v,.slice (some ⟨b,0,none⟩) 1 1]).run Tryz.prog w=.ok (.slice (some ⟨g,0,none⟩) (n+1) cap) w'∧Grow N base w' (.slice (some ⟨g,0,none⟩) (n+1) cap) (n+1) (upd x n q)∧base≤g'∧Chg g' (g'+1) w w'∧(v.ownBlock=some g'∨g'=w.heap.size)∧(v.ownBlock=some g∨g=w.heap.size):=by
 obtain⟨i0,hi0,hz0,hz1,hz2⟩:=info_parts info_rat;obtain⟨g1,cap1,w1,hrun1,hG1,-,-⟩:=run_append_rat t ty ht h hb hneg hs hu hn;obtain⟨g',hg',hT,hk,hw9⟩:=grow_noU h;obtain⟨h1,h2,h3⟩:=h
 have hown:∃ xs,w.ownsRow base 44 4 v n xs:=by
  rcases h3 with ⟨rfl,rfl⟩ | ⟨g,cap,rfl,hg,hm,hr⟩
  ·exact⟨[],⟨by simp,.inl ⟨rfl,rfl⟩⟩⟩
  ·obtain⟨xs,hx,hc⟩:=row_cells hr hm hg;exact⟨xs,hx⟩
 obtain⟨xs,hown⟩:=hown;obtain⟨As,ns,cs0,rfl,-,-,-⟩:=hs.form;obtain⟨Au,nu,cu,rfl,-,-,-⟩:=hu.form
 obtain⟨g,cap,w',hrun,ho,hgr,hat,hlt⟩:=run_append_lies (P:=Tryz.prog) w t ty base 44 i0 _ 4 64 ht hi0 hz0 hz1 hz2 rfl (by omega) v n xs hown ⟨b,0,none⟩ 1 1 [.bool neg,.slice As ns cs0,.bool false,.slice Au nu cu] rfl
  (fun j u hj=>by
   have e:(⟨b,0,none⟩:Addr).add j=⟨b,j,none⟩:=by
    unfold Addr.add; split
    ·rename_i e; subst e; rfl
    ·simp
   rw [e,cell_blk hb]
   simpa using hj)
  (fun u hu=>by simp at hu; rcases hu with rfl | rfl | rfl | rfl <;> rfl) (by omega) (by unfold maxLen; omega) (by omega) h2 w.heap.size rfl
 rw [hrun1] at hrun;injection hrun with e1 e2
 injection e1 with e1 _ e3
 injection e1 with e1
 injection e1 with e1 _
 subst e1 e2 e3;exact⟨g1,cap1,w1,g',hrun1,hG1,hg',grown_chg hgr hk hT,hw9,hat⟩
theorem step_append_rat_at {N base:Nat} {w:World} {ops:Array Oper} {o:Oper} {a:Act} {K:Act→World→Prop} {Q:Exit→Act→World→Prop} {E:Prop} (hgd:o.guard=none) (s x:Operand) (t:TypeId) (ht:Tryz.prog.underlying t=some (.slice 44))
  (ho:o.op=.call { callee:=.builtin .append,args:=#[s,x],argTypes:=#[t,t] }) {v:Value} {n:Nat} {f:Nat→Rat} (hs:a.eval s=v) (h:Grow N base w v n f)
  {b:Nat} (hx:a.eval x=.slice (some ⟨b,0,none⟩) 1 1) {neg:Bool} {s1 s2:Value} {q:Rat} {fr:Nat×Nat} (hb:w.heap[b]?=some (.cells #[.bool neg,s1,.bool false,s2] 44 fr)) (hneg:Hid (neg=decide (q.num < 0))) (g1:Gs N w s1 (dg q.num.natAbs)) (g2:Gs N w s2 (dg q.den)) (hn:n < 1000000000)
  (hK:∀ g cap w' g',Grow N base w' (.slice (some ⟨g,0,none⟩) (n+1) cap) (n+1) (upd f n q)→base≤g'→Chg g' (g'+1) w w'→(v.ownBlock=some g'∨g'=w.heap.size)→(v.ownBlock=some g∨g=w.heap.size)→K (a.put o.dst (.slice (some ⟨g,0,none⟩) (n+1) cap)) w') :
  if Region.wanted o (yielded ops a.tmps)=true then Oper.wp Tryz.prog o a w K Q else E:=by
 have hw:Region.wanted o (yielded ops a.tmps)=true:=by simp [Region.wanted,hgd]
 rw [if_pos hw];obtain⟨g,cap,w',g',hrun,h2,h3,h4,h5,h6⟩:=run_append_rat_at t o.type ht h hb hneg g1 g2 hn;unfold Oper.wp execOp;simp only [ho,resolve,invoke,builtin,Sem.run_bind,Sem.run_pure,Result.andThen_ok,List.map_toArray,List.map_cons,List.map_nil,hs,hx,hrun];exact hK g cap w' g' h2 h3 h4 h5 h6
theorem run_append_row_at {base:Nat} {w:World} {v:Value} {xs:List Value} (t ty:TypeId) (ht:Tryz.prog.underlying t=some (.slice 24)) (h:GrowS base w v xs) {b:Nat} {u:Value} {fr:Nat×Nat} (hb:w.heap[b]?=some (.cells #[u] 24 fr)) (h1:u.oneCell'=true) (hlen:xs.length < 100000) :
  ∃ g cap w' g',(Builtin.append_ #[t,t] ty #[v,.slice (some ⟨b,0,none⟩) 1 1]).run Tryz.prog w=.ok (.slice (some ⟨g,0,none⟩) (xs.length+1) cap) w'∧GrowS base w' (.slice (some ⟨g,0,none⟩) (xs.length+1) cap) (xs ++ [u])∧base≤g'∧Chg g' (g'+1) w w'∧(v.ownBlock=some g'∨g'=w.heap.size)∧(v.ownBlock=some g∨g=w.heap.size):=by
 obtain⟨i0,hi0,hz0,hz1,hz2⟩:=info_parts info_row;obtain⟨g',hg',hT,hk,hw9⟩:=h.noU;obtain⟨h0,hown⟩:=h
 obtain⟨g,cap,w',hrun,ho,hgr,hat,hlt⟩:=run_append_lies (P:=Tryz.prog) w t ty base 24 i0 _ 1 24 ht hi0 hz0 hz1 hz2 rfl (by omega) v xs.length xs hown ⟨b,0,none⟩ 1 1 [u] rfl
  (fun j u' hj=>by
   rw [add_none];have hj0:j=0:=by have:=(List.getElem?_eq_some_iff.1 hj).1; simp at this; exact this
   subst hj0;rw [cell_blk hb]
   simpa using hj)
  (fun u' hu=>by rw [List.mem_singleton.1 hu]; exact h1) (by omega) (by unfold maxLen; omega) (by omega) h0 w.heap.size rfl
 refine⟨g,cap,w',g',hrun,⟨Nat.le_trans h0 hgr.size,?_⟩,hg',grown_chg hgr hk hT,hw9,hat⟩;rw [List.length_append]; exact ho
theorem step_append_row_at {base:Nat} {w:World} {v:Value} {xs:List Value} {ops:Array Oper} {o:Oper} {a:Act} {K:Act→World→Prop} {Q:Exit→Act→World→Prop} {E:Prop} (hgd:o.guard=none) (s x:Operand) (t:TypeId) (ht:Tryz.prog.underlying t=some (.slice 24))
  (ho:o.op=.call { callee:=.builtin .append,args:=#[s,x],argTypes:=#[t,t] }) (hs:a.eval s=v) (h:GrowS base w v xs) {b:Nat} (hx:a.eval x=.slice (some ⟨b,0,none⟩) 1 1) {u:Value} {fr:Nat×Nat} (hb:w.heap[b]?=some (.cells #[u] 24 fr)) (h1:u.oneCell'=true) (hlen:xs.length < 100000)
  (hK:∀ g cap w' g',GrowS base w' (.slice (some ⟨g,0,none⟩) (xs.length+1) cap) (xs ++ [u])→base≤g'→Chg g' (g'+1) w w'→(v.ownBlock=some g'∨g'=w.heap.size)→(v.ownBlock=some g∨g=w.heap.size)→K (a.put o.dst (.slice (some ⟨g,0,none⟩) (xs.length+1) cap)) w') :
  if Region.wanted o (yielded ops a.tmps)=true then Oper.wp Tryz.prog o a w K Q else E:=by
 have hw:Region.wanted o (yielded ops a.tmps)=true:=by simp [Region.wanted,hgd]
 rw [if_pos hw];obtain⟨g,cap,w',g',hrun,h2,h3,h4,h5,h6⟩:=run_append_row_at t o.type ht h hb h1 hlen;unfold Oper.wp execOp;simp only [ho,resolve,invoke,builtin,Sem.run_bind,Sem.run_pure,Result.andThen_ok,List.map_toArray,List.map_cons,List.map_nil,hs,hx,hrun];exact hK g cap w' g' h2 h3 h4 h5 h6
end Go.Proofs.YtccepmpebioeiaaGreat
namespace Go.Proofs.YtccepmpebioeiaaGreat
section
variable {P:Program} {ops:Array Oper} {Q:Exit→Act→World→Prop} {S:World→Prop} {late:List Nat}
theorem stepL_three {i j k:Nat} {o o' o'':Oper} {fuel:Nat} {listed:Array Bool} {a:Act} {w:World} (hi:ops.toList[i]?=some o) (hj:ops.toList[j]?=some o') (hk:ops.toList[k]?=some o'') (hr:Region.ready .any ops listed=[i,j,k])
  (h:∀ K':Act→World→Prop,Shut (∀ a w,S w→(S w→stepL P ops Q S late fuel (listed.setIfInBounds i true) a w)→K' a w)→if Region.wanted o (yielded ops a.tmps)=true then Oper.wp P o a w K' Q else K' (a.put o.dst undef) w)
  (h':∀ K':Act→World→Prop,Shut (∀ a w,S w→(S w→stepL P ops Q S late fuel (listed.setIfInBounds j true) a w)→K' a w)→if Region.wanted o' (yielded ops a.tmps)=true then Oper.wp P o' a w K' Q else K' (a.put o'.dst undef) w)
  (h'':∀ K':Act→World→Prop,Shut (∀ a w,S w→(S w→stepL P ops Q S late fuel (listed.setIfInBounds k true) a w)→K' a w)→if Region.wanted o'' (yielded ops a.tmps)=true then Oper.wp P o'' a w K' Q else K' (a.put o''.dst undef) w) :
  stepL P ops Q S late (fuel+1) listed a w:=fun hcl=>by
 refine⟨fun h0=>(by rw [hr] at h0; cases h0),fun l hl=>?_⟩;have hl':l=i∨l=j∨l=k:=by rw [hr] at hl; simpa using hl
 rcases hl' with rfl | rfl | rfl
 ·have hi':ops[l]?=some o:=by rw [←Array.getElem?_toList]; exact hi
  exact wpOp_step hi' (fun K' hK=>h K' (fun a w hS hW=>hK a w ⟨fun _ _=>hS,hW hS (hcl.set hl)⟩))
 ·have hj':ops[l]?=some o':=by rw [←Array.getElem?_toList]; exact hj
  exact wpOp_step hj' (fun K' hK=>h' K' (fun a w hS hW=>hK a w ⟨fun _ _=>hS,hW hS (hcl.set hl)⟩))
 ·have hk':ops[l]?=some o'':=by rw [←Array.getElem?_toList]; exact hk
  exact wpOp_step hk' (fun K' hK=>h'' K' (fun a w hS hW=>hK a w ⟨fun _ _=>hS,hW hS (hcl.set hl)⟩))
end
end Go.Proofs.YtccepmpebioeiaaGreat
