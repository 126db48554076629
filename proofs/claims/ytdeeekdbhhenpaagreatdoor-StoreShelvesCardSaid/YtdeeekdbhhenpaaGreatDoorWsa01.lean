import Derived.Test.YtdeeekdbhhenpaaGreatDoorWc16
import Derived.Deep.Slices
import Derived.Deep.Strs
import Derived.ProofKit
import Derived.OpenShut
import Derived.Below
import Derived.LaidMore
import Derived.Lib.LaidTab
import Derived.Stop.LaidErr
import Derived.Stop.Joined
import Derived.SizedLaws
import Derived.Test.YtdeeekdbhhenpaaGreatDoorCards
import Derived.Test.YtdeeekdbhhenpaaGreatDoorTie
import Derived.ShutString
import Derived.ChangeOld
set_option linter.all false
set_option maxHeartbeats 8000000
set_option maxRecDepth 100000
namespace Go.Proofs.YtdeeekdbhhenpaaGreatDoor
variable {w w':World} {n k g i:Nat} {v:Value}
section
open Go.RowKit
theorem q4g (s:ByteArray):sV (zU s)=.string s:=rfl
structure Raw where
 b1:Bool
 l1:List Nat
 b2:Bool
 l2:List Nat
end
section
open Go.RowKit Go.ChangeShapes Go.ChangeAt
section
variable {H:Type}{enc:TypeId×Value->H}{w:World}{spare:Nat->Bool}{held:Bool}
instance:Inhabited Raw:=⟨⟨false,[],false,[]⟩⟩
theorem q3u(a:Addr) (h:w.cell? (a.add 0)=some v):a=⟨a.block,a.off,none⟩:=by
 obtain⟨b,off,spot⟩:=a;have hs:=World.cell?_spot h;have h2:spot=none:=by simpa[Addr.add] using hs
 subst h2;rfl
end
theorem own:ownKnob Tryz.prog.godebug=none:=by kernel_rfl
theorem laidOut:laidOutB Tryz.prog=true:=by kernel_rfl
end
end Go.Proofs.YtdeeekdbhhenpaaGreatDoor
set_option maxRecDepth 100000
namespace Go.Proofs.YtdeeekdbhhenpaaGreatDoor
open Go.ChangeShapes Go.WideShapes Go.ChangeAt Go.RowKit Go.Joins
variable {w w':World} {n k g i:Nat} {v:Value}
def q3O:List (String×DataW Unit):=[("math/bits.deBruijn32tab",Rows.laid_math_bits_deBruijn32tab),("math/bits.deBruijn64tab",Rows.laid_math_bits_deBruijn64tab),("internal/strconv.uint64pow10",Rows.laid_internal_strconv_uint64pow10),("strconv.ErrRange",Rows.laid_strconv_ErrRange),("strconv.ErrSyntax",Rows.laid_strconv_ErrSyntax),("bytes.ErrTooLarge",Rows.laid_bytes_ErrTooLarge),("fiducial/store.mark",Rows.laid_fiducial_store_mark)]
theorem door_met (os:Os) (args:Array Value):laidMetH Tryz.prog q3O ((World.doorLaid Tryz.prog 86 os).forCall (fun _ _=>0) ⟨#[],args,[]⟩).memory :=
 laidMetH_of_parts3 (fuel:=8) (laidMet_of_run' 8 (by kernel_rfl) (by kernel_rfl)) (by kernel_rfl) (by kernel_rfl)
theorem q41:(Rows.laid_internal_strconv_uint64pow10:DataW Unit)=Go.Lib.tabData .u64 Go.Lib.pow10Tab:=by kernel_rfl
theorem q44:Tryz.prog.cellsOf 198=1:=by kernel_rfl
theorem q3X:Tryz.prog.cellsOf 5=1:=by kernel_rfl
theorem q47:Tryz.prog.cellsOf 298=20:=by kernel_rfl
theorem q4e:Tryz.prog.underlying 298=some (.array 20 198):=by kernel_rfl
theorem g_pow:Tryz.prog.globalNamed "internal/strconv.uint64pow10" = some 3:=by kernel_rfl
theorem t_pow:(Tryz.prog.globals[3]?).map (·.type)=some 298:=by kernel_rfl
theorem q4n:Tryz.prog.globalNamed "fiducial/store.mark" = some 0:=by kernel_rfl
theorem q4m:(Tryz.prog.globals[0]?).map (·.type)=some 27:=by kernel_rfl
theorem q3L {W:World}(h:laidMet Tryz.prog q3O W):kG W:=by
 have h2:=h.tail.tail;rw[q41] at h2;exact Go.Lib.tabIs_of_head g_pow t_pow q4e Tryz.underlying198 q44 q47 h2
theorem q3J {W:World}(h:laidMet Tryz.prog q3O W):xH W:=by
 obtain⟨ps,⟨g',t',cs,fuel,p,q,hg',ht',hvar,hd,-,-⟩,-⟩:=h.tail.tail.tail.tail.tail.tail;obtain rfl:=Option.some.inj (q4n.symm.trans hg');obtain rfl:=Option.some.inj (q4m.symm.trans ht');have hc:=World.var?_cell hg' hvar 0
 rcases Go.Deep.open_slice1 Tryz.underlying27 q3X hd with ⟨-,hx⟩|⟨a,len,cap,m,n',V,D,Pl,hcs,-,hl,hm,hmm,hxe,hx⟩
 ·cases (congrArg Prod.fst hx)
 ·have hcs0:cs[0]?=some (.slice (some a) len cap):=by
   rw[<-Array.getElem?_toList,hcs]
   rfl
  rw[hcs0] at hc;have hlm:len<=m:=by rw[hmm];split<;>omega
  have hD:=congrArg Prod.fst hxe
  have hD1:([.lit (.int .u8 70),.lit (.int .u8 83),.lit (.int .u8 66),.lit (.int .u8 49)]:List (DataW _))=(List.range len).map D:=by
   injection hD
  have hlen:len=4:=by
   have:=congrArg List.length hD1;simpa using this.symm
  subst hlen
  have hDi:∀i,i<4->D i=([.lit (.int .u8 70),.lit (.int .u8 83),.lit (.int .u8 66),.lit (.int .u8 49)]:List (DataW _)).getD i .nil:=fun i hi=>by
   rw[hD1,List.getD_eq_getElem?_getD,List.getElem?_map,List.getElem?_range hi]
   rfl
  have ha:=q3u a (hx 0 (by omega)).1;refine⟨some a,cap,hc,some a,cap,rfl,hl,hm,fun _=>⟨a.block,a.off,by rw[<-ha],fun i hi=>?_⟩⟩;have hi4:i<4:=hi;obtain⟨k1,k2⟩:=hx i (by omega);obtain⟨z,hz,h3,-⟩:=DataW.trod_int Tryz.underlying5 k2;simp only[List.cons.injEq,and_true] at hz;have h4:=congrArg Prod.fst h3;rw[hDi i hi4] at h4;rw[ha,qW,hz] at k1
  have hz2:z=chZ [70,83,66,49] i:=by
   have:i=0\/i=1\/i=2\/i=3:=by omega
   rcases this with rfl|rfl|rfl|rfl
   ·injection h4 with h4;injection h4 with _ h4;exact h4.symm
   ·injection h4 with h4;injection h4 with _ h4;exact h4.symm
   ·injection h4 with h4;injection h4 with _ h4;exact h4.symm
   ·injection h4 with h4;injection h4 with _ h4;exact h4.symm
  rw[<-hz2];exact k1
theorem q3P {W:World}(h:laidMetH Tryz.prog q3O W):kS W.heap.size W:=by
 rw[MakeChecks.laidMetH_plain _ _ _ (by kernel_rfl)] at h;exact⟨W,q3L h,q3J h,q_r,Ext.refl W⟩
end Go.Proofs.YtdeeekdbhhenpaaGreatDoor
namespace Go.Proofs.YtdeeekdbhhenpaaGreatDoor
open Go.RowKit
variable {w w':World} {n k g i:Nat} {v:Value}
theorem q14.ok0 {o:Ob}(h:q14 o=true):Ok0 o:=by
 unfold q14 at h;simp only[Bool.and_eq_true,decide_eq_true_eq,List.all_eq_true] at h;exact⟨by omega,by omega,fun s hs=>by have:=h.2.2 s hs;omega⟩
theorem fewT.ok {t:Tg}(h:fewT t=true):okT t:=by
 unfold fewT at h;have:=of_decide_eq_true h;exact⟨by omega,by omega⟩
theorem fewS.ok {s:Shf}(h:fewS s=true):OkS s:=by
 unfold fewS at h;simp only[Bool.and_eq_true,decide_eq_true_eq,List.all_eq_true] at h;refine⟨fun i hi=>?_,fun i hi=>?_,by omega,by omega⟩
 ·rw[List.getD_eq_getElem?_getD,List.getElem?_eq_getElem hi];exact q14.ok0 (h.2.2.1 _ (List.getElem_mem hi))
 ·rw[List.getD_eq_getElem?_getD,List.getElem?_eq_getElem hi];exact fewT.ok (h.2.2.2 _ (List.getElem_mem hi))
end Go.Proofs.YtdeeekdbhhenpaaGreatDoor
set_option maxRecDepth 100000
namespace Go.Proofs.YtdeeekdbhhenpaaGreatDoor
open Go.ChangeShapes Go.WideShapes Go.ChangeAt Go.RowKit Go.Joins
variable {w w':World} {n k g i:Nat} {v:Value}
theorem q3r {H:Type}{P:Program}{e:TypeId}{k:Nat}{d:DataW H}:∀ {ds:List (DataW H)},d∈ds->k∈d.weights P e->k∈DataW.weightsAll P e ds
 | [],h,_=>by cases h
 | d0 :: r,h,hk=>by
  unfold DataW.weightsAll;rw[List.mem_append]
  rcases List.mem_cons.1 h with rfl|h
  ·exact .inl hk
  ·exact .inr (q3r h hk)
theorem q3K:Tryz.prog.cellsOf 9=1:=by kernel_rfl
theorem q3T:Tryz.prog.cellsOf 26=1:=by kernel_rfl
theorem q49:Tryz.prog.cellsOf 5=1:=by kernel_rfl
theorem q3W:Tryz.prog.cellsOf 27=1:=by kernel_rfl
theorem q48:Tryz.prog.cellsOf 29=2:=by kernel_rfl
theorem q3U:Tryz.prog.cellsOf 22=1:=by kernel_rfl
theorem q45:Tryz.prog.cellsOf 86=2:=by kernel_rfl
theorem q3S:Tryz.prog.cellsOf 23=1:=by kernel_rfl
theorem q46:Tryz.prog.cellsOf 25=6:=by kernel_rfl
theorem q3V:Tryz.prog.cellsOf 3=1:=by kernel_rfl
section
variable {H:Type}{enc:TypeId×Value->H}{w:World}{spare:Nat->Bool}{held:Bool}
theorem q3t{x:DataW H×List MemPlace}(h:DataW.trod enc Tryz.prog w 0 spare held n 9 [v]=some x) (hz:∀k∈x.1.weights Tryz.prog 9,k<=reachBytes):∃l:Byt,v=sV l/\LnS l:=by
 obtain⟨s,h1,rfl,-⟩:=DataW.trod_string Tryz.underlying9 h;simp only[List.cons.injEq,and_true] at h1;refine⟨zU s,by rw[q4g];exact h1,?_⟩;have h9:=hz s.data.toList.length (by simp[DataW.weights]);unfold LnS zU;unfold reachBytes at h9;omega
theorem q3Y{x:DataW H×List MemPlace}(h:DataW.trod enc Tryz.prog w 0 spare held n 27 [v]=some x):∃l,ByV w v l:=by
 rcases Go.Deep.open_slice1 Tryz.underlying27 q49 h with ⟨hcs,-⟩|⟨a,len,cap,m,n',V,D,Pl,hcs,-,hl,hm,hmm,-,hx⟩
 ·simp only[List.cons.injEq,and_true] at hcs;rw[hcs];exact⟨[],none,0,rfl,q_r,Nat.zero_le _,fun h0=>absurd h0 (Nat.lt_irrefl 0)⟩
 ·simp only[List.cons.injEq,and_true] at hcs;rw[hcs];have hlm:len<=m:=by rw[hmm];split<;>omega
  have hv:∀i,i<len->∃z:Int,V i=.int .u8 z/\0<=z/\z<=255:=fun i hi=>by
   obtain⟨-,h2⟩:=hx i (by omega);obtain⟨z,hz,h3,h4⟩:=DataW.trod_int Tryz.underlying5 h2;simp only[List.cons.injEq,and_true] at hz;simp only[Lit.wf,Bool.and_eq_true,decide_eq_true_eq] at h4;exact⟨z,hz,h4⟩
  obtain⟨f,hf⟩:=Go.Deep.choose_lt (α:=Int) hv;refine⟨(List.range len).map fun i=>UInt8.ofNat (f i).toNat,_,cap,by rw[List.length_map,List.length_range],by rw[List.length_map,List.length_range];exact hl,hm,fun h0=>?_⟩;rw[List.length_map,List.length_range] at h0;have h1:=(hx 0 (by omega)).1;have ha:=q3u a h1;refine⟨a.block,a.off,by rw[<-ha],fun i hi=>?_⟩;rw[List.length_map,List.length_range] at hi;have h2:=(hx i (by omega)).1;rw[ha,qW,(hf i hi).1] at h2
  have e1:chZ ((List.range len).map fun i=>UInt8.ofNat (f i).toNat) i=f i:=by
   unfold chZ;rw[List.getD_eq_getElem?_getD,List.getElem?_map,List.getElem?_range hi];exact kT (hf i hi).2.1 (by have:=(hf i hi).2.2;omega)
  rw[e1];exact h2
theorem q3A{x:DataW H×List MemPlace}(h:DataW.trod enc Tryz.prog w 0 spare held n 26 [v]=some x) (hz:∀k∈x.1.weights Tryz.prog 26,k<=reachBytes):∃l,qZ w v l/\∀s∈l,LnS s:=by
 rcases Go.Deep.open_slice1 Tryz.underlying26 q3K h with ⟨hcs,-⟩|⟨a,len,cap,m,n',V,D,Pl,hcs,-,hl,hm,hmm,hxe,hx⟩
 ·simp only[List.cons.injEq,and_true] at hcs;rw[hcs];exact⟨[],⟨none,0,rfl,q_r,Nat.zero_le _,fun h0=>absurd h0 (Nat.lt_irrefl 0)⟩,fun s hs=>by cases hs⟩
 ·simp only[List.cons.injEq,and_true] at hcs;rw[hcs];have hlm:len<=m:=by rw[hmm];split<;>omega
  have hv:∀i,i<len->∃l:Byt,V i=sV l/\LnS l:=fun i hi=>by
   obtain⟨-,h2⟩:=hx i (by omega)
   exact q3t h2 (fun k hk=>hz k (by
    rw[hxe];simp only[DataW.weights,Tryz.underlying26,List.mem_cons,List.mem_append]
    exact .inr (.inl (q3r (List.mem_map.2 ⟨i,List.mem_range.2 hi,rfl⟩) hk))))
  obtain⟨f,hf⟩:=Go.Deep.choose_lt (α:=Byt) hv;have hle:((List.range len).map f).length=len:=by rw[List.length_map,List.length_range]
  refine⟨(List.range len).map f,⟨_,cap,by rw[hle],by rw[hle];exact hl,hm,fun h0=>?_⟩,fun s hs=>?_⟩
  ·rw[hle] at h0;have h1:=(hx 0 (by omega)).1;have ha:=q3u a h1;refine⟨a.block,a.off,by rw[<-ha],fun i hi=>?_⟩;rw[hle] at hi;have h2:=(hx i (by omega)).1;rw[ha,qW] at h2;refine⟨_,h2,?_⟩
   show V i=sV (((List.range len).map f).getD i [])
   rw[List.getD_eq_getElem?_getD,List.getElem?_map,List.getElem?_range hi];exact (hf i hi).1
  ·obtain⟨i,hi,rfl⟩:=List.mem_map.1 hs;exact (hf i (List.mem_range.1 hi)).2
theorem q3I{c0 c1:Value}{x:DataW H×List MemPlace}(h:DataW.trod enc Tryz.prog w 0 spare held n 29 [c0,c1]=some x) (hz:∀k∈x.1.weights Tryz.prog 29,k<=reachBytes):∃o:Ob,ObR w c0 c1 o/\∀s∈o.links,LnS s:=by
 obtain⟨y0,y1,n1,rfl,-,h0,h1⟩:=trod_struct2 Tryz.underlying29 h;simp only[q3T,q3W,List.drop_zero,List.take_succ_cons,List.take_zero,List.drop_succ_cons] at h0 h1;obtain⟨l,h2,h3⟩:=q3A h0 (fun k hk=>hz k (by simp[DataW.weights,DataW.weightsEach,Tryz.underlying29,hk]));obtain⟨d,h4⟩:=q3Y h1;exact⟨⟨l,d⟩,⟨h2,h4⟩,h3⟩
theorem q3G{c0 c1:Value}{x:DataW H×List MemPlace}(h:DataW.trod enc Tryz.prog w 0 spare held n 86 [c0,c1]=some x) (hz:∀k∈x.1.weights Tryz.prog 86,k<=reachBytes):∃t:Tg,c0=sV t.name/\c1=sV t.target/\LnS t.name/\LnS t.target:=by
 obtain⟨y0,y1,n1,rfl,-,h0,h1⟩:=trod_struct2 Tryz.underlying86 h;simp only[q3K,List.drop_zero,List.take_succ_cons,List.take_zero,List.drop_succ_cons] at h0 h1;obtain⟨a,h2,h3⟩:=q3t h0 (fun k hk=>hz k (by simp[DataW.weights,DataW.weightsEach,Tryz.underlying86,hk]));obtain⟨b,h4,h5⟩:=q3t h1 (fun k hk=>hz k (by simp[DataW.weights,DataW.weightsEach,Tryz.underlying86,hk]));exact⟨⟨a,b⟩,h2,h4,h3,h5⟩
theorem q3E {B O:Nat}{cs:List Value}(h:w.cells? 0 ((⟨B,O,none⟩:Addr).add (i*2)) 2=some cs):∃c0 c1,cs=[c0,c1]/\w.cell? ⟨B,O+i*2,none⟩=some c0/\w.cell? ⟨B,O+i*2+1,none⟩=some c1:=by
 obtain⟨-,hlen,hc⟩:=World.cells?_some h
 match cs,hlen with
 | [c0,c1],_ =>
  have k0:=hc 0 (by omega);have k1:=hc 1 (by omega);rw[qW,qW] at k0 k1;exact⟨c0,c1,rfl,k0,k1⟩
theorem q3y {a:Addr}{cs:List Value}(h:w.cells? 0 (a.add (0*2)) 2=some cs):a=⟨a.block,a.off,none⟩:=by
 obtain⟨-,hlen,hc⟩:=World.cells?_some h;have k0:=hc 0 (by omega);have hz:(a.add (0*2)).add 0=a.add 0:=by rw[Go.Deep.add_add]
 rw[hz,List.getElem?_eq_getElem (by omega)] at k0;exact q3u a k0
theorem q3H{x:DataW H×List MemPlace}(h:DataW.trod enc Tryz.prog w 0 spare held n 22 [v]=some x) (hz:∀k∈x.1.weights Tryz.prog 22,k<=reachBytes):∃L,yJ w v L/\∀i,i<L.length->∀l∈(L.getD i default).links,LnS l:=by
 rcases Go.Deep.open_slice Tryz.underlying22 h with ⟨hcs,-⟩|⟨a,len,cap,m,n',D,Pl,hcs,-,hl,hm,hmm,hxe,hx⟩
 ·simp only[List.cons.injEq,and_true] at hcs;rw[hcs];exact⟨[],⟨none,0,rfl,q_r,Nat.zero_le _,fun h0=>absurd h0 (Nat.lt_irrefl 0)⟩,fun i hi=>absurd hi (Nat.not_lt_zero i)⟩
 ·simp only[List.cons.injEq,and_true] at hcs;rw[hcs];have hlm:len<=m:=by rw[hmm];split<;>omega
  rw[q48] at hx
  rcases Nat.eq_zero_or_pos len with h0|h0
  ·subst h0;exact⟨[],⟨_,_,rfl,hl,hm,fun h0=>absurd h0 (Nat.lt_irrefl 0)⟩,fun i hi=>absurd hi (Nat.not_lt_zero i)⟩
  obtain⟨cs0,hc0,-⟩:=hx 0 (by omega);have ha:=q3y hc0
  have hv:∀i,i<len->∃o:Ob,(∃x y,w.cell? ⟨a.block,a.off+i*2,none⟩=some x/\w.cell? ⟨a.block,a.off+i*2+1,none⟩=some y/\ObR w x y o)/\∀s∈o.links,LnS s:=fun i hi=>by
   obtain⟨cs,h1,h2⟩:=hx i (by omega);rw[ha] at h1;obtain⟨c0,c1,rfl,k0,k1⟩:=q3E h1
   obtain⟨o,h3,h4⟩:=q3I h2 (fun k hk=>hz k (by
    rw[hxe];simp only[DataW.weights,Tryz.underlying22,List.mem_cons,List.mem_append]
    exact .inr (.inl (q3r (List.mem_map.2 ⟨i,List.mem_range.2 hi,rfl⟩) hk))))
   exact⟨o,⟨c0,c1,k0,k1,h3⟩,h4⟩
  obtain⟨f,hf⟩:=Go.Deep.choose_lt (α:=Ob) hv;have hle:((List.range len).map f).length=len:=by rw[List.length_map,List.length_range]
  have hgd:∀i,i<len->((List.range len).map f).getD i default=f i:=fun i hi=>by
   rw[List.getD_eq_getElem?_getD,List.getElem?_map,List.getElem?_range hi]
   rfl
  refine⟨(List.range len).map f,⟨_,cap,by rw[hle],by rw[hle];exact hl,hm,fun _=>?_⟩,fun i hi=>?_⟩
  ·refine⟨a.block,a.off,by rw[<-ha],fun i hi=>?_⟩;rw[hle] at hi;obtain⟨x,y,k0,k1,k2⟩:=(hf i hi).1;refine⟨x,y,k0,k1,?_⟩
   show ObR w x y (((List.range len).map f).getD i default)
   rw[hgd i hi];exact k2
  ·rw[hle] at hi;rw[hgd i hi];exact (hf i hi).2
theorem q3F{x:DataW H×List MemPlace}(h:DataW.trod enc Tryz.prog w 0 spare held n 23 [v]=some x) (hz:∀k∈x.1.weights Tryz.prog 23,k<=reachBytes):∃L,jK w v L/\∀i,i<L.length->LnS (L.getD i default).name/\LnS (L.getD i default).target:=by
 rcases Go.Deep.open_slice Tryz.underlying23 h with ⟨hcs,-⟩|⟨a,len,cap,m,n',D,Pl,hcs,-,hl,hm,hmm,hxe,hx⟩
 ·simp only[List.cons.injEq,and_true] at hcs;rw[hcs];exact⟨[],⟨none,0,rfl,q_r,Nat.zero_le _,fun h0=>absurd h0 (Nat.lt_irrefl 0)⟩,fun i hi=>absurd hi (Nat.not_lt_zero i)⟩
 ·simp only[List.cons.injEq,and_true] at hcs;rw[hcs];have hlm:len<=m:=by rw[hmm];split<;>omega
  rw[q45] at hx
  rcases Nat.eq_zero_or_pos len with h0|h0
  ·subst h0;exact⟨[],⟨_,_,rfl,hl,hm,fun h0=>absurd h0 (Nat.lt_irrefl 0)⟩,fun i hi=>absurd hi (Nat.not_lt_zero i)⟩
  obtain⟨cs0,hc0,-⟩:=hx 0 (by omega);have ha:=q3y hc0
  have hv:∀i,i<len->∃o:Tg,(w.cell? ⟨a.block,a.off+i*2,none⟩=some (sV o.name)/\w.cell? ⟨a.block,a.off+i*2+1,none⟩=some (sV o.target))/\LnS o.name/\LnS o.target:=fun i hi=>by
   obtain⟨cs,h1,h2⟩:=hx i (by omega);rw[ha] at h1;obtain⟨c0,c1,rfl,k0,k1⟩:=q3E h1
   obtain⟨o,h3,h4,h5,h6⟩:=q3G h2 (fun k hk=>hz k (by
    rw[hxe];simp only[DataW.weights,Tryz.underlying23,List.mem_cons,List.mem_append]
    exact .inr (.inl (q3r (List.mem_map.2 ⟨i,List.mem_range.2 hi,rfl⟩) hk))))
   exact⟨o,⟨by rw[<-h3];exact k0,by rw[<-h4];exact k1⟩,h5,h6⟩
  obtain⟨f,hf⟩:=Go.Deep.choose_lt (α:=Tg) hv;have hle:((List.range len).map f).length=len:=by rw[List.length_map,List.length_range]
  have hgd:∀i,i<len->((List.range len).map f).getD i default=f i:=fun i hi=>by
   rw[List.getD_eq_getElem?_getD,List.getElem?_map,List.getElem?_range hi]
   rfl
  refine⟨(List.range len).map f,⟨_,cap,by rw[hle],by rw[hle];exact hl,hm,fun _=>?_⟩,fun i hi=>?_⟩
  ·refine⟨a.block,a.off,by rw[<-ha],fun i hi=>?_⟩;rw[hle] at hi;obtain⟨k0,k1⟩:=(hf i hi).1;refine⟨_,_,k0,k1,?_⟩
   show sV (f i).name=sV (((List.range len).map f).getD i default).name/\sV (f i).target=sV (((List.range len).map f).getD i default).target
   rw[hgd i hi];exact⟨rfl,rfl⟩
  ·rw[hle] at hi;rw[hgd i hi];exact (hf i hi).2
theorem q4k {α:Type}{cs:Array α}(h:cs.size=6):∃c0 c1 c2 c3 c4 c5,cs=#[c0,c1,c2,c3,c4,c5]:=by
 obtain⟨l⟩:=cs
 match l,h with
 | [c0,c1,c2,c3,c4,c5],_=>exact⟨c0,c1,c2,c3,c4,c5,rfl⟩
theorem q4d {r:Reach}{b0:Nat}{d:DataW H}{p:List MemPlace}(hv:Value.okWide Tryz.prog w r b0 25 v) (h:DataW.Trod enc Tryz.prog w 0 spare held 25 v d p) (hz:∀k∈d.weights Tryz.prog 25,k<=reachBytes) :
  ∃(s:Shf) (A1:Option Addr) (n1 c1:Nat) (A2:Option Addr) (n2 c2:Nat),v=.agg #[.int .i64 s.size,.int .i64 s.seq,.int .i64 s.half,.int .i64 s.used,.slice A1 n1 c1,.slice A2 n2 c2]/\yJ w (.slice A1 n1 c1) s.objs/\jK w (.slice A2 n2 c2) s.tags/\LnSh s:=by
 obtain⟨cs,rfl,hsz⟩:=okWide_struct Tryz.underlying25 hv;obtain⟨c0,c1,c2,c3,c4,c5,rfl⟩:=q4k (hsz.trans q46);obtain⟨fuel,hf⟩:=h;obtain⟨xs,n,-,hxe,-,hlen,hq⟩:=DataW.trod_struct Tryz.underlying25 hf
 match xs,hlen with
 | [y0,y1,y2,y3,y4,y5],_ =>
  have h0:DataW.trod enc Tryz.prog w 0 spare held n 3 (List.take (Tryz.prog.cellsOf 3) (List.drop 0 [c0,c1,c2,c3,c4,c5]))=some y0:=hq 0 _ rfl;have h1:DataW.trod enc Tryz.prog w 0 spare held n 3 (List.take (Tryz.prog.cellsOf 3) (List.drop 1 [c0,c1,c2,c3,c4,c5]))=some y1:=hq 1 _ rfl;have h2:DataW.trod enc Tryz.prog w 0 spare held n 3 (List.take (Tryz.prog.cellsOf 3) (List.drop 2 [c0,c1,c2,c3,c4,c5]))=some y2:=hq 2 _ rfl;have h3:DataW.trod enc Tryz.prog w 0 spare held n 3 (List.take (Tryz.prog.cellsOf 3) (List.drop 3 [c0,c1,c2,c3,c4,c5]))=some y3:=hq 3 _ rfl;have h4:DataW.trod enc Tryz.prog w 0 spare held n 22 (List.take (Tryz.prog.cellsOf 22) (List.drop 4 [c0,c1,c2,c3,c4,c5]))=some y4:=hq 4 _ rfl;have h5:DataW.trod enc Tryz.prog w 0 spare held n 23 (List.take (Tryz.prog.cellsOf 23) (List.drop 5 [c0,c1,c2,c3,c4,c5]))=some y5:=hq 5 _ rfl;simp only[q3V,q3U,q3S,List.drop_zero,List.take_succ_cons,List.take_zero,List.drop_succ_cons] at h0 h1 h2 h3 h4 h5;simp only[Prod.mk.injEq] at hxe;obtain⟨rfl,rfl⟩:=hxe;obtain⟨z0,e0,-⟩:=DataW.trod_int Tryz.underlying3 h0;obtain⟨z1,e1,-⟩:=DataW.trod_int Tryz.underlying3 h1;obtain⟨z2,e2,-⟩:=DataW.trod_int Tryz.underlying3 h2;obtain⟨z3,e3,-⟩:=DataW.trod_int Tryz.underlying3 h3;obtain⟨L,h6,h7⟩:=q3H h4 (fun k hk=>hz k (by simp[DataW.weights,DataW.weightsEach,Tryz.underlying25,hk]));obtain⟨T,h8,h9⟩:=q3F h5 (fun k hk=>hz k (by simp[DataW.weights,DataW.weightsEach,Tryz.underlying25,hk]))
  obtain⟨A1,k1,rfl,-⟩:=h6.form;obtain⟨A2,k2,rfl,-⟩:=h8.form;simp only[List.cons.injEq,and_true] at e0 e1 e2 e3;subst e0 e1 e2 e3;exact⟨⟨z0,z1,z2,z3,L,T⟩,A1,_,k1,A2,_,k2,rfl,h6,h8,h7,h9⟩
end
end Go.Proofs.YtdeeekdbhhenpaaGreatDoor
namespace Go.Proofs.YtdeeekdbhhenpaaGreatDoor
variable {w w':World} {n k g i:Nat} {v:Value}
section
open Go.RowKit
theorem q42 {L:List Ob}(h:wV [] L=true):q1e L:=by
 have hA:=fun j hj=>Z5 h j hj
 constructor
 ·rw[List.nodup_iff_pairwise_ne,List.pairwise_iff_getElem];intro i j hi hj hij e;rw[List.length_map] at hi hj;have h1:=hA j hj;unfold jy at h1;rw[Bool.and_eq_true,Bool.and_eq_true] at h1;have h2:=h1.2.1;rw[List.nil_append] at h2;simp only[Bool.not_eq_true',List.contains_eq_mem,decide_eq_false_iff_not] at h2;refine h2 (List.mem_map.2 ⟨L[i],List.mem_take_iff_getElem.2 ⟨i,by omega,rfl⟩,?_⟩);rw[List.getElem_map,List.getElem_map] at e;rw[e,List.getD_eq_getElem?_getD,List.getElem?_eq_getElem hj]
  rfl
 ·intro j hj l hl;have h1:=hA j hj;unfold jy at h1;rw[Bool.and_eq_true,Bool.and_eq_true] at h1;have h2:=List.all_eq_true.1 h1.2.2 l hl;rw[List.nil_append] at h2;simp only[List.contains_eq_mem,decide_eq_true_eq] at h2;obtain⟨o,ho,rfl⟩:=List.mem_map.1 h2;obtain⟨i,hi,rfl⟩:=List.mem_take_iff_getElem.1 ho;refine⟨i,by omega,?_⟩;rw[List.getD_eq_getElem?_getD,List.getElem?_eq_getElem (by omega)]
  rfl
theorem q3v {s:Shf}(h:qE s=true):q1e s.objs:=by
 unfold qE at h;rw[Bool.and_eq_true,Bool.and_eq_true] at h;exact q42 h.2.1
theorem q3x {L:List Ob}(h:q1e L){F0:List Byt}:∀(i:Nat) (F out:List Byt),i<=L.length->(∀y,y∈F↔y∈F0\/∃j,i<=j/\j<L.length/\Rch L F0 (qM (L.getD j default))/\y∈(L.getD j default).links)->(∀y,y∈out↔∃j,i<=j/\j<L.length/\qM (L.getD j default)=y/\Rch L F0 y)->out.Nodup ->
  (JY L i F out).Nodup/\∀y,y∈JY L i F out↔∃j,j<L.length/\qM (L.getD j default)=y/\Rch L F0 y
 | 0,F,out,_,_,ho,hn=>⟨hn,fun y=>by
  show y∈out↔_
  rw[ho]
  exact⟨fun ⟨j,_,h⟩=>⟨j,h⟩,fun ⟨j,h⟩=>⟨j,Nat.zero_le _,h⟩⟩⟩
 | i+1,F,out,hi,hF,ho,hn=>by
  have hin:qM (L.getD i default)∈F↔Rch L F0 (qM (L.getD i default)):=by
   rw[hF]
   constructor
   ·rintro (h1|⟨j,h1,h2,h3,h4⟩)
    ·exact .base h1
    ·exact .step h3 (by rw[h.lnk h2];exact h4)
   ·intro h1;cases h1 with
    | base h2=>exact .inl h2
    | step h2 h3 =>
     obtain⟨j,hj,rfl,h4⟩:=Y0 h3;obtain⟨q,hq,e⟩:=h.lk j hj _ h4;have:q=i:=h.inj (by omega) (by omega) e;exact .inr ⟨j,by omega,hj,h2,h4⟩
  show (if qM (L.getD i default)∈F then JY L i (F++(L.getD i default).links) (out ++ [qM (L.getD i default)]) else JY L i F out).Nodup/\∀y,y∈(if qM (L.getD i default)∈F then JY L i (F++(L.getD i default).links) (out ++ [qM (L.getD i default)]) else JY L i F out)↔_
  by_cases hm:qM (L.getD i default)∈F
  ·rw[if_pos hm];have hr:=hin.1 hm;refine q3x h i _ _ (by omega) (fun y=>?_) (fun y=>?_) ?_
   ·rw[List.mem_append,hF]
    constructor
    ·rintro ((h1|⟨j,h1,h2⟩)|h1)
     ·exact .inl h1
     ·exact .inr ⟨j,by omega,h2⟩
     ·exact .inr ⟨i,Nat.le_refl i,by omega,hr,h1⟩
    ·rintro (h1|⟨j,h1,h2,h3,h4⟩)
     ·exact .inl (.inl h1)
     ·by_cases hji:j=i
      ·subst hji;exact .inr h4
      ·exact .inl (.inr ⟨j,by omega,h2,h3,h4⟩)
   ·rw[List.mem_append,ho,List.mem_singleton]
    constructor
    ·rintro (⟨j,h1,h2⟩|rfl)
     ·exact⟨j,by omega,h2⟩
     ·exact⟨i,Nat.le_refl i,by omega,rfl,hr⟩
    ·rintro⟨j,h1,h2,h3,h4⟩
     by_cases hji:j=i
     ·subst hji;exact .inr h3.symm
     ·exact .inl ⟨j,by omega,h2,h3,h4⟩
   ·refine List.nodup_append.2 ⟨hn,by simp,fun a ha b hb e=>?_⟩;rw[List.mem_singleton] at hb;obtain⟨j,h1,h2,h3,-⟩:=(ho a).1 ha;have:=h.inj h2 (by omega) (h3.trans (e.trans hb));omega
  ·rw[if_neg hm];refine q3x h i _ _ (by omega) (fun y=>?_) (fun y=>?_) hn
   ·rw[hF];refine or_congr Iff.rfl ⟨fun ⟨j,h1,h2⟩=>⟨j,by omega,h2⟩,fun ⟨j,h1,h2,h3,h4⟩=>?_⟩
    by_cases hji:j=i
    ·subst hji;exact absurd (hin.2 h3) hm
    ·exact⟨j,by omega,h2,h3,h4⟩
   ·rw[ho];refine⟨fun ⟨j,h1,h2⟩=>⟨j,by omega,h2⟩,fun ⟨j,h1,h2,h3,h4⟩=>?_⟩
    by_cases hji:j=i
    ·subst hji;rw[<-h3] at h4;exact absurd (hin.2 h4) hm
    ·exact⟨j,by omega,h2,h3,h4⟩
theorem q4h {L:List Ob}(h:q1e L){F S:List Byt}(hF:∀y∈F,∃j,j<L.length/\qM (L.getD j default)=y) (hn:S.Nodup) (h1:∀y∈F,y∈S) (h2:∀y∈S,Rch L F y) (h3:∀y∈S,∀l∈vw L y,l∈S):Qk S=rchS L F:=by
 obtain⟨g1,g2⟩:=q3x h (F0:=F) L.length F [] (q_r) (fun y=>⟨.inl,fun h=>h.elim id (fun ⟨j,h1,h2,_⟩=>absurd h2 (by omega))⟩) (fun y=>⟨fun h=>(by cases h),fun ⟨j,h1,h2,_⟩=>absurd h2 (by omega)⟩) List.nodup_nil
 have hst:∀y,Rch L F y->∃j,j<L.length/\qM (L.getD j default)=y:=fun y hy=>by
  cases hy with
  | base h=>exact hF y h
  | step ha hb =>
   obtain⟨j,hj,-,hl⟩:=Y0 hb;obtain⟨i,hi,e⟩:=h.lk j hj _ hl;exact⟨i,by omega,e⟩
 refine mergeSort_of_perm ((List.perm_ext_iff_of_nodup hn g1).2 fun y=>?_);rw[g2]
 constructor
 ·intro hy;obtain⟨j,hj,e⟩:=hst y (h2 y hy);exact⟨j,hj,e,h2 y hy⟩
 ·rintro⟨-,-,-,hy⟩
  induction hy with
  | base h=>exact h1 _ h
  | step ha hb ih=>exact h3 _ ih _ hb
theorem q40 {s:Shf}{a b c d:Int}{A1 A2:Option Addr}{n1 c1 n2 c2:Nat}(hi:q3p s (.agg #[.int .i64 a,.int .i64 b,.int .i64 c,.int .i64 d,.slice A1 n1 c1,.slice A2 n2 c2]) w) :
  Calls Tryz.prog 41 #[.agg #[.int .i64 a,.int .i64 b,.int .i64 c,.int .i64 d,.slice A1 n1 c1,.slice A2 n2 c2]] w (qH w (.int .i64 (if qE s then 0 else 1))):=by
 obtain⟨z,hz⟩:=qf (if qE s then (0:Int) else 1);rw[<-hz.out];have HI:=q_h hi;clear hi;go_enter Tryz.func41,Tryz.ntmps41;go_upto_region 1 with (fail);refine qo ?_;intro w1 hE hsz B0;obtain⟨p0,p1,p2,p3,p4,p5⟩:=qw B0;have HX1:=q_h hE;go_wp2_with (go_at_call 58;refine q_o ?_);refine (HI.out w1 HX1.out).mono ?_;rintro e w2 (⟨hvb,a,b,c,d,Ax,nx,cx,Bx,mx,dx,gx,rfl,e2⟩|⟨hvb,Av,cv,At,ct,gm,rfl,-,-,-,-,e2⟩)
 ·have HX2:=q_h (hE.trans e2);have HZ:Hid (z=1):=by rw[Hid,hz.out,hvb];rfl
  clear p0 p1 p2 p3 p4 p5 B0 hE e2;go_upto_region 2 with (fail);refine qo ?_;intro w3 e3 hsz3 B8;clear B8;have HX9:=q_h (HX2.out.trans e3);clear e3;go_wp2
  first|go_ret|skip
  rw[HZ.out];exact⟨rfl,HX9.out⟩
 ·have HX2:=q_h (hE.trans e2);have HZ:Hid (z=0):=by rw[Hid,hz.out,hvb];rfl
  clear p0 p1 p2 p3 p4 p5 B0 hE e2;go_upto_region 2 with (fail);refine qo ?_;intro w3 e3 hsz3 B8;clear B8;have HX9:=q_h (HX2.out.trans e3);clear e3;go_wp2
  first|go_ret|skip
  rw[HZ.out];exact⟨rfl,HX9.out⟩
def q3C (s:Shf) (k:Byt):Ob×Int:=if qE s=false then (⟨[],[]⟩,1) else match (xY s).idxOf? k with|some i=>(s.objs.getD i default,0)|none=>(⟨[],[]⟩,6)
def q4b (r:Ob×Int) (w:World) (e:Ending) (w':World):Prop:=∃x y,e=.returned (.tuple #[.agg #[x,y],.int .i64 r.2])/\ObR w' x y r.1/\Ext w w'
theorem q4j (w:World):ByV w (.slice none 0 0) []:=⟨none,0,rfl,q_r,Nat.zero_le _,fun h=>absurd h (Nat.lt_irrefl 0)⟩
theorem q3M (w:World):ObR w (.slice none 0 0) (.slice none 0 0) ⟨[],[]⟩:=⟨q2v w,q4j w⟩
theorem q3B:(Tryz.prog.info? 29).map (·.size)=some 2:=by kernel_rfl
theorem q4f {s:Shf}{k:Byt}{A1 A2:Option Addr}{n1 c1 n2 c2:Nat}(hi:q3p s (.agg #[.int .i64 s.size,.int .i64 s.seq,.int .i64 s.half,.int .i64 s.used,.slice A1 n1 c1,.slice A2 n2 c2]) w) (hno:s.objs.length<=1000) :
  Calls Tryz.prog 37 #[.agg #[.int .i64 s.size,.int .i64 s.seq,.int .i64 s.half,.int .i64 s.used,.slice A1 n1 c1,.slice A2 n2 c2],sV k] w (q4b (q3C s k) w):=by
 obtain⟨R,hR⟩:=qf (q4b (q3C s k) w);rw[<-hR.out];have HI:=q_h hi;have HNO:=q_h hno;obtain⟨size,hsize⟩:=qf s.size;obtain⟨seq,hseq⟩:=qf s.seq;obtain⟨half,hhalf⟩:=qf s.half;obtain⟨used,hused⟩:=qf s.used;rw[<-hsize.out,<-hseq.out,<-hhalf.out,<-hused.out] at HI ⊢;obtain⟨K,hK9⟩:=qf (bA k);have hKV:Value.string K=sV k:=by rw[hK9.out];rfl
 have HKV:=q_h hKV;rw[<-hKV];clear hi hno hKV;go_enter Tryz.func37,Tryz.ntmps37;go_upto_region 1 with (fail);refine zu ?_;intro w1 hE hsz B0 B1;obtain⟨p0,p1,p2,p3,p4,p5⟩:=qw B0;have HB1:=q_h B1;have HX1:=q_h hE;go_wp2_with (go_at_call 58;refine q_o ?_);refine (HI.out w1 HX1.out).mono ?_;rintro e w2 (⟨hvb,a,b,c,d,Ax,nx,cx,Bx,mx,dx,gx,rfl,e2⟩|⟨hvb,Av,cv,At,ct,gm,rfl,hO2,hM2,hg2,hT2,e2⟩)
 ·have HX2:=q_h (hE.trans e2);have HR2:=q_h (e2.block B1)
  have HP:Hid (q3C s k=(⟨[],[]⟩,1)):=by
   rw[Hid];unfold q3C;rw[if_pos hvb]
  clear p0 p1 p2 p3 p4 p5 B0 B1 hE e2 hvb;go_upto_region 2 with (fail);refine qo ?_;intro w3 e3 hsz3 B8;clear B8;have HX9:=q_h (HX2.out.trans e3);have HR9:=q_h (e3.block HR2.out);clear e3;go_upto_region 3 with (fail);refine wp_region_lit ?_;refine wpList_plain rfl (fun K hK=>?_);go_simp;refine hK _ _ ?_;clear hK K;try simp only[nr]
  refine wpList_plain rfl (fun K hK=>?_);go_simp;refine hK _ _ ?_;clear hK K;try simp only[nr]
  refine qh rfl 29 _ _ rfl (by rfl) (by rfl) HR9.out q3B (by rfl) (by rfl) (by rfl) ?_;intro wz Bz Uz;obtain⟨x0,x1,-⟩:=cells2 Bz;go_wp2;refine bodyPost_ret (v:=.tuple #[.agg #[.slice none 0 0,.slice none 0 0],.int .i64 (1)]) ?_ rfl ?_
  ·simp[results,x0,x1,go_sem]
  ·rw[hR.out];refine⟨_,_,by rw[HP.out],?_,(Uz.chg (NoU.mk HR9.out (by decide))).ext HX9.out (by omega)⟩;rw[HP.out];exact q3M _
 have HX2:=q_h (hE.trans e2);have HR2:=q_h (e2.block B1);have HO2:=q_h hO2;have HM2:=q_h hM2;have HGS:Hid (w1.heap.size<=gm):=hg2;obtain⟨n,hn⟩:=qf s.objs.length;obtain⟨nt,hnt⟩:=qf s.tags.length;have HV:=q_h hvb;rw[<-hsize.out,<-hseq.out,<-hhalf.out,<-hused.out,<-hn.out,<-hnt.out];rw[<-hn.out] at HO2;clear p0 p1 p2 p3 p4 p5 B0 B1 hE e2 hO2 hM2 hT2 hg2 hvb;go_upto_region 2 with (fail);refine qo ?_;intro w3 e3 hsz3 B8;obtain⟨b,hb⟩:=qf w2.heap.size;rw[<-hb.out] at B8 ⊢;have HI3:Hid (IxB w1.heap.size b gm size seq half used (.slice Av n cv) (.slice At nt ct) s.objs w3):=⟨B8,by have:=HM2.out.lt;have:=hb.out;have:=HGS.out;omega,HGS.out,HO2.out.ext e3,HM2.out.ext e3⟩
 have HX3:=q_h (HX2.out.trans e3);have HR3:=q_h (e3.block HR2.out);clear e3 B8 HO2 HM2 HX2 HR2;obtain⟨z1,hlk,hz1⟩:=xR HI3.out.mp k;rw[<-HKV.out] at hlk;have HZ1:=q_h hz1;obtain⟨q1,hq1⟩:=qf ((s.objs.map qM).contains k);rw[<-hq1.out] at hlk;have c6:w3.cell? ⟨b,6,none⟩=some (.map (some gm)):=(qj HI3.out.blk 6).trans rfl;clear hz1;cases q1 with
 | false =>
  have HP:Hid (q3C s k=(⟨[],[]⟩,6)):=by
   have h9:=zf (s.objs.map qM) k;rw[<-hq1.out] at h9;rw[Hid];unfold q3C xY;rw[if_neg (by rw[HV.out];simp)];cases h8:(s.objs.map qM).idxOf? k with
   | none=>rfl
   | some j=>rw[h8] at h9;cases h9
  have HX9:=HX3;have HR9:=HR3;go_upto_region 6 with (fail);refine wp_region_lit ?_;refine wpList_plain rfl (fun K hK=>?_);go_simp;refine hK _ _ ?_;clear hK K;try simp only[nr]
  refine qh rfl 29 _ _ rfl (by rfl) (by rfl) HR9.out q3B (by rfl) (by rfl) (by rfl) ?_;intro wz Bz Uz;obtain⟨x0,x1,-⟩:=cells2 Bz;go_wp2;refine bodyPost_ret (v:=.tuple #[.agg #[.slice none 0 0,.slice none 0 0],.int .i64 (6)]) ?_ rfl ?_
  ·simp[results,x0,x1,go_sem]
  ·rw[hR.out];refine⟨_,_,by rw[HP.out],?_,(Uz.chg (NoU.mk HR9.out (by decide))).ext HX9.out (by omega)⟩;rw[HP.out];exact q3M _
 | true =>
  have hsome:∃j,(s.objs.map qM).idxOf? k=some j:=by
   have h9:=zf (s.objs.map qM) k;rw[<-hq1.out] at h9;cases h8:(s.objs.map qM).idxOf? k with
   | none=>rw[h8] at h9;cases h9
   | some j=>exact⟨j,rfl⟩
  obtain⟨j,hj⟩:=hsome;have hzj:z1=(j:Int):=HZ1.out j hj
  have hjl:j<s.objs.length:=by
   have h9:=List.idxOf?_eq_some_iff.1 hj;obtain⟨hjj,-⟩:=h9;simpa using hjj
  have HP:Hid (q3C s k=(s.objs.getD j default,0)):=by
   rw[Hid];unfold q3C xY;rw[if_neg (by rw[HV.out];simp),hj]
  have hjn:j<n:=by have:=hn.out;omega
  obtain⟨go,off,C1,m1,e1,C2,m2,e2,hAv,k0,k1,hsu,hbu⟩:=HI3.out.obs.atU hjl;subst hAv;have HSU:=q_h hsu;have HBU:=q_h hbu;subst hzj;have b4:w3.cell? ⟨b,4,none⟩=some (.slice (some ⟨go,off,none⟩) n cv):=(qj HI3.out.blk 4).trans rfl;have hji:(j:Int)<(n:Int):=by omega
  clear hsu hbu hj;go_upto_region 7 with (fail);refine wp_region_lit ?_;refine wpList_plain rfl (fun K hK=>?_);go_simp;refine hK _ _ ?_;clear hK K;try simp only[nr]
  refine wpList_plain rfl (fun K hK=>?_);go_simp;refine hK _ _ ?_;clear hK K;try simp only[nr]
  refine wpList_plain rfl (fun K hK=>?_);go_simp;refine hK _ _ ?_;clear hK K;try simp only[nr]
  refine wpList_plain rfl (fun K hK=>?_);go_simp;refine hK _ _ ?_;clear hK K;try simp only[nr]
  refine wpList_plain rfl (fun K hK=>?_);go_simp;refine hK _ _ ?_;clear hK K;try simp only[nr]
  refine wpList_plain rfl (fun K hK=>?_);go_simp;refine hK _ _ ?_;clear hK K;try simp only[nr]
  refine qh rfl 29 _ _ rfl (by rfl) (by rfl) HR3.out q3B (by rfl) (by rfl) (by rfl) ?_;intro wz Bz Uz;obtain⟨x0,x1,-⟩:=cells2 Bz
  have HOZ:Hid (ObR wz (.slice C1 m1 e1) (.slice C2 m2 e2) (s.objs.getD j default)):=by
   have Cz:=Uz.chg (NoU.mk HR3.out (by decide));exact⟨(HSU.out.chgT Cz HR3.out (by decide)).1,(HBU.out.chgT Cz HR3.out (by decide)).1⟩
  go_wp2;refine bodyPost_ret (v:=.tuple #[.agg #[.slice C1 m1 e1,.slice C2 m2 e2],.int .i64 0]) ?_ rfl ?_
  ·simp[results,x0,x1,go_sem]
  ·rw[hR.out];refine⟨_,_,by rw[HP.out],?_,(Uz.chg (NoU.mk HR3.out (by decide))).ext HX3.out (by omega)⟩;rw[HP.out];exact HOZ.out
structure KyS (g r:Nat) (sl:List Byt) (es:Array MapEntry) (k:Nat) (seen:Array Nat) (xs:List Byt) (w:World):Prop where
 rg:RgS g r (mpB sl) es k seen w
 nd:xs.Nodup
 mem:∀y,y∈xs↔∃e∈es.toList,seen.contains e.born=true/\e.key=sV y
theorem q3N {p:Byt×Value}{l:List Byt}(h:p∈mpB l):p.1∈l/\p.2=.bool true:=by
 unfold mpB at h;obtain⟨y,hy,rfl⟩:=List.mem_map.1 h;exact⟨hy,rfl⟩
theorem KyS.step {r:Nat}{sl xs:List Byt}{es:Array MapEntry}{seen:Array Nat}{w1:World}(h:KyS g r sl es k seen xs w){e:MapEntry}(he:e∈(leftOf es seen).toList) (hr:RgS g r (mpB sl) es k (seen.push e.born) w1):∃y,e.key=sV y/\e.val=.bool true/\KyS g r sl es k (seen.push e.born) (xs ++ [y]) w1:=by
 have hm:=mem_left he;obtain⟨p,hp,h5,h6⟩:=Jk h.rg.en hm.1;have hst:=(MapKept.stamped_iff es k).1 h.rg.st;refine⟨p.1,h5,h6.trans (q3N hp).2,⟨hr,?_,fun y=>?_⟩⟩
 ·refine List.nodup_append.2 ⟨h.nd,by simp,fun a ha b hb e9=>?_⟩;rw[List.mem_singleton] at hb;obtain⟨e2,h7,h8,h9⟩:=(h.mem a).1 ha;have hk:e2.key=e.key:=by rw[h9,h5,e9,hb]
  have:e2=e:=entry_eq_of_key hst.2.2 h7 hm.1 hk;rw[this,hm.2] at h8;cases h8
 ·rw[List.mem_append,h.mem,List.mem_singleton]
  constructor
  ·rintro (⟨e2,h7,h8,h9⟩|rfl)
   ·exact⟨e2,h7,by rw[contains_push,h8];rfl,h9⟩
   ·exact⟨e,hm.1,by rw[contains_push];simp,h5⟩
  ·rintro⟨e2,h7,h8,h9⟩;rw[contains_push,Bool.or_eq_true] at h8
   rcases h8 with h8|h8
   ·exact .inl ⟨e2,h7,h8,h9⟩
   ·have:e2=e:=born_inj hst.2.1 h7 hm.1 (by simpa using h8);rw[this,h5] at h9;exact .inr (q0Q h9).symm
theorem KyS.done {r:Nat}{sl xs:List Byt}{es:Array MapEntry}{seen:Array Nat}(h:KyS g r sl es k seen xs w) (h0:(leftOf es seen).size=0):∀y,y∈xs↔y∈sl:=fun y=>by
 rw[h.mem]
 constructor
 ·rintro⟨e,h1,-,h2⟩;obtain⟨p,hp,h3,-⟩:=Jk h.rg.en h1;rw[q0Q (h2.symm.trans h3)];exact (q3N hp).1
 ·intro hy;obtain⟨i,hi,rfl⟩:=List.getElem_of_mem hy;have h1:(mpB sl)[i]?=some (sl[i],.bool true):=by unfold mpB;rw[List.getElem?_map,List.getElem?_eq_getElem hi];rfl
  obtain⟨e,h2,h3,-⟩:=Vu h.rg.en h1;exact⟨e,List.mem_of_getElem? h2,all_seen es seen h0 e (List.mem_of_getElem? h2),h3⟩
theorem KyS.len {r:Nat}{sl xs:List Byt}{es:Array MapEntry}{seen:Array Nat}(h:KyS g r sl es k seen xs w):xs.length<=sl.length:=by
 refine q0U h.nd fun y hy=>?_
 obtain⟨e,h1,-,h2⟩:=(h.mem y).1 hy;obtain⟨p,hp,h3,-⟩:=Jk h.rg.en h1;rw[q0Q (h2.symm.trans h3)];exact (q3N hp).1
open Go.Sort in
def q4l (L:List Ob) (F:List Byt):Bool:=F.all ((L.map qM).contains ·)
def q3D (s:Shf) (F:List Byt):List Byt×Int:=if qE s=false then ([],1) else if q4l s.objs F=false then ([],6) else (rchS s.objs F,0)
theorem q3Z {s:Shf}{F:List Byt}{A0:Option Addr}{n0 c0:Nat}{A1 A2:Option Addr}{n1 c1 n2 c2:Nat}(hi:q3p s (.agg #[.int .i64 s.size,.int .i64 s.seq,.int .i64 s.half,.int .i64 s.used,.slice A1 n1 c1,.slice A2 n2 c2]) w) (hok:OkS s) (hF:qZ w (.slice A0 n0 c0) F) (hf:F.length<=1000) (hf0:0<F.length) :
  Calls Tryz.prog 39 #[.agg #[.int .i64 s.size,.int .i64 s.seq,.int .i64 s.half,.int .i64 s.used,.slice A1 n1 c1,.slice A2 n2 c2],.slice A0 n0 c0] w (RetRR (q3D s F) w):=by
 obtain⟨R,hR⟩:=qf (RetRR (q3D s F) w);rw[<-hR.out];have HI:=q_h hi;have HOK:=q_h hok;have HF:=q_h hF;have HFL:=q_h hf;have HF0:=q_h hf0;have HN0:Hid (n0=F.length):=qZ.atN hF;obtain⟨size,hsize⟩:=qf s.size;obtain⟨seq,hseq⟩:=qf s.seq;obtain⟨half,hhalf⟩:=qf s.half;obtain⟨used,hused⟩:=qf s.used;rw[<-hsize.out,<-hseq.out,<-hhalf.out,<-hused.out] at HI ⊢;clear hi hok hF hf hf0;go_enter Tryz.func39,Tryz.ntmps39;go_upto_region 1 with (fail);refine qo ?_;intro w1 hE hsz B0;obtain⟨p0,p1,p2,p3,p4,p5⟩:=qw B0;have HX1:=q_h hE;go_wp2_with (go_at_call 58;refine q_o ?_);refine (HI.out w1 HX1.out).mono ?_;rintro e w2 (⟨hvb,a,b,c,d,Ax,nx,cx,Bx,mx,dx,gx,rfl,e2⟩|⟨hvb,Av,cv,At,ct,gm,rfl,hO2,hM2,hg2,hT2,e2⟩)
 ·have HX2:=q_h (hE.trans e2)
  have HP:Hid (q3D s F=([],1)):=by
   rw[Hid];unfold q3D;rw[if_pos hvb]
  clear p0 p1 p2 p3 p4 p5 B0 hE e2 hvb;go_upto_region 2 with (fail);refine qo ?_;intro w3 e3 hsz3 B8;clear B8;have HX9:=q_h (HX2.out.trans e3);clear e3;go_wp2
  first|go_ret2|skip
  rw[hR.out,HP.out];exact⟨_,rfl,q2v _,HX9.out⟩
 have HX2:=q_h (hE.trans e2);have HO2:=q_h hO2;have HM2:=q_h hM2;have HGS:Hid (w1.heap.size<=gm):=hg2;have HV:=q_h hvb;obtain⟨n,hn⟩:=qf s.objs.length;obtain⟨nt,hnt⟩:=qf s.tags.length;rw[<-hsize.out,<-hseq.out,<-hhalf.out,<-hused.out,<-hn.out,<-hnt.out];rw[<-hn.out] at HO2;clear p0 p1 p2 p3 p4 p5 B0 hE e2 hO2 hM2 hT2 hg2 hvb;go_upto_region 2 with (fail);refine qo ?_;intro w3 e3 hsz3 B8;obtain⟨b,hb⟩:=qf w2.heap.size;rw[<-hb.out] at B8 ⊢;have HI3:Hid (IxB w1.heap.size b gm size seq half used (.slice Av n cv) (.slice At nt ct) s.objs w3):=⟨B8,by have:=HM2.out.lt;have:=hb.out;have:=HGS.out;omega,HGS.out,HO2.out.ext e3,HM2.out.ext e3⟩
 have HX3:=q_h (HX2.out.trans e3);have HF3:=q_h (HF.out.ext HX3.out);have c6:w3.cell? ⟨b,6,none⟩=some (.map (some gm)):=(qj HI3.out.blk 6).trans rfl;clear e3 B8 HO2 HM2 HX2;go_wp2_with fail
 go_loopw [24] (fun iv wr=>∃i:Nat,i<=n0/\iv=.int .i64 (i:Int)/\Hid (∀x,x<i->(s.objs.map qM).contains (F.getD x [])=true)/\wr=w3) (fun iv _=>n0-(intOf iv).toNat)
 case atStart=>exact⟨0,Nat.zero_le _,rfl,fun x hx=>absurd hx (Nat.not_lt_zero x),rfl⟩
 case round =>
  obtain⟨i,hin,rfl,HA,rfl⟩:=hrel
  by_cases hlt:i<n0
  case neg =>
   obtain rfl:i=n0:=by omega
   have u5:decide ((i:Int)<(i:Int))=false:=q_f (by omega)
   have HCT:Hid (∀y∈F,(s.objs.map qM).contains y=true):=fun y hy=>by
    obtain⟨x,hx,rfl⟩:=List.getElem_of_mem hy;have h1:=HA.out x (by rw[HN0.out];exact hx);rw[List.getD_eq_getElem?_getD,List.getElem?_eq_getElem hx] at h1;exact h1
   have HP:Hid (q3D s F=(rchS s.objs F,0)):=by
    rw[Hid];unfold q3D;rw[if_neg (by rw[HV.out];simp),if_neg (by rw[show q4l s.objs F=true from List.all_eq_true.2 HCT.out];simp)]
   have HSTD:Hid (∀y∈F,∃j,j<s.objs.length/\qM (s.objs.getD j default)=y):=fun y hy=>by
    have h1:=HCT.out y hy;simp only[List.contains_eq_mem,decide_eq_true_eq] at h1;obtain⟨o,ho,rfl⟩:=List.mem_map.1 h1;obtain⟨j,hj,rfl⟩:=List.getElem_of_mem ho;exact⟨j,hj,by rw[List.getD_eq_getElem?_getD,List.getElem?_eq_getElem hj];rfl⟩
   have HRC:Hid (Calls Tryz.prog 110 #[.pointer (some ⟨b,0,none⟩),.slice A0 i c0] wr (q33 s.objs F wr)) :=
    q2k HI3.out HF3.out (q3v HV.out) (by have:=HOK.out.no;omega) HFL.out HSTD.out (Wx HV.out)
   go_wp2_with (go_at_call 110;refine q_o ?_);refine HRC.out.mono ?_;rintro e w5 ⟨g2,sl,rfl,hg2,hM5,hRS,e5⟩;have HRS:=q_h hRS;have HX5:=q_h (HX3.out.trans e5);obtain⟨es,k,w6,hrun,hrg,hx6⟩:=hM5.range q0J;obtain⟨r,hr⟩:=qf w5.heap.size;rw[<-hr.out] at hrun hrg;have HKY:Hid (KyS g2 r sl es k #[] [] w6):=⟨hrg,List.nodup_nil,fun y=>⟨fun h=>(by cases h),fun ⟨e,_,h,_⟩=>by simp at h⟩⟩
   have HX6:=q_h (HX5.out.trans hx6);have HG6:Hid (qB 9 w.heap.size w6 (.slice none 0 0) []):=qB.nil HX6.out.size;have HR6:Hid (w.heap.size<=r):=by rw[Hid,hr.out];exact HX5.out.size
   have HSL:Hid (sl.length<=1000):=by
    have h1:=hRS.len;have h2:=HOK.out.no;rw[Hid];omega
   clear hRS hM5 e5 hrg hx6 HRC c6;go_wp2_with fail
   go_loopw [12] (fun ov wq=>∃(A:Option Addr) (n c:Nat) (seen:Array Nat) (xs:List Byt),ov=.slice A n c/\Hid (n=xs.length)/\n<=1000/\Hid (KyS g2 r sl es k seen xs wq)/\Hid (qB 9 w.heap.size wq (.slice A n c) (xs.map sV))/\Hid (Ext w wq)) (fun _ wq=>World.rangeLeft wq g2 r)
   case atStart=>exact⟨none,0,0,#[],[],rfl,rfl,Nat.zero_le _,HKY,HG6,HX6⟩
   case round =>
    clear HKY HG6 HX6;obtain⟨A,nx,cx,seen,xs,rfl,HNX,hnx9,HKY,HG,HX⟩:=hrel
    rcases HKY.out.rg.next 0 with ⟨h0,hnx⟩|⟨e,he,w7,hnx,hrg7,hu7,hen⟩
    ·have HDN:=q_h (HKY.out.done h0)
     have HXL:Hid (0<xs.length):=by
      have h1:=HF0.out
      have h2:F.getD 0 []∈sl:=by
       have h3:F.getD 0 []∈F:=by
        rw[List.getD_eq_getElem?_getD,List.getElem?_eq_getElem h1];exact List.getElem_mem h1
       rcases HRS.out.cov _ h3 with h4|h4
       ·exact h4
       ·cases h4
      exact List.length_pos_of_mem ((HDN.out _).2 h2)
     have HSR:Hid (Qk xs=rchS s.objs F):=by
      refine q4h (q3v HV.out) HSTD.out HKY.out.nd (fun y hy=>?_) (fun y hy=>(HRS.out.s1 y ((HDN.out y).1 hy)).2) (fun y hy l hl=>?_)
      ·rcases HRS.out.cov y hy with h4|h4
       ·exact (HDN.out y).2 h4
       ·cases h4
      ·rcases HRS.out.cl y ((HDN.out y).1 hy) l hl with h4|h4
       ·exact (HDN.out l).2 h4
       ·cases h4
     obtain⟨go,cap,hvo,hbo,-⟩:=HG.out.at_ (by rw[List.length_map];exact HXL.out);obtain⟨rfl,-,rfl⟩:=Value.slice.inj hvo;have HGO:Hid (w.heap.size<=go):=hbo;clear hvo hbo h0;go_wp2_with (go_at_call 29;refine q_o ?_);refine (WL HG.out HNX.out (by have:=HXL.out;have:=HNX.out;omega) (by omega)).mono ?_;rintro e w8 ⟨rfl,hS8,hg8⟩;have HS8:=q_h hS8;have HX8:Hid (Ext w w8):=HX.out.grown hg8 (fun q hq=>by injection hq with hq;rw[<-hq];exact HGO.out);clear hS8 hg8;go_wp2
     first|go_ret2|skip
     rw[hR.out,HP.out];exact⟨_,rfl,by rw[<-HSR.out];exact HS8.out,HX8.out⟩
    ·obtain⟨y,hk,hv,hky⟩:=HKY.out.step he hrg7;obtain⟨Y,hY⟩:=qf (bA y);rw[qO,<-hY.out] at hk;rw[hk,hv] at hnx hen;have HYV:Hid (Value.string Y=sV y):=by rw[Hid,hY.out];rfl
     obtain⟨seen2,hs2⟩:=qf (seen.push e.born);rw[<-hs2.out] at hky;have HKY7:=q_h hky;have HLT:Hid ((leftOf es seen2).size<(leftOf es seen).size):=by rw[Hid,hs2.out];exact left_shrinks es seen e he
     have HRL:Hid (World.rangeLeft wr g2 r=(leftOf es seen).size):=by
      have h1:=HKY.out.rg;rw[Hid];unfold World.rangeLeft;rw[h1.mp,h1.it]
     have HX7:Hid (Ext w w7):=hu7.ext HX.out HR6.out
     have hor:Value.ownBlock (.slice A nx cx)≠some r/\Value.ownBlock (.slice A nx cx)≠some g2:=by
      have h1:=HKY.out.rg
      rcases HG.out.2.2 with ⟨h2,-⟩|⟨g9,cap9,cur9,h2,-,h3,-⟩
      ·rw[h2];exact⟨fun h=>by simp[Value.ownBlock] at h,fun h=>by simp[Value.ownBlock] at h⟩
      ·rw[h2];refine⟨fun h=>?_,fun h=>?_⟩
       ·obtain rfl:g9=r:=by simpa[Value.ownBlock] using h
        have h4:=h1.it;rw[h3] at h4;cases h4
       ·obtain rfl:g9=g2:=by simpa[Value.ownBlock] using h
        have h4:=h1.mp;rw[h3] at h4;cases h4
     have HOR:=q_h hor
     have HG7:Hid (qB 9 w.heap.size w7 (.slice A nx cx) (xs.map sV)):=by
      have h2:=HG.out;refine⟨by rw[hu7.size];exact h2.1,h2.2.1,?_⟩
      rcases h2.2.2 with h3|⟨g9,cap9,cur9,h3,h4,h5,h6⟩
      ·exact .inl h3
      ·refine .inr ⟨g9,cap9,cur9,h3,h4,hu7.blk h5 (fun e9=>HOR.out.1 (by rw[h3,e9];rfl)),h6⟩
     have HNX2:Hid (nx+1=(xs ++ [y]).length):=by rw[Hid,List.length_append,HNX.out];rfl
     have HN1:Hid (nx+1<=1000):=by
      have h1:=HKY7.out.len;have h2:=HSL.out;rw[<-HNX2.out] at h1;rw[Hid];omega
     have HMS:Hid ((xs ++ [y]).map sV=xs.map sV ++ [.string Y]):=by rw[Hid,List.map_append,HYV.out];rfl
     have HXN:Hid ((xs.map sV).length=nx):=by rw[Hid,List.length_map];exact HNX.out.symm
     clear hk hv he hky hrg7 hu7 hor;go_wp2_with (at_builtin;refine q_o ?_);refine qo ?_;intro w8 e8 hsz8 BX;refine zB xW rfl _ _ 26 Tryz.underlying26 rfl (by rfl) (HG7.out.ext e8) (by rfl) (m:=1) (c:=1) (news:=[.string Y]) rfl (jD BX) (fun x hx=>by rw[List.mem_singleton.1 hx];rfl) (by omega) (by rw[HXN.out];omega) ?_;rintro g9 cap9 w9 hG9 - ⟨g',hg',hw9,C9,-⟩;rw[HXN.out,<-HMS.out] at hG9;rw[HXN.out];have HG9:=q_h hG9;have HX9:Hid (Ext w w9):=C9.ext (HX7.out.trans e8) hg'
     have hne:g'≠r/\g'≠g2:=by
      have h1:=HKY7.out.rg;have h2:=qK h1.mp;have h3:=qK h1.it;have h4:=e8.size
      rcases hw9 with h|h
      ·exact⟨fun e9=>HOR.out.1 (by rw[h,e9]),fun e9=>HOR.out.2 (by rw[h,e9])⟩
      ·constructor<;>omega
     have HKY9:Hid (KyS g2 r sl es k seen2 (xs ++ [y]) w9):=by
      have h1:=HKY7.out;exact⟨⟨C9.blk (e8.block h1.rg.mp) (by omega),C9.blk (e8.block h1.rg.it) (by omega),h1.rg.en,h1.rg.st⟩,h1.nd,h1.mem⟩
     clear hG9 hw9 C9 hne e8 BX hnx hen;go_wp2;go_roundw
     case rel=>exact⟨_,nx+1,cap9,seen2,xs ++ [y],rfl,HNX2,HN1.out,HKY9,HG9,HX9⟩
     case measure =>
      have h1:=HKY9.out.rg
      have h2:World.rangeLeft w9 g2 r=(leftOf es seen2).size:=by
       unfold World.rangeLeft;rw[h1.mp,h1.it]
      rw[h2,HRL.out];exact HLT.out
  have u5:decide ((i:Int)<(n0:Int))=true:=q_t (by omega);have hii:(i:Int)<(n0:Int):=by omega
  have hwi:IntKind.i64.wrap ((i:Int)+1)=(i:Int)+1:=by
   have h1:=HN0.out;have h2:=HFL.out;exact wrp (by omega) (by omega)
  obtain⟨gF,oF,rfl,hxF⟩:=qZ.at_ HF3.out HN0.out (by omega);have k0:=hxF i hlt;obtain⟨X,hX⟩:=qf (bA (F.getD i []));rw[qO,<-hX.out] at k0;obtain⟨z1,hlk,-⟩:=xR HI3.out.mp (F.getD i []);rw[qO,<-hX.out] at hlk;obtain⟨q1,hq1⟩:=qf ((s.objs.map qM).contains (F.getD i []));rw[<-hq1.out] at hlk;clear hxF;cases q1 with
  | false =>
   have HP:Hid (q3D s F=([],6)):=by
    rw[Hid];unfold q3D
    have h1:q4l s.objs F=false:=by
     cases h2:q4l s.objs F with
     | false=>rfl
     | true =>
      have h3:=List.all_eq_true.1 h2 (F.getD i []) (by
       have h4:i<F.length:=by rw[<-HN0.out];exact hlt
       rw[List.getD_eq_getElem?_getD,List.getElem?_eq_getElem h4]
       exact List.getElem_mem h4)
      rw[<-hq1.out] at h3;cases h3
    rw[if_neg (by rw[HV.out];simp),if_pos h1]
   go_wp2
   first|go_ret2|skip
   rw[hR.out,HP.out];exact⟨_,rfl,q2v _,HX3.out⟩
  | true =>
   have HA2:Hid (∀x,x<i+1->(s.objs.map qM).contains (F.getD x [])=true):=fun x hx=>by
    by_cases h9:x=i
    ·rw[h9];exact hq1.out.symm
    ·exact HA.out x (by omega)
   go_wp2;go_roundw
   case rel=>exact⟨i+1,by omega,by go_num,HA2,by first|rfl|trivial⟩
   case measure=>simp[intOf];omega
def q3s (s:Shf) (k:Byt):Byt×Int:=if qE s=false then ([],1) else if KZ s.tags k=[] then ([],6) else (KZ s.tags k,0)
theorem q4c {s:Shf}{k:Byt}{A1 A2:Option Addr}{n1 c1 n2 c2:Nat}(hi:q3p s (.agg #[.int .i64 s.size,.int .i64 s.seq,.int .i64 s.half,.int .i64 s.used,.slice A1 n1 c1,.slice A2 n2 c2]) w) (hnt:s.tags.length<=1000) :
  Calls Tryz.prog 38 #[.agg #[.int .i64 s.size,.int .i64 s.seq,.int .i64 s.half,.int .i64 s.used,.slice A1 n1 c1,.slice A2 n2 c2],sV k] w (qH w (.tuple #[sV (q3s s k).1,.int .i64 (q3s s k).2])):=by
 obtain⟨R,hR⟩:=qf (qH w (.tuple #[sV (q3s s k).1,.int .i64 (q3s s k).2]));rw[<-hR.out];have HI:=q_h hi;have HNT:=q_h hnt;obtain⟨size,hsize⟩:=qf s.size;obtain⟨seq,hseq⟩:=qf s.seq;obtain⟨half,hhalf⟩:=qf s.half;obtain⟨used,hused⟩:=qf s.used;rw[<-hsize.out,<-hseq.out,<-hhalf.out,<-hused.out] at HI ⊢;obtain⟨K,hK9⟩:=qf (bA k);have hKV:Value.string K=sV k:=by rw[hK9.out];rfl
 have HKV:=q_h hKV;rw[<-hKV];clear hi hnt hKV;go_enter Tryz.func38,Tryz.ntmps38;go_upto_region 1 with (fail);refine qo ?_;intro w1 hE hsz B0;obtain⟨p0,p1,p2,p3,p4,p5⟩:=qw B0;have HX1:=q_h hE;go_wp2_with (go_at_call 58;refine q_o ?_);refine (HI.out w1 HX1.out).mono ?_;rintro e w2 (⟨hvb,a,b,c,d,Ax,nx,cx,Bx,mx,dx,gx,rfl,e2⟩|⟨hvb,Av,cv,At,ct,gm,rfl,hO2,hM2,hg2,hT2,e2⟩)
 ·have HX2:=q_h (hE.trans e2)
  have HP:Hid (q3s s k=([],1)):=by
   rw[Hid];unfold q3s;rw[if_pos hvb]
  clear p0 p1 p2 p3 p4 p5 B0 hE e2 hvb;go_upto_region 2 with (fail);refine qo ?_;intro w3 e3 hsz3 B8;clear B8;have HX9:=q_h (HX2.out.trans e3);clear e3;go_wp2
  first|go_ret2|skip
  rw[hR.out,HP.out];exact⟨rfl,HX9.out⟩
 have HX2:=q_h (hE.trans e2);have HT2:=q_h hT2.tgs;have HV:=q_h hvb;obtain⟨n,hn⟩:=qf s.objs.length;obtain⟨nt,hnt⟩:=qf s.tags.length;rw[<-hsize.out,<-hseq.out,<-hhalf.out,<-hused.out,<-hn.out,<-hnt.out];rw[<-hnt.out] at HT2;clear p0 p1 p2 p3 p4 p5 B0 hE e2 hO2 hM2 hT2 hg2 hvb;go_upto_region 2 with (fail);refine qo ?_;intro w3 e3 hsz3 B8;obtain⟨b,hb⟩:=qf w2.heap.size;rw[<-hb.out] at B8 ⊢;have HB3:=q_h B8;have HX3:=q_h (HX2.out.trans e3);have HT3:=q_h (HT2.out.ext e3);clear e3 B8 HX2 HT2
 have HCT:Hid (Calls Tryz.prog 109 #[.pointer (some ⟨b,0,none⟩),.string K] w3 (qH w3 (sV (KZ s.tags k)))):=by
  rw[HKV.out];exact JH HB3.out HT3.out (ZJ HV.out) (by have:=HNT.out;have:=hnt.out;omega)
 obtain⟨r,hr⟩:=qf (bA (KZ s.tags k));rw[qO,<-hr.out] at HCT;go_wp2_with (go_at_call 109;refine q_o ?_);refine HCT.out.mono ?_;rintro e w4 ⟨rfl,e4⟩;have HX4:=q_h (HX3.out.trans e4);have HRL:Hid (r.toList=KZ s.tags k):=by rw[Hid,hr.out,zx]
 have HRV:Hid (Value.string r=sV (KZ s.tags k)):=by rw[Hid,hr.out];rfl
 clear e4 HCT
 by_cases h0:KZ s.tags k=[]
 ·have HP:Hid (q3s s k=([],6)):=by
   rw[Hid];unfold q3s;rw[if_neg (by rw[HV.out];simp),if_pos h0]
  have ur:(r.toList == [])=true:=by rw[HRL.out,h0];rfl
  go_wp2
  first|go_ret2|skip
  rw[hR.out,HP.out];exact⟨rfl,HX4.out⟩
 ·have HP:Hid (q3s s k=(KZ s.tags k,0)):=by
   rw[Hid];unfold q3s;rw[if_neg (by rw[HV.out];simp),if_neg h0]
  have ur:(r.toList == [])=false:=by rw[HRL.out];simpa using h0
  go_wp2
  first|go_ret2|skip
  rw[hR.out,HP.out];exact⟨by rw[HRV.out];rfl,HX4.out⟩
theorem q4a (l:Byt):(bA l).size=l.length:=by unfold bA;exact List.size_toArray
theorem q3R{k:Byt}{X:ByteArray}(hX:Value.string X=sV k) (h:w.heap[g]?=some (.cells #[.string X] 9 (0,0))):qZ w (.slice (some ⟨g,0,none⟩) 1 1) [k]:=by
 refine⟨_,1,rfl,q_r,by unfold maxLen;show 1<=_;omega,fun _=>⟨g,0,rfl,fun i hi=>?_⟩⟩;obtain rfl:i=0:=by have:i<1:=hi;omega
 exact⟨_,qj h 0,hX⟩
def nmR (s:Shf):List Byt×Int:=if qE s=false then ([],1) else (xY s,0)
theorem q3a.r {s:Shf}{e:Ending}(h:q3a s w e w') (hl:s.objs.length<=1000):RetRR (nmR s) w e w':=by
 rcases h with ⟨h1,rfl,h2⟩|⟨h1,g,rfl,h2,h3⟩
 ·refine⟨_,by unfold nmR;rw[if_pos h1],?_,h2⟩;unfold nmR;rw[if_pos h1];exact q2v _
 ·refine⟨_,by unfold nmR;rw[if_neg (by rw[h1];simp)],?_,h3⟩;unfold nmR;rw[if_neg (by rw[h1];simp)];have h4:=h2.strs (by rw[List.length_map];omega);rw[List.length_map] at h4;exact h4
theorem q3w {s:Shf}{nm tag:Byt}{A1 A2:Option Addr}{n1 c1 n2 c2:Nat}(hO:yJ w (.slice A1 n1 c1) s.objs) (hTg:jK w (.slice A2 n2 c2) s.tags) (he:kS w.heap.size w) (hl:LnSh s) (hl1:LnS nm) (hl2:LnS tag)
  (hk:∀w',Ext w w'->Calls Tryz.prog 10 #[] w' (qH w' (.bool true))) :
  Calls Tryz.prog 7 #[.agg #[.int .i64 s.size,.int .i64 s.seq,.int .i64 s.half,.int .i64 s.used,.slice A1 n1 c1,.slice A2 n2 c2],sV nm,sV tag] w (qH w (.bool true)):=by
 have HO:=q_h hO;have HTG:=q_h hTg;have HEV:=q_h he;have HK:=q_h hk;have HIX:Hid (∀w',Ext w w'->OkS s->q3p s (.agg #[.int .i64 s.size,.int .i64 s.seq,.int .i64 s.half,.int .i64 s.used,.slice A1 n1 c1,.slice A2 n2 c2]) w'):=fun w' e h=>q2L X7 (HO.out.ext e) (HTG.out.ext e) h ((HEV.out.ext e).low e.size)
 have HCF:Hid (∀w',Ext w w'->Calls Tryz.prog 11 #[.agg #[.int .i64 s.size,.int .i64 s.seq,.int .i64 s.half,.int .i64 s.used,.slice A1 n1 c1,.slice A2 n2 c2]] w' (qH w' (.bool (fewS s)))):=fun w' e=>q0Y (HO.out.ext e) (HTG.out.ext e) hl
 have HGT:Hid (∀w',Ext w w'->OkS s->Calls Tryz.prog 37 #[.agg #[.int .i64 s.size,.int .i64 s.seq,.int .i64 s.half,.int .i64 s.used,.slice A1 n1 c1,.slice A2 n2 c2],sV nm] w' (q4b (q3C s nm) w')):=fun w' e h=>q4f (HIX.out w' e h) (by have:=h.no;omega)
 have HFD:Hid (∀w',Ext w w'->OkS s->Calls Tryz.prog 38 #[.agg #[.int .i64 s.size,.int .i64 s.seq,.int .i64 s.half,.int .i64 s.used,.slice A1 n1 c1,.slice A2 n2 c2],sV tag] w' (qH w' (.tuple #[sV (q3s s tag).1,.int .i64 (q3s s tag).2]))):=fun w' e h=>q4c (HIX.out w' e h) h.nt
 have HNM:Hid (∀w',Ext w w'->OkS s->Calls Tryz.prog 28 #[.agg #[.int .i64 s.size,.int .i64 s.seq,.int .i64 s.half,.int .i64 s.used,.slice A1 n1 c1,.slice A2 n2 c2]] w' (RetRR (nmR s) w')):=fun w' e h=>(q2l (HIX.out w' e h) (by have:=h.no;omega)).mono fun _ _ h9=>h9.r (by have:=h.no;omega)
 have HRH:Hid (∀w' g,Ext w w'->OkS s->qZ w' (.slice (some ⟨g,0,none⟩) 1 1) [nm]->Calls Tryz.prog 39 #[.agg #[.int .i64 s.size,.int .i64 s.seq,.int .i64 s.half,.int .i64 s.used,.slice A1 n1 c1,.slice A2 n2 c2],.slice (some ⟨g,0,none⟩) 1 1] w' (RetRR (q3D s [nm]) w')):=fun w' g e h hs=>q3Z (HIX.out w' e h) h hs (by show 1<=_;omega) (by show 0<1;omega)
 have HVL:Hid (∀w',Ext w w'->OkS s->Calls Tryz.prog 40 #[.agg #[.int .i64 s.size,.int .i64 s.seq,.int .i64 s.half,.int .i64 s.used,.slice A1 n1 c1,.slice A2 n2 c2]] w' (qH w' (.bool (qE s)))):=fun w' e h=>Vb (HO.out.ext e) (HTG.out.ext e) h.ob h.tg (by have:=h.no;omega) h.nt
 have HCH:Hid (∀w',Ext w w'->OkS s->Calls Tryz.prog 41 #[.agg #[.int .i64 s.size,.int .i64 s.seq,.int .i64 s.half,.int .i64 s.used,.slice A1 n1 c1,.slice A2 n2 c2]] w' (qH w' (.int .i64 (if qE s then 0 else 1)))):=fun w' e h=>q40 (HIX.out w' e h)
 obtain⟨size,hsize⟩:=qf s.size;obtain⟨seq,hseq⟩:=qf s.seq;obtain⟨half,hhalf⟩:=qf s.half;obtain⟨used,hused⟩:=qf s.used;obtain⟨fs,hfs⟩:=qf (fewS s);obtain⟨K,hK9⟩:=qf (bA nm);obtain⟨K2,hK29⟩:=qf (bA tag);have HKV:Hid (Value.string K=sV nm):=by rw[Hid,hK9.out];rfl
 have HKV2:Hid (Value.string K2=sV tag):=by rw[Hid,hK29.out];rfl
 have hb1:K.size<=4611686018427387903:=by rw[hK9.out,q4a];unfold LnS at hl1;omega
 have hb2:K2.size<=4611686018427387903:=by rw[hK29.out,q4a];unfold LnS at hl2;omega
 rw[<-HKV.out,<-HKV2.out];rw[<-HKV.out] at HGT;rw[<-HKV2.out] at HFD;rw[<-hsize.out,<-hseq.out,<-hhalf.out,<-hused.out] at HCF HGT HFD HNM HRH HVL HCH ⊢;rw[<-hfs.out] at HCF;clear hO hTg he hl hl1 hl2 hk HIX;go_enter Tryz.func7,Tryz.ntmps7;go_upto_region 1 with (fail);refine qo ?_;intro w1 hE hsz B0;have HX1:=q_h hE;have HB1:=q_h B0;clear hE B0;go_wp2_with (go_at_call 10;refine q_o ?_);refine (HK.out w1 HX1.out).mono ?_;rintro e w2 ⟨rfl,e2⟩;have HX2:=q_h (HX1.out.trans e2);have HB2:=q_h (e2.block HB1.out);clear e2 HX1 HB1 HK;obtain⟨p0,p1,p2,p3,p4,p5⟩:=qw HB2.out;have hww:IntKind.i64.wrap ((K.size:Int)+(K2.size:Int))=(K.size:Int)+K2.size:=wrp (by omega) (by omega);go_wp2_with (go_at_call 11;refine q_o ?_);refine (HCF.out w2 HX2.out).mono ?_;rintro e w3 ⟨rfl,e3⟩;have HX3:=q_h (HX2.out.trans e3);have HB3:=q_h (e3.block HB2.out);clear e3 HX2 HB2 HCF p0 p1 p2 p3 p4 p5;cases fs with
 | false =>
  go_wp2
  first|go_ret|skip
  exact⟨rfl,HX3.out⟩
 | true =>
 have HOS:=q_h (fewS.ok hfs.out.symm)
 by_cases h200:200<K.size+K2.size
 ·have u1:decide ((200:Int)<(K.size:Int)+(K2.size:Int))=true:=q_t (by omega);go_wp2
  first|go_ret|skip
  exact⟨rfl,HX3.out⟩
 have u1:decide ((200:Int)<(K.size:Int)+(K2.size:Int))=false:=q_f (by omega);obtain⟨p0,p1,p2,p3,p4,p5⟩:=qw HB3.out;go_wp2_with (go_at_call 37;refine q_o ?_);refine (HGT.out w3 HX3.out HOS.out).mono ?_;obtain⟨z1,hz1⟩:=qf (q3C s nm).2;rintro e w4 ⟨x4,y4,rfl,hob4,e4⟩;rw[<-hz1.out];obtain⟨A4,c4,rfl,-⟩:=hob4.1.form;obtain⟨A5,c5,rfl,-⟩:=hob4.2.form;obtain⟨n4,hn4⟩:=qf (q3C s nm).1.links.length;obtain⟨n5,hn5⟩:=qf (q3C s nm).1.data.length;rw[<-hn4.out,<-hn5.out] at hob4 ⊢;have HX4:=q_h (HX3.out.trans e4);have HB4:=q_h (e4.block HB3.out);have HOB4:=q_h hob4;clear hob4 e4 HX3 HB3 HGT p0 p1 p2 p3 p4 p5 hww u1 h200 hb1 hb2;go_upto_region 6 with (fail);refine qo ?_;intro w5 e5 hsz5 B5;obtain⟨go,hgo⟩:=qf w4.heap.size;rw[<-hgo.out] at B5 ⊢;have HQ5:=q_h B5;have HX5:=q_h (HX4.out.trans e5);have HB5:=q_h (e5.block HB4.out);have HOB5:=q_h (HOB4.out.ext e5);clear e5 B5 HX4 HB4 HOB4;obtain⟨p0,p1,p2,p3,p4,p5⟩:=qw HB5.out;obtain⟨z2,hz2⟩:=qf (q3s s tag).2;obtain⟨f2,hf2⟩:=qf (bA (q3s s tag).1);rw[qO (q3s s tag).1,<-hf2.out,<-hz2.out] at HFD;go_wp2_with (go_at_call 38;refine q_o ?_);refine (HFD.out w5 HX5.out HOS.out).mono ?_;rintro e w6 ⟨rfl,e6⟩;have HQ6:=q_h (e6.block HQ5.out);have HX6:=q_h (HX5.out.trans e6);have HB6:=q_h (e6.block HB5.out);have HOB6:=q_h (HOB5.out.ext e6);clear e6 HQ5 HX5 HB5 HOB5 HFD p0 p1 p2 p3 p4 p5;obtain⟨p0,p1,p2,p3,p4,p5⟩:=qw HB6.out
 obtain⟨z3,hz3⟩:=qf (nmR s).2;go_wp2_with (go_at_call 28;refine q_o ?_);refine (HNM.out w6 HX6.out HOS.out).mono ?_;rintro e w7 ⟨v7,rfl,hl7,e7⟩;rw[<-hz3.out];obtain⟨A7,c7,rfl,-⟩:=Qm.form hl7;obtain⟨n7,hn7⟩:=qf (nmR s).1.length;have HL7:Hid (qZ w7 (.slice A7 n7 c7) (nmR s).1):=by rw[hn7.out];exact hl7
 rw[<-hn7.out];have HQ7:=q_h (e7.block HQ6.out);have HX7:=q_h (HX6.out.trans e7);have HB7:=q_h (e7.block HB6.out);have HOB7:=q_h (HOB6.out.ext e7);clear hl7 e7 HQ6 HX6 HB6 HOB6 HNM p0 p1 p2 p3 p4 p5;obtain⟨p0,p1,p2,p3,p4,p5⟩:=qw HB7.out;obtain⟨z4,hz4⟩:=qf (q3D s [nm]).2;go_wp2_with (go_at_call 39;refine q_o ?_);refine (HRH.out _ _ (HX7.out.alloc _) HOS.out (q3R HKV.out (heap_alloc_new w7 _))).mono ?_;rintro e w8 ⟨v8,rfl,hl8,e8'⟩;rw[<-hz4.out];have e8:Ext w7 w8:=((Ext.refl w7).alloc _).trans e8';obtain⟨A8,c8,rfl,-⟩:=Qm.form hl8;obtain⟨n8,hn8⟩:=qf (q3D s [nm]).1.length;have HL8:Hid (qZ w8 (.slice A8 n8 c8) (q3D s [nm]).1):=by rw[hn8.out];exact hl8
 rw[<-hn8.out];have HQ8:=q_h (e8.block HQ7.out);have HX8:=q_h (HX7.out.trans e8);have HB8:=q_h (e8.block HB7.out);have HOB8:=q_h (HOB7.out.ext e8);have HL78:=q_h (HL7.out.ext e8);clear hl8 e8 e8' HQ7 HX7 HB7 HOB7 HL7 HRH p0 p1 p2 p3 p4 p5;obtain⟨p0,p1,p2,p3,p4,p5⟩:=qw HB8.out;obtain⟨vb,hvb⟩:=qf (qE s);rw[<-hvb.out] at HVL HCH;go_wp2_with (go_at_call 40;refine q_o ?_);refine (HVL.out w8 HX8.out HOS.out).mono ?_;rintro e w9 ⟨rfl,e9⟩;have HQ9:=q_h (e9.block HQ8.out);have HX9:=q_h (HX8.out.trans e9);have HB9:=q_h (e9.block HB8.out);have HOB9:=q_h (HOB8.out.ext e9);have HL79:=q_h (HL78.out.ext e9);have HL89:=q_h (HL8.out.ext e9);clear e9 HQ8 HX8 HB8 HOB8 HL78 HL8 HVL p0 p1 p2 p3 p4 p5;obtain⟨p0,p1,p2,p3,p4,p5⟩:=qw HB9.out;obtain⟨q0,q1,-⟩:=cells2 HQ9.out;cases vb with
 | false =>
  have hv0:=hvb.out.symm;have HGE:Hid (q3C s nm=(⟨[],[]⟩,1)):=by rw[Hid];unfold q3C;rw[if_pos hv0]
  have HFE:Hid (q3s s tag=([],1)):=by rw[Hid];unfold q3s;rw[if_pos hv0]
  have HNE:Hid (nmR s=([],1)):=by rw[Hid];unfold nmR;rw[if_pos hv0]
  have HRE:Hid (q3D s [nm]=([],1)):=by rw[Hid];unfold q3D;rw[if_pos hv0]
  obtain rfl:z1=1:=by rw[hz1.out,HGE.out]
  obtain rfl:z2=1:=by rw[hz2.out,HFE.out]
  obtain rfl:z3=1:=by rw[hz3.out,HNE.out]
  obtain rfl:z4=1:=by rw[hz4.out,HRE.out]
  obtain rfl:f2=⟨#[]⟩:=by rw[hf2.out,HFE.out];rfl
  obtain rfl:n7=0:=by rw[hn7.out,HNE.out];rfl
  obtain rfl:n8=0:=by rw[hn8.out,HRE.out];rfl
  have HCH1:Hid (Calls Tryz.prog 41 #[.agg #[.int .i64 size,.int .i64 seq,.int .i64 half,.int .i64 used,.slice A1 n1 c1,.slice A2 n2 c2]] w9 (qH w9 (.int .i64 1))):=HCH.out w9 HX9.out HOS.out;go_wp2_with (go_at_call 41;refine q_o ?_);refine HCH1.out.mono ?_;rintro e wa ⟨rfl,ea⟩;have HXa:=q_h (HX9.out.trans ea)
  have HSO:Hid (Calls Tryz.prog 42 #[.agg #[.slice A4 n4 c4,.slice A5 n5 c5],.agg #[.slice none 0 0,.slice none 0 0]] wa (qH wa (.bool true))):=by
   have h1:=HOB9.out.ext ea;have h3:(q3C s nm).1=⟨[],[]⟩:=by rw[HGE.out]
   rw[h3] at h1;have h2:=Qq h1 (q3M wa) (⟨Nat.zero_le _,Nat.zero_le _,fun s hs=>by cases hs⟩) (⟨Nat.zero_le _,Nat.zero_le _,fun s hs=>by cases hs⟩);rw[decide_eq_true rfl] at h2;exact h2
  replace q0:=ea.cell q0;replace q1:=ea.cell q1;clear ea HCH HCH1 p0 p1 p2 p3 p4 p5;go_wp2_with (go_at_call 42;refine q_o ?_);refine HSO.out.mono ?_;rintro e wb ⟨rfl,eb⟩;have HXb:=q_h (HXa.out.trans eb);clear eb q0 q1;go_wp2
  first|go_ret|skip
  exact⟨rfl,HXb.out⟩
 | true =>
  have hv0:=hvb.out.symm;have hvn:¬qE s=false:=by rw[hv0];simp
  have HNE:Hid (nmR s=(xY s,0)):=by rw[Hid];unfold nmR;rw[if_neg hvn]
  obtain rfl:z3=0:=by rw[hz3.out,HNE.out]
  have HNS:Hid (Calls Tryz.prog 43 #[.slice A1 n1 c1] w9 (q25 w9 (nmL s.objs))):=V9 (HO.out.ext HX9.out) (by have:=HOS.out.no;omega) (Ym hv0);go_wp2_with (go_at_call 43;refine q_o ?_);refine HNS.out.mono ?_;rintro e wa ⟨va,rfl,hla,ea⟩;obtain⟨Aa,ca,rfl,-⟩:=hla.form;obtain⟨na,hna⟩:=qf (nmL s.objs).length
  have HLa:Hid (qZ wa (.slice Aa na ca) (nmL s.objs)):=by
   have h1:=hla.strs;rw[List.length_map,<-hna.out] at h1;exact h1
  rw[List.length_map,<-hna.out];have HQa:=q_h (ea.block HQ9.out);have HXa:=q_h (HX9.out.trans ea);have HBa:=q_h (ea.block HB9.out);have HOBa:=q_h (HOB9.out.ext ea)
  have HL7a:Hid (qZ wa (.slice A7 n7 c7) (nmL s.objs)):=by
   have h1:=HL79.out.ext ea;rw[HNE.out] at h1;exact h1
  have HL8a:=q_h (HL89.out.ext ea);clear hla ea HQ9 HX9 HB9 HOB9 HL79 HL89 HNS p0 p1 p2 p3 p4 p5 q0 q1;have HCH1:Hid (Calls Tryz.prog 41 #[.agg #[.int .i64 size,.int .i64 seq,.int .i64 half,.int .i64 used,.slice A1 n1 c1,.slice A2 n2 c2]] wa (qH wa (.int .i64 0))):=HCH.out wa HXa.out HOS.out;obtain⟨p0,p1,p2,p3,p4,p5⟩:=qw HBa.out;go_wp2_with (go_at_call 41;refine q_o ?_);refine HCH1.out.mono ?_;rintro e wb ⟨rfl,eb⟩;have HLN:Hid ((nmL s.objs).length<=1000000000):=by rw[Hid];unfold nmL;rw[List.length_map];have:=HOS.out.no;omega
  have HEQ:Hid (Calls Tryz.prog 32 #[.slice A7 n7 c7,.slice Aa na ca] wb (qH wb (.bool true))):=by
   have h1:=q0N (HL7a.out.ext eb) (HLa.out.ext eb) HLN.out HLN.out;rw[decide_eq_true rfl] at h1;exact h1
  have HQb:=q_h (eb.block HQa.out);have HXb:=q_h (HXa.out.trans eb);have HBb:=q_h (eb.block HBa.out);have HOBb:=q_h (HOBa.out.ext eb);have HLb:=q_h (HLa.out.ext eb);have HL8b:=q_h (HL8a.out.ext eb);clear eb HCH HCH1 HQa HXa HBa HOBa HLa HL7a HL8a p0 p1 p2 p3 p4 p5;go_wp2_with (go_at_call 32;refine q_o ?_);refine HEQ.out.mono ?_;rintro e wc ⟨rfl,ec⟩;have HQc:=q_h (ec.block HQb.out);have HXc:=q_h (HXb.out.trans ec);have HBc:=q_h (ec.block HBb.out);have HOBc:=q_h (HOBb.out.ext ec);have HLc:=q_h (HLb.out.ext ec);have HL8c:=q_h (HL8b.out.ext ec);clear ec HEQ HQb HXb HBb HOBb HLb HL8b
  have HIN:Hid (Calls Tryz.prog 44 #[.slice Aa na ca,.string K] wc (qH wc (.int .i64 (ixZ (nmL s.objs) nm)))):=by
   rw[HKV.out];exact q2m HLc.out HLN.out
  obtain⟨zi,hzi⟩:=qf (ixZ (nmL s.objs) nm);rw[<-hzi.out] at HIN;go_wp2_with (go_at_call 44;refine q_o ?_);refine HIN.out.mono ?_;rintro e wd ⟨rfl,ed⟩;have HQd:=q_h (ed.block HQc.out);have HXd:=q_h (HXc.out.trans ed);have HBd:=q_h (ed.block HBc.out);have HOBd:=q_h (HOBc.out.ext ed);have HL8d:=q_h (HL8c.out.ext ed);clear ed HIN HQc HXc HBc HOBc HLc HL8c
  by_cases hneg:zi<0
  ·have u1:decide (zi<0)=true:=q_t hneg
   have HNI:Hid ((xY s).idxOf? nm=none):=by
    cases h2:(xY s).idxOf? nm with
    | none=>rfl
    | some j =>
     exfalso
     have h3:=hzi.out;unfold ixZ at h3;rw[show nmL s.objs=xY s from rfl,h2] at h3;have h4:zi=(j:Int):=h3;omega
   have HNC:Hid ((xY s).contains nm=false):=by
    have h2:=zf (xY s) nm;rw[HNI.out] at h2;exact h2.symm
   have HGE:Hid (q3C s nm=(⟨[],[]⟩,6)):=by rw[Hid];unfold q3C;rw[if_neg hvn,HNI.out]
   have HRE:Hid (q3D s [nm]=([],6)):=by
    rw[Hid];unfold q3D
    rw[if_neg hvn,if_pos (by
     unfold q4l;have h2:=HNC.out;unfold xY at h2
     simp only[List.all_cons,List.all_nil,h2,Bool.false_and])]
   obtain rfl:z1=6:=by rw[hz1.out,HGE.out]
   obtain rfl:z4=6:=by rw[hz4.out,HRE.out]
   obtain rfl:n8=0:=by rw[hn8.out,HRE.out];rfl
   obtain⟨x0,x1,x2,x3,x4,x5⟩:=qw HBd.out
   have HTGT:Hid (Calls Tryz.prog 46 #[.slice A2 n2 c2,.string K2] wd (qH wd (sV (Yj s.tags tag)))):=by
    rw[HKV2.out];have h1:=(HTG.out.ext HXd.out).len.1;exact Y4 (HTG.out.ext HXd.out) (by have:=HOS.out.nt;omega)
   obtain⟨wt,hwt⟩:=qf (bA (Yj s.tags tag));rw[qO,<-hwt.out] at HTGT;have HTE:Hid (KZ s.tags tag=Yj s.tags tag):=q2g (ZJ hv0) tag;have HXT:=q_h HXd.out;go_wp2_with (go_at_call 46;refine q_o ?_);refine HTGT.out.mono ?_;rintro e wz ⟨rfl,ez⟩;have HXZ:=q_h (HXT.out.trans ez);clear ez x0 x1 x2 x3 x4 x5 HTGT
   by_cases h0:Yj s.tags tag=[]
   ·have HFE:Hid (q3s s tag=([],6)):=by rw[Hid];unfold q3s;rw[if_neg hvn,if_pos (by rw[HTE.out];exact h0)]
    obtain rfl:z2=6:=by rw[hz2.out,HFE.out]
    obtain rfl:f2=⟨#[]⟩:=by rw[hf2.out,HFE.out];rfl
    obtain rfl:wt=⟨#[]⟩:=by rw[hwt.out,h0];rfl
    go_wp2
    first|go_ret|skip
    exact⟨rfl,HXZ.out⟩
   ·have HFE:Hid (q3s s tag=(KZ s.tags tag,0)):=by rw[Hid];unfold q3s;rw[if_neg hvn,if_neg (by rw[HTE.out];exact h0)]
    obtain rfl:z2=0:=by rw[hz2.out,HFE.out]
    obtain rfl:f2=wt:=by rw[hf2.out,hwt.out,HFE.out,HTE.out]
    have uw:(f2.toList == [])=false:=by rw[hwt.out,zx];simpa using h0
    go_wp2
    first|go_ret|skip
    exact⟨rfl,HXZ.out⟩
  ·have u1:decide (zi<0)=false:=q_f hneg
   obtain⟨i,hii⟩:∃i,(xY s).idxOf? nm=some i:=by
    cases h2:(xY s).idxOf? nm with
    | some j=>exact⟨j,rfl⟩
    | none =>
     exfalso
     have h3:=hzi.out;unfold ixZ at h3;rw[show nmL s.objs=xY s from rfl,h2] at h3;have h4:zi = -1:=h3;omega
   obtain rfl:zi=(i:Int):=by
    have h3:=hzi.out;unfold ixZ at h3;rw[show nmL s.objs=xY s from rfl,hii] at h3;exact h3
   obtain⟨hil,hnmi⟩:i<s.objs.length/\qM (s.objs.getD i default)=nm:=by
    obtain⟨hj,h3,-⟩:=List.idxOf?_eq_some_iff.1 hii;unfold xY at hj;rw[List.length_map] at hj;have h4:=Ze hj;rw[List.getElem?_eq_getElem (by simpa using hj)] at h4;have h5:=Option.some.inj h4;unfold xY at h3;rw[h5] at h3;exact⟨hj,by simpa using h3⟩
   have HNC:Hid ((xY s).contains nm=true):=by
    have h2:=zf (xY s) nm;rw[hii] at h2;exact h2.symm
   have HGE:Hid (q3C s nm=(s.objs.getD i default,0)):=by rw[Hid];unfold q3C;rw[if_neg hvn,hii]
   have HRE:Hid (q3D s [nm]=(rchS s.objs [nm],0)):=by
    rw[Hid];unfold q3D
    rw[if_neg hvn,if_neg (by
     unfold q4l;have h2:=HNC.out;unfold xY at h2;simp only[List.all_cons,List.all_nil,h2,Bool.and_true]
     simp)]
   obtain rfl:z1=0:=by rw[hz1.out,HGE.out]
   obtain rfl:z4=0:=by rw[hz4.out,HRE.out]
   have HOBe:Hid (ObR wd (.slice A4 n4 c4) (.slice A5 n5 c5) (s.objs.getD i default)):=by
    have h1:=HOBd.out;rw[HGE.out] at h1;exact h1
   have HL8e:Hid (qZ wd (.slice A8 n8 c8) (rchS s.objs [nm])):=by
    have h1:=HL8d.out;rw[HRE.out] at h1;exact h1
   have HRL:Hid ((rchS s.objs [nm]).length<=1000000000):=by
    have h1:=q3x (q3v hv0) (F0:=[nm]) s.objs.length [nm] [] (q_r) (fun y=>⟨.inl,fun h=>h.elim id (fun ⟨j,h1,h2,_⟩=>absurd h2 (by omega))⟩) (fun y=>⟨fun h=>(by cases h),fun ⟨j,h1,h2,_⟩=>absurd h2 (by omega)⟩) List.nodup_nil
    have h2:=q0U h1.1 (l:=s.objs.map qM) (fun y hy=>by
     obtain⟨j,hj,h3,-⟩:=(h1.2 y).1 hy;rw[<-h3]
     exact List.mem_of_getElem? (Ze hj))
    rw[List.length_map] at h2;have:=HOS.out.no;rw[Hid];unfold rchS;rw[XV];omega
   have hn1:n1=s.objs.length:=by obtain⟨A',c',h1,-⟩:=HO.out;exact (Value.slice.inj h1).2.1
   obtain⟨ga,off,rfl,hx⟩:=(HO.out.ext HXd.out).at_ hn1 (by omega);obtain⟨C1,m1,d1,C2,m2,d2,k0,k1,hobr⟩:=hx i (by omega);have HOI:=q_h hobr;have hin:(i:Int)<(n1:Int):=by omega
   have HOKI:=q_h (HOS.out.ob i hil);obtain⟨p0,p1,p2,p3,p4,p5⟩:=qw HBd.out;obtain⟨q0,q1,-⟩:=cells2 HQd.out;clear hx hobr hn1;go_upto_region 18 with (fail);have eC:=(Ext.refl wd).drew;refine ql (fun w'=>w'.cell? ⟨go,0,none⟩=some (.slice A4 n4 c4)/\w'.cell? ⟨go,1,none⟩=some (.slice A5 n5 c5)/\w'.cell? ⟨w.heap.size,0,none⟩=some (.int .i64 size)/\w'.cell? ⟨w.heap.size,1,none⟩=some (.int .i64 seq)/\w'.cell? ⟨w.heap.size,2,none⟩=some (.int .i64 half)/\w'.cell? ⟨w.heap.size,3,none⟩=some (.int .i64 used)/\w'.cell? ⟨w.heap.size,4,none⟩=some (.slice (some ⟨ga,off,none⟩) n1 c1)/\w'.cell? ⟨w.heap.size,5,none⟩=some (.slice A2 n2 c2)/\w'.cell? ⟨ga,off+i*2,none⟩=some (.slice C1 m1 d1)/\w'.cell? ⟨ga,off+i*2+1,none⟩=some (.slice C2 m2 d2)) [] (by kernel_rfl) (by exact⟨eC.cell q0,eC.cell q1,eC.cell p0,eC.cell p1,eC.cell p2,eC.cell p3,eC.cell p4,eC.cell p5,eC.cell k0,eC.cell k1⟩) (fun hHeld=>?_);refine sP 0 (h:=?_);refine sP 1 (h:=?_);refine sP 2 (h:=?_);refine sT 3 (h:=?_);refine sP 4 (h:=?_);refine sT 5 (h:=?_);refine sP 6 (h:=?_);refine sP 7 (h:=?_);refine sT 8 (h:=?_);refine qg (i:=9) rfl (by kernel_rfl) (fun K hK=>?_);rw[if_pos (by rfl)];go_simp;have hso:=Qq (HOBe.out.ext eC) (HOI.out.ext eC) HOKI.out HOKI.out;rw[decide_eq_true rfl] at hso;refine hso.mono ?_;rintro e we ⟨rfl,ee⟩;replace eC:=eC.trans ee;go_wp2_with fail;clear hHeld;refine hK.out _ _ (by exact⟨eC.cell q0,eC.cell q1,eC.cell p0,eC.cell p1,eC.cell p2,eC.cell p3,eC.cell p4,eC.cell p5,eC.cell k0,eC.cell k1⟩) fun hHeld=>?_
   clear hK K;try simp only[nr]
   refine sP 10 (h:=?_);refine sP 11 (h:=?_);refine sP 12 (h:=?_);refine sP 13 (h:=?_);refine sP 14 (h:=?_);refine sP 15 (h:=?_);refine sP 16 (h:=?_);refine sP 17 (h:=?_);refine sT 18 (h:=?_);refine sP 19 (h:=?_);refine qg (i:=20) rfl (by kernel_rfl) (fun K hK=>?_);rw[if_pos (by rfl)];go_simp
   first|refine qo ?_|refine qY ?_
   intro wf ef hszf BX;have hszg:=qK BX;replace eC:=eC.trans ef;clear hHeld;refine hK.out _ _ (by exact⟨eC.cell q0,eC.cell q1,eC.cell p0,eC.cell p1,eC.cell p2,eC.cell p3,eC.cell p4,eC.cell p5,eC.cell k0,eC.cell k1⟩) fun hHeld=>?_
   clear hK K;try simp only[nr]
   refine qg (i:=21) rfl (by kernel_rfl) (fun K hK=>?_);rw[if_pos (by rfl)];go_simp;rw[hsize.out,hseq.out,hhalf.out,hused.out]
   refine (q2I (F:=[nm]) (HO.out.ext (HXd.out.trans eC)) hv0 (by have:=HOS.out.no;omega) (q3R HKV.out BX) (fun q' h=>by
    have h9:=hszg;simp only[Value.ownBlock,Option.some.injEq] at h
    omega) (by show 1<=_;omega)).mono ?_
   rintro e wg ⟨vg,rfl,hlg,eg⟩;obtain⟨Ag,cg,rfl,-⟩:=Qm.form hlg;replace eC:=eC.trans eg;go_wp2_with fail;clear hHeld;refine hK.out _ _ (by exact⟨eC.cell q0,eC.cell q1,eC.cell p0,eC.cell p1,eC.cell p2,eC.cell p3,eC.cell p4,eC.cell p5,eC.cell k0,eC.cell k1⟩) fun hHeld=>?_
   clear hK K;try simp only[nr]
   refine qg (i:=22) rfl (by kernel_rfl) (fun K hK=>?_);rw[if_pos (by rfl)];go_simp;have heq:=q0N (HL8e.out.ext eC) hlg HRL.out HRL.out;rw[decide_eq_true rfl] at heq;refine heq.mono ?_;rintro e wh ⟨rfl,eh⟩;replace eC:=eC.trans eh;go_wp2_with fail;clear hHeld;refine hK.out _ _ (by exact⟨eC.cell q0,eC.cell q1,eC.cell p0,eC.cell p1,eC.cell p2,eC.cell p3,eC.cell p4,eC.cell p5,eC.cell k0,eC.cell k1⟩) fun hHeld=>?_
   clear hK K;try simp only[nr]
   refine sP 23 (h:=?_);refine sP 24 (h:=?_);refine qm (by kernel_rfl) ?_ _;clear hHeld;have HXh:=q_h (HXd.out.trans eC);have HBh:=q_h (eC.block HBd.out);clear eC p0 p1 p2 p3 p4 p5 q0 q1 k0 k1;obtain⟨x0,x1,x2,x3,x4,x5⟩:=qw HBh.out
   have HTGT:Hid (Calls Tryz.prog 46 #[.slice A2 n2 c2,.string K2] wh (qH wh (sV (Yj s.tags tag)))):=by
    rw[HKV2.out];have h1:=(HTG.out.ext HXh.out).len.1;exact Y4 (HTG.out.ext HXh.out) (by have:=HOS.out.nt;omega)
   obtain⟨wt,hwt⟩:=qf (bA (Yj s.tags tag));rw[qO,<-hwt.out] at HTGT;have HTE:Hid (KZ s.tags tag=Yj s.tags tag):=q2g (ZJ hv0) tag;have HXT:=q_h HXh.out;go_wp2_with (go_at_call 46;refine q_o ?_);refine HTGT.out.mono ?_;rintro e wz ⟨rfl,ez⟩;have HXZ:=q_h (HXT.out.trans ez);clear ez x0 x1 x2 x3 x4 x5 HTGT
   by_cases h0:Yj s.tags tag=[]
   ·have HFE:Hid (q3s s tag=([],6)):=by rw[Hid];unfold q3s;rw[if_neg hvn,if_pos (by rw[HTE.out];exact h0)]
    obtain rfl:z2=6:=by rw[hz2.out,HFE.out]
    obtain rfl:f2=⟨#[]⟩:=by rw[hf2.out,HFE.out];rfl
    obtain rfl:wt=⟨#[]⟩:=by rw[hwt.out,h0];rfl
    go_wp2
    first|go_ret|skip
    exact⟨rfl,HXZ.out⟩
   ·have HFE:Hid (q3s s tag=(KZ s.tags tag,0)):=by rw[Hid];unfold q3s;rw[if_neg hvn,if_neg (by rw[HTE.out];exact h0)]
    obtain rfl:z2=0:=by rw[hz2.out,HFE.out]
    obtain rfl:f2=wt:=by rw[hf2.out,hwt.out,HFE.out,HTE.out]
    have uw:(f2.toList == [])=false:=by rw[hwt.out,zx];simpa using h0
    go_wp2
    first|go_ret|skip
    exact⟨rfl,HXZ.out⟩
end
section
open Go.ChangeShapes Go.WideShapes Go.ChangeAt Go.RowKit Go.Joins
theorem q3Q {H:Type}{enc:TypeId×Value->H}{spare:Nat->Bool}{held:Bool}{r:Reach}{b0:Nat}{d:DataW H}{p:List MemPlace}(hv:Value.okWide Tryz.prog w r b0 9 v) (h:DataW.Trod enc Tryz.prog w 0 spare held 9 v d p) (hz:∀k∈d.weights Tryz.prog 9,k<=reachBytes):∃l:Byt,v=sV l/\LnS l:=by
 obtain⟨s,rfl⟩:=okWide_string Tryz.underlying9 hv;obtain⟨fuel,hf⟩:=h;exact q3t (x:=(d,p)) hf hz
theorem q43 (os:Os) (started:os.Started) (H:Type) (enc:TypeId×Value->H) :
  ReturnsInHanded {} Tryz.checked os 7 .any (fun w args=>(Rows.storeShelvesSpec.pre enc Tryz.prog Tryz.f7 [] false w args/\laidMetH Tryz.prog q3O w)/\sizedMet enc Tryz.prog Tryz.f7 (OpenSpec.ofChange Rows.storeShelvesSpec) false w args) (Rows.storeShelvesSpec.post enc Tryz.prog Tryz.f7 false true false false):=by
 refine returnsInHanded_of_change_and (C:=Tryz.checked) (X:=fun w _=>laidMetH Tryz.prog q3O w) (fun _ _ _ hh h=>h.of_heap hh) own started (by kernel_rfl) Tryz.func7
  (ChangeSpec.witness_shaped (enc:=enc) (C:=Tryz.checked) (os:=os) (X:=fun w _=>laidMetH Tryz.prog q3O w) false (World.doorLaid Tryz.prog 86 os) #[.agg #[.int .i64 0,.int .i64 0,.int .i64 0,.int .i64 0,.slice none 0 0,.slice none 0 0],.string ⟨#[]⟩,.string ⟨#[]⟩] 8 rfl (World.shaped_of_RefB (by kernel_rfl) (by kernel_rfl)) (by kernel_rfl) (by kernel_rfl) (by kernel_rfl) (door_met os _)) ?_
 intro W base args ds gs before hval0 hW hcnd hsz hL _;have hval:∀(j:Nat) t v,Tryz.f7.params[j]?=some t->args[j]?=some v->Value.okWide Tryz.prog W .any base t v:=hval0;have hW':=hW;obtain⟨p,q,hA0,hV,rfl,hfz,hnd⟩:=hW;have hA:DataW.TrodAll enc Tryz.prog W 0 (fun _=>true) true Tryz.f7.params.toList args.toList ds p:=hA0;have hpar:=Tryz.params7;rw[hpar] at hA hval hsz;obtain⟨v0,vs0,d0,ds0,p0,q0,hargs,rfl,rfl,h0,r0⟩:=trodAll_cons hA;obtain⟨v1,vs1,d1,ds1,p1,q1,rfl,rfl,rfl,h1,r1⟩:=trodAll_cons r0;obtain⟨v2,vs2,d2,ds2,p2,q2,rfl,rfl,rfl,h2,r2⟩:=trodAll_cons r1;obtain⟨rfl,rfl,rfl⟩:=trodAll_nil r2;obtain rfl:args=#[v0,v1,v2]:=by cases args;simp_all
 obtain⟨rfl,rfl⟩:=trodVars_none hV;have k0:=h0;have lt0:∀x∈p0,x.block<W.heap.size:=by obtain⟨m,hm⟩:=k0;exact DataW.trod_lt m _ _ _ hm
 have k1:=h1;have lt1:∀x∈p1,x.block<W.heap.size:=by obtain⟨m,hm⟩:=k1;exact DataW.trod_lt m _ _ _ hm
 have k2:=h2;have lt2:∀x∈p2,x.block<W.heap.size:=by obtain⟨m,hm⟩:=k2;exact DataW.trod_lt m _ _ _ hm
 obtain⟨s,A1,n1,c1,A2,n2,c2,rfl,hO,hTg,hln⟩:=q4d (hval 0 25 v0 rfl rfl) h0 (fun k hk=>by
  have:=List.all_eq_true.1 hsz k (DataW.weights_mem_each (j:=0) rfl rfl k hk)
  simpa using this)
 obtain⟨l1,rfl,hl1⟩:=q3Q (hval 1 9 v1 rfl rfl) h1 (fun k hk=>by
  have:=List.all_eq_true.1 hsz k (DataW.weights_mem_each (j:=1) rfl rfl k hk)
  simpa using this)
 obtain⟨l2,rfl,hl2⟩:=q3Q (hval 2 9 v2 rfl rfl) h2 (fun k hk=>by
  have:=List.all_eq_true.1 hsz k (DataW.weights_mem_each (j:=2) rfl rfl k hk)
  simpa using this)
 have he:=q3P hL;clear hA0 hval0 hsz;refine (q3w hO hTg he hln hl1 hl2 (fun w' e=>q2J ((he.ext e).low e.size))).mono fun e W' hh=>?_
 obtain⟨rfl,bel⟩:=hh;exact⟨_,rfl,_,_,_,[],_,[],hW',trodAll_mk1 (shut_bool Tryz.underlying4 _),(trodAll_cons_mk (Below.trod laidOut (by kernel_rfl) (of_decide_eq_true (by kernel_rfl)) k0 bel lt0) (trodAll_cons_mk (Below.trod laidOut (by kernel_rfl) (of_decide_eq_true (by kernel_rfl)) k1 bel lt1) (trodAll_cons_mk (Below.trod laidOut (by kernel_rfl) (of_decide_eq_true (by kernel_rfl)) k2 bel lt2) trodAll_mk0))),rfl,bel.below.frame _,fun h=>by cases h⟩
end
end Go.Proofs.YtdeeekdbhhenpaaGreatDoor
