import Derived.Test.YtdeeekdbhhenpaaGreatDoorWc17
import Derived.Deep.Slices
import Derived.Deep.Strs
import Derived.ProofKit
import Derived.OpenShut
import Derived.Below
import Derived.Test.YtdeeekdbhhenpaaGreatDoorRows
import Derived.LaidMore
import Derived.Lib.LaidTab
import Derived.Stop.LaidErr
import Derived.Stop.Joined
import Derived.SizedLaws
set_option linter.all false
set_option maxHeartbeats 8000000
set_option maxRecDepth 100000
namespace Go.Proofs.YtdeeekdbhhenpaaGreatDoor
variable {w w':World} {n k g i base c j:Nat} {A:Option Addr}
section
open Go.RowKit
theorem q4D (s:ByteArray):sV (zU s)=.string s:=rfl
structure Raw where
 b1:Bool
 l1:List Nat
 b2:Bool
 l2:List Nat
end
section
open Go.RowKit Go.ChangeShapes Go.ChangeAt
section
variable {H:Type}{enc:TypeId×Value->H}{w:World}{spare:Nat->Bool}{held:Bool}
instance:Inhabited Raw:=⟨⟨false,[],false,[]⟩⟩
theorem q3B {v:Value}(a:Addr) (h:w.cell? (a.add 0)=some v):a=⟨a.block,a.off,none⟩:=by
 obtain⟨b,off,spot⟩:=a;have hs:=World.cell?_spot h;have h2:spot=none:=by simpa[Addr.add] using hs
 subst h2;rfl
end
theorem own:ownKnob Tryz.prog.godebug=none:=by kernel_rfl
theorem laidOut:laidOutB Tryz.prog=true:=by kernel_rfl
end
end Go.Proofs.YtdeeekdbhhenpaaGreatDoor
set_option maxRecDepth 100000
namespace Go.Proofs.YtdeeekdbhhenpaaGreatDoor
open Go.ChangeShapes Go.WideShapes Go.ChangeAt Go.RowKit Go.Joins
variable {w w':World} {n k g i base c j:Nat} {A:Option Addr}
def q43:List (String×DataW Unit):=[("math/bits.deBruijn32tab",Rows.laid_math_bits_deBruijn32tab),("math/bits.deBruijn64tab",Rows.laid_math_bits_deBruijn64tab),("internal/strconv.uint64pow10",Rows.laid_internal_strconv_uint64pow10),("strconv.ErrRange",Rows.laid_strconv_ErrRange),("strconv.ErrSyntax",Rows.laid_strconv_ErrSyntax),("bytes.ErrTooLarge",Rows.laid_bytes_ErrTooLarge),("fiducial/store.mark",Rows.laid_fiducial_store_mark)]
theorem door_met (os:Os) (args:Array Value):laidMetH Tryz.prog q43 ((World.doorLaid Tryz.prog 86 os).forCall (fun _ _=>0) ⟨#[],args,[]⟩).memory :=
 laidMetH_of_parts3 (fuel:=8) (laidMet_of_run' 8 (by kernel_rfl) (by kernel_rfl)) (by kernel_rfl) (by kernel_rfl)
theorem q4i:(Rows.laid_internal_strconv_uint64pow10:DataW Unit)=Go.Lib.tabData .u64 Go.Lib.pow10Tab:=by kernel_rfl
theorem q4o:Tryz.prog.cellsOf 198=1:=by kernel_rfl
theorem q4g:Tryz.prog.cellsOf 5=1:=by kernel_rfl
theorem q4r:Tryz.prog.cellsOf 298=20:=by kernel_rfl
theorem q4B:Tryz.prog.underlying 298=some (.array 20 198):=by kernel_rfl
theorem g_pow:Tryz.prog.globalNamed "internal/strconv.uint64pow10" = some 3:=by kernel_rfl
theorem t_pow:(Tryz.prog.globals[3]?).map (·.type)=some 298:=by kernel_rfl
theorem q4N:Tryz.prog.globalNamed "fiducial/store.mark" = some 0:=by kernel_rfl
theorem q4M:(Tryz.prog.globals[0]?).map (·.type)=some 27:=by kernel_rfl
theorem q41 {W:World}(h:laidMet Tryz.prog q43 W):kG W:=by
 have h2:=h.tail.tail;rw[q4i] at h2;exact Go.Lib.tabIs_of_head g_pow t_pow q4B Tryz.underlying198 q4o q4r h2
theorem q3X {W:World}(h:laidMet Tryz.prog q43 W):xH W:=by
 obtain⟨ps,⟨g',t',cs,fuel,p,q,hg',ht',hvar,hd,-,-⟩,-⟩:=h.tail.tail.tail.tail.tail.tail;obtain rfl:=Option.some.inj (q4N.symm.trans hg');obtain rfl:=Option.some.inj (q4M.symm.trans ht');have hc:=World.var?_cell hg' hvar 0
 rcases Go.Deep.open_slice1 Tryz.underlying27 q4g hd with ⟨-,hx⟩|⟨a,len,cap,m,n',V,D,Pl,hcs,-,hl,hm,hmm,hxe,hx⟩
 ·cases (congrArg Prod.fst hx)
 ·have hcs0:cs[0]?=some (.slice (some a) len cap):=by
   rw[<-Array.getElem?_toList,hcs]
   rfl
  rw[hcs0] at hc;have hlm:len<=m:=by rw[hmm];split<;>omega
  have hD:=congrArg Prod.fst hxe
  have hD1:([.lit (.int .u8 70),.lit (.int .u8 83),.lit (.int .u8 66),.lit (.int .u8 49)]:List (DataW _))=(List.range len).map D:=by
   injection hD
  have hlen:len=4:=by
   have:=congrArg List.length hD1;simpa using this.symm
  subst hlen
  have hDi:∀i,i<4->D i=([.lit (.int .u8 70),.lit (.int .u8 83),.lit (.int .u8 66),.lit (.int .u8 49)]:List (DataW _)).getD i .nil:=fun i hi=>by
   rw[hD1,List.getD_eq_getElem?_getD,List.getElem?_map,List.getElem?_range hi]
   rfl
  have ha:=q3B a (hx 0 (by omega)).1;refine⟨some a,cap,hc,some a,cap,rfl,hl,hm,fun _=>⟨a.block,a.off,by rw[<-ha],fun i hi=>?_⟩⟩;have hi4:i<4:=hi;obtain⟨k1,k2⟩:=hx i (by omega);obtain⟨z,hz,h3,-⟩:=DataW.trod_int Tryz.underlying5 k2;simp only[List.cons.injEq,and_true] at hz;have h4:=congrArg Prod.fst h3;rw[hDi i hi4] at h4;rw[ha,qW,hz] at k1
  have hz2:z=chZ [70,83,66,49] i:=by
   have:i=0\/i=1\/i=2\/i=3:=by omega
   rcases this with rfl|rfl|rfl|rfl
   ·injection h4 with h4;injection h4 with _ h4;exact h4.symm
   ·injection h4 with h4;injection h4 with _ h4;exact h4.symm
   ·injection h4 with h4;injection h4 with _ h4;exact h4.symm
   ·injection h4 with h4;injection h4 with _ h4;exact h4.symm
  rw[<-hz2];exact k1
theorem q45 {W:World}(h:laidMetH Tryz.prog q43 W):kS W.heap.size W:=by
 rw[MakeChecks.laidMetH_plain _ _ _ (by kernel_rfl)] at h;exact⟨W,q41 h,q3X h,q_r,Ext.refl W⟩
end Go.Proofs.YtdeeekdbhhenpaaGreatDoor
namespace Go.Proofs.YtdeeekdbhhenpaaGreatDoor
open Go.RowKit
variable {w w':World} {n k g i base c j:Nat} {A:Option Addr}
def ObH (base:Nat) (w0 w:World) (v:Value) (L:List Ob):Prop:=∃X Y,qI 29 2 base w v L.length (obX X Y L.length)/\∀j,j<L.length->ObR w0 (X j) (Y j) (L.getD j default)
theorem ObH.form{w0:World}{v:Value}{L:List Ob}(h:ObH base w0 w v L):∃A c,v=.slice A L.length c/\L.length<=c/\c<=maxLen:=by
 obtain⟨X,Y,h1,-⟩:=h
 rcases h1.2.2 with ⟨h4,h5⟩|⟨g,cap,cur,hv,hb,-,h4,h5,-⟩
 ·exact⟨none,0,by rw[h5];exact h4,by omega,Nat.zero_le _⟩
 ·exact⟨_,cap,hv,h4,h5⟩
theorem ObH.obs{w0:World}{v:Value}{L:List Ob}(h:ObH base w0 w v L) (e:Ext w0 w):yJ w v L:=by
 obtain⟨A,c,hv,hnc,hcm⟩:=h.form;obtain⟨X,Y,h1,h2⟩:=h;refine⟨A,c,hv,hnc,hcm,fun h0=>?_⟩;obtain⟨g,cap,hv2,hb,-,-,hcell⟩:=h1.at_ h0;rw[hv] at hv2;injection hv2 with e1 e2 e3
 refine⟨g,0,e1,fun i hi=>?_⟩
 have hc:∀q,q<2->∀u,[X i,Y i][q]?=some u->w.cell? ⟨g,0+i*2+q,none⟩=some u:=fun q hq u hu=>by
  rw[Nat.zero_add];exact hcell _ u ((yC _ _ q hq _ i hi).trans hu)
 exact⟨_,_,hc 0 (by omega) _ rfl,hc 1 (by omega) _ rfl,(h2 i hi).ext e⟩
theorem ObH.snoc{w0:World}{v':Value}{L:List Ob}{o:Ob}{X Y:Nat->Value}{x y:Value}(hE:∀j,j<L.length->ObR w0 (X j) (Y j) (L.getD j default)) (hx:ObR w0 x y o)
  (hG':qI 29 2 base w' v' (L.length+1) (obX X Y L.length ++ [x,y])):ObH base w0 w' v' (L ++ [o]):=by
 refine⟨fun j=>if j=L.length then x else X j,fun j=>if j=L.length then y else Y j,?_,fun j hj=>?_⟩
 ·rw[List.length_append,List.length_singleton,vI]
  show qI _ _ _ _ _ _ (obX (fun j=>if j=L.length then x else X j) (fun j=>if j=L.length then y else Y j) L.length ++ [(if L.length=L.length then x else X L.length),(if L.length=L.length then y else Y L.length)])
  rw[if_pos rfl,if_pos rfl,Kq (X':=X) (Y':=Y) (fun j hj=>⟨by rw[if_neg (by omega)],by rw[if_neg (by omega)]⟩)];exact hG'
 ·rw[List.length_append,List.length_singleton] at hj
  show ObR w0 (if j=L.length then x else X j) (if j=L.length then y else Y j) ((L ++ [o]).getD j default)
  by_cases h:j=L.length
  ·rw[if_pos h,if_pos h,h,List.getD_eq_getElem?_getD,List.getElem?_append_right (q_r),Nat.sub_self];exact hx
  ·rw[if_neg h,if_neg h,List.getD_eq_getElem?_getD,List.getElem?_append_left (by omega),<-List.getD_eq_getElem?_getD];exact hE j (by omega)
theorem q14.ok0 {o:Ob}(h:q14 o=true):Ok0 o:=by
 unfold q14 at h;simp only[Bool.and_eq_true,decide_eq_true_eq,List.all_eq_true] at h;exact⟨by omega,by omega,fun s hs=>by have:=h.2.2 s hs;omega⟩
theorem fewT.ok {t:Tg}(h:fewT t=true):okT t:=by
 unfold fewT at h;have:=of_decide_eq_true h;exact⟨by omega,by omega⟩
theorem fewS.ok {s:Shf}(h:fewS s=true):OkS s:=by
 unfold fewS at h;simp only[Bool.and_eq_true,decide_eq_true_eq,List.all_eq_true] at h;refine⟨fun i hi=>?_,fun i hi=>?_,by omega,by omega⟩
 ·rw[List.getD_eq_getElem?_getD,List.getElem?_eq_getElem hi];exact q14.ok0 (h.2.2.1 _ (List.getElem_mem hi))
 ·rw[List.getD_eq_getElem?_getD,List.getElem?_eq_getElem hi];exact fewT.ok (h.2.2.2 _ (List.getElem_mem hi))
end Go.Proofs.YtdeeekdbhhenpaaGreatDoor
set_option maxRecDepth 100000
namespace Go.Proofs.YtdeeekdbhhenpaaGreatDoor
open Go.ChangeShapes Go.WideShapes Go.ChangeAt Go.RowKit Go.Joins
variable {w w':World} {n k g i base c j:Nat} {A:Option Addr}
theorem q3s {H:Type}{P:Program}{e:TypeId}{k:Nat}{d:DataW H}:∀ {ds:List (DataW H)},d∈ds->k∈d.weights P e->k∈DataW.weightsAll P e ds
 | [],h,_=>by cases h
 | d0 :: r,h,hk=>by
  unfold DataW.weightsAll;rw[List.mem_append]
  rcases List.mem_cons.1 h with rfl|h
  ·exact .inl hk
  ·exact .inr (q3s h hk)
theorem q40:Tryz.prog.cellsOf 9=1:=by kernel_rfl
theorem q4c:Tryz.prog.cellsOf 26=1:=by kernel_rfl
theorem q4t:Tryz.prog.cellsOf 5=1:=by kernel_rfl
theorem q4f:Tryz.prog.cellsOf 27=1:=by kernel_rfl
theorem q4s:Tryz.prog.cellsOf 29=2:=by kernel_rfl
theorem q4d:Tryz.prog.cellsOf 22=1:=by kernel_rfl
theorem q4p:Tryz.prog.cellsOf 86=2:=by kernel_rfl
theorem q4b:Tryz.prog.cellsOf 23=1:=by kernel_rfl
theorem q4q:Tryz.prog.cellsOf 25=6:=by kernel_rfl
theorem q4e:Tryz.prog.cellsOf 3=1:=by kernel_rfl
section
variable {H:Type}{enc:TypeId×Value->H}{w:World}{spare:Nat->Bool}{held:Bool}
theorem q3u{v:Value}{x:DataW H×List MemPlace}(h:DataW.trod enc Tryz.prog w 0 spare held n 9 [v]=some x) (hz:∀k∈x.1.weights Tryz.prog 9,k<=reachBytes):∃l:Byt,v=sV l/\LnS l:=by
 obtain⟨s,h1,rfl,-⟩:=DataW.trod_string Tryz.underlying9 h;simp only[List.cons.injEq,and_true] at h1;refine⟨zU s,by rw[q4D];exact h1,?_⟩;have h9:=hz s.data.toList.length (by simp[DataW.weights]);unfold LnS zU;unfold reachBytes at h9;omega
theorem q4h{v:Value}{x:DataW H×List MemPlace}(h:DataW.trod enc Tryz.prog w 0 spare held n 27 [v]=some x):∃l,ByV w v l:=by
 rcases Go.Deep.open_slice1 Tryz.underlying27 q4t h with ⟨hcs,-⟩|⟨a,len,cap,m,n',V,D,Pl,hcs,-,hl,hm,hmm,-,hx⟩
 ·simp only[List.cons.injEq,and_true] at hcs;rw[hcs];exact⟨[],none,0,rfl,q_r,Nat.zero_le _,fun h0=>absurd h0 (Nat.lt_irrefl 0)⟩
 ·simp only[List.cons.injEq,and_true] at hcs;rw[hcs];have hlm:len<=m:=by rw[hmm];split<;>omega
  have hv:∀i,i<len->∃z:Int,V i=.int .u8 z/\0<=z/\z<=255:=fun i hi=>by
   obtain⟨-,h2⟩:=hx i (by omega);obtain⟨z,hz,h3,h4⟩:=DataW.trod_int Tryz.underlying5 h2;simp only[List.cons.injEq,and_true] at hz;simp only[Lit.wf,Bool.and_eq_true,decide_eq_true_eq] at h4;exact⟨z,hz,h4⟩
  obtain⟨f,hf⟩:=Go.Deep.choose_lt (α:=Int) hv;refine⟨(List.range len).map fun i=>UInt8.ofNat (f i).toNat,_,cap,by rw[List.length_map,List.length_range],by rw[List.length_map,List.length_range];exact hl,hm,fun h0=>?_⟩;rw[List.length_map,List.length_range] at h0;have h1:=(hx 0 (by omega)).1;have ha:=q3B a h1;refine⟨a.block,a.off,by rw[<-ha],fun i hi=>?_⟩;rw[List.length_map,List.length_range] at hi;have h2:=(hx i (by omega)).1;rw[ha,qW,(hf i hi).1] at h2
  have e1:chZ ((List.range len).map fun i=>UInt8.ofNat (f i).toNat) i=f i:=by
   unfold chZ;rw[List.getD_eq_getElem?_getD,List.getElem?_map,List.getElem?_range hi];exact kT (hf i hi).2.1 (by have:=(hf i hi).2.2;omega)
  rw[e1];exact h2
theorem q3N{v:Value}{x:DataW H×List MemPlace}(h:DataW.trod enc Tryz.prog w 0 spare held n 26 [v]=some x) (hz:∀k∈x.1.weights Tryz.prog 26,k<=reachBytes):∃l,qZ w v l/\∀s∈l,LnS s:=by
 rcases Go.Deep.open_slice1 Tryz.underlying26 q40 h with ⟨hcs,-⟩|⟨a,len,cap,m,n',V,D,Pl,hcs,-,hl,hm,hmm,hxe,hx⟩
 ·simp only[List.cons.injEq,and_true] at hcs;rw[hcs];exact⟨[],⟨none,0,rfl,q_r,Nat.zero_le _,fun h0=>absurd h0 (Nat.lt_irrefl 0)⟩,fun s hs=>by cases hs⟩
 ·simp only[List.cons.injEq,and_true] at hcs;rw[hcs];have hlm:len<=m:=by rw[hmm];split<;>omega
  have hv:∀i,i<len->∃l:Byt,V i=sV l/\LnS l:=fun i hi=>by
   obtain⟨-,h2⟩:=hx i (by omega)
   exact q3u h2 (fun k hk=>hz k (by
    rw[hxe];simp only[DataW.weights,Tryz.underlying26,List.mem_cons,List.mem_append]
    exact .inr (.inl (q3s (List.mem_map.2 ⟨i,List.mem_range.2 hi,rfl⟩) hk))))
  obtain⟨f,hf⟩:=Go.Deep.choose_lt (α:=Byt) hv;have hle:((List.range len).map f).length=len:=by rw[List.length_map,List.length_range]
  refine⟨(List.range len).map f,⟨_,cap,by rw[hle],by rw[hle];exact hl,hm,fun h0=>?_⟩,fun s hs=>?_⟩
  ·rw[hle] at h0;have h1:=(hx 0 (by omega)).1;have ha:=q3B a h1;refine⟨a.block,a.off,by rw[<-ha],fun i hi=>?_⟩;rw[hle] at hi;have h2:=(hx i (by omega)).1;rw[ha,qW] at h2;refine⟨_,h2,?_⟩
   show V i=sV (((List.range len).map f).getD i [])
   rw[List.getD_eq_getElem?_getD,List.getElem?_map,List.getElem?_range hi];exact (hf i hi).1
  ·obtain⟨i,hi,rfl⟩:=List.mem_map.1 hs;exact (hf i (List.mem_range.1 hi)).2
theorem q3W{c0 c1:Value}{x:DataW H×List MemPlace}(h:DataW.trod enc Tryz.prog w 0 spare held n 29 [c0,c1]=some x) (hz:∀k∈x.1.weights Tryz.prog 29,k<=reachBytes):∃o:Ob,ObR w c0 c1 o/\∀s∈o.links,LnS s:=by
 obtain⟨y0,y1,n1,rfl,-,h0,h1⟩:=trod_struct2 Tryz.underlying29 h;simp only[q4c,q4f,List.drop_zero,List.take_succ_cons,List.take_zero,List.drop_succ_cons] at h0 h1;obtain⟨l,h2,h3⟩:=q3N h0 (fun k hk=>hz k (by simp[DataW.weights,DataW.weightsEach,Tryz.underlying29,hk]));obtain⟨d,h4⟩:=q4h h1;exact⟨⟨l,d⟩,⟨h2,h4⟩,h3⟩
theorem q3T{c0 c1:Value}{x:DataW H×List MemPlace}(h:DataW.trod enc Tryz.prog w 0 spare held n 86 [c0,c1]=some x) (hz:∀k∈x.1.weights Tryz.prog 86,k<=reachBytes):∃t:Tg,c0=sV t.name/\c1=sV t.target/\LnS t.name/\LnS t.target:=by
 obtain⟨y0,y1,n1,rfl,-,h0,h1⟩:=trod_struct2 Tryz.underlying86 h;simp only[q40,List.drop_zero,List.take_succ_cons,List.take_zero,List.drop_succ_cons] at h0 h1;obtain⟨a,h2,h3⟩:=q3u h0 (fun k hk=>hz k (by simp[DataW.weights,DataW.weightsEach,Tryz.underlying86,hk]));obtain⟨b,h4,h5⟩:=q3u h1 (fun k hk=>hz k (by simp[DataW.weights,DataW.weightsEach,Tryz.underlying86,hk]));exact⟨⟨a,b⟩,h2,h4,h3,h5⟩
theorem q3R {B O:Nat}{cs:List Value}(h:w.cells? 0 ((⟨B,O,none⟩:Addr).add (i*2)) 2=some cs):∃c0 c1,cs=[c0,c1]/\w.cell? ⟨B,O+i*2,none⟩=some c0/\w.cell? ⟨B,O+i*2+1,none⟩=some c1:=by
 obtain⟨-,hlen,hc⟩:=World.cells?_some h
 match cs,hlen with
 | [c0,c1],_ =>
  have k0:=hc 0 (by omega);have k1:=hc 1 (by omega);rw[qW,qW] at k0 k1;exact⟨c0,c1,rfl,k0,k1⟩
theorem q3K {a:Addr}{cs:List Value}(h:w.cells? 0 (a.add (0*2)) 2=some cs):a=⟨a.block,a.off,none⟩:=by
 obtain⟨-,hlen,hc⟩:=World.cells?_some h;have k0:=hc 0 (by omega);have hz:(a.add (0*2)).add 0=a.add 0:=by rw[Go.Deep.add_add]
 rw[hz,List.getElem?_eq_getElem (by omega)] at k0;exact q3B a k0
theorem q3V{v:Value}{x:DataW H×List MemPlace}(h:DataW.trod enc Tryz.prog w 0 spare held n 22 [v]=some x) (hz:∀k∈x.1.weights Tryz.prog 22,k<=reachBytes):∃L,yJ w v L/\∀i,i<L.length->∀l∈(L.getD i default).links,LnS l:=by
 rcases Go.Deep.open_slice Tryz.underlying22 h with ⟨hcs,-⟩|⟨a,len,cap,m,n',D,Pl,hcs,-,hl,hm,hmm,hxe,hx⟩
 ·simp only[List.cons.injEq,and_true] at hcs;rw[hcs];exact⟨[],⟨none,0,rfl,q_r,Nat.zero_le _,fun h0=>absurd h0 (Nat.lt_irrefl 0)⟩,fun i hi=>absurd hi (Nat.not_lt_zero i)⟩
 ·simp only[List.cons.injEq,and_true] at hcs;rw[hcs];have hlm:len<=m:=by rw[hmm];split<;>omega
  rw[q4s] at hx
  rcases Nat.eq_zero_or_pos len with h0|h0
  ·subst h0;exact⟨[],⟨_,_,rfl,hl,hm,fun h0=>absurd h0 (Nat.lt_irrefl 0)⟩,fun i hi=>absurd hi (Nat.not_lt_zero i)⟩
  obtain⟨cs0,hc0,-⟩:=hx 0 (by omega);have ha:=q3K hc0
  have hv:∀i,i<len->∃o:Ob,(∃x y,w.cell? ⟨a.block,a.off+i*2,none⟩=some x/\w.cell? ⟨a.block,a.off+i*2+1,none⟩=some y/\ObR w x y o)/\∀s∈o.links,LnS s:=fun i hi=>by
   obtain⟨cs,h1,h2⟩:=hx i (by omega);rw[ha] at h1;obtain⟨c0,c1,rfl,k0,k1⟩:=q3R h1
   obtain⟨o,h3,h4⟩:=q3W h2 (fun k hk=>hz k (by
    rw[hxe];simp only[DataW.weights,Tryz.underlying22,List.mem_cons,List.mem_append]
    exact .inr (.inl (q3s (List.mem_map.2 ⟨i,List.mem_range.2 hi,rfl⟩) hk))))
   exact⟨o,⟨c0,c1,k0,k1,h3⟩,h4⟩
  obtain⟨f,hf⟩:=Go.Deep.choose_lt (α:=Ob) hv;have hle:((List.range len).map f).length=len:=by rw[List.length_map,List.length_range]
  have hgd:∀i,i<len->((List.range len).map f).getD i default=f i:=fun i hi=>by
   rw[List.getD_eq_getElem?_getD,List.getElem?_map,List.getElem?_range hi]
   rfl
  refine⟨(List.range len).map f,⟨_,cap,by rw[hle],by rw[hle];exact hl,hm,fun _=>?_⟩,fun i hi=>?_⟩
  ·refine⟨a.block,a.off,by rw[<-ha],fun i hi=>?_⟩;rw[hle] at hi;obtain⟨x,y,k0,k1,k2⟩:=(hf i hi).1;refine⟨x,y,k0,k1,?_⟩
   show ObR w x y (((List.range len).map f).getD i default)
   rw[hgd i hi];exact k2
  ·rw[hle] at hi;rw[hgd i hi];exact (hf i hi).2
theorem q3S{v:Value}{x:DataW H×List MemPlace}(h:DataW.trod enc Tryz.prog w 0 spare held n 23 [v]=some x) (hz:∀k∈x.1.weights Tryz.prog 23,k<=reachBytes):∃L,jK w v L/\∀i,i<L.length->LnS (L.getD i default).name/\LnS (L.getD i default).target:=by
 rcases Go.Deep.open_slice Tryz.underlying23 h with ⟨hcs,-⟩|⟨a,len,cap,m,n',D,Pl,hcs,-,hl,hm,hmm,hxe,hx⟩
 ·simp only[List.cons.injEq,and_true] at hcs;rw[hcs];exact⟨[],⟨none,0,rfl,q_r,Nat.zero_le _,fun h0=>absurd h0 (Nat.lt_irrefl 0)⟩,fun i hi=>absurd hi (Nat.not_lt_zero i)⟩
 ·simp only[List.cons.injEq,and_true] at hcs;rw[hcs];have hlm:len<=m:=by rw[hmm];split<;>omega
  rw[q4p] at hx
  rcases Nat.eq_zero_or_pos len with h0|h0
  ·subst h0;exact⟨[],⟨_,_,rfl,hl,hm,fun h0=>absurd h0 (Nat.lt_irrefl 0)⟩,fun i hi=>absurd hi (Nat.not_lt_zero i)⟩
  obtain⟨cs0,hc0,-⟩:=hx 0 (by omega);have ha:=q3K hc0
  have hv:∀i,i<len->∃o:Tg,(w.cell? ⟨a.block,a.off+i*2,none⟩=some (sV o.name)/\w.cell? ⟨a.block,a.off+i*2+1,none⟩=some (sV o.target))/\LnS o.name/\LnS o.target:=fun i hi=>by
   obtain⟨cs,h1,h2⟩:=hx i (by omega);rw[ha] at h1;obtain⟨c0,c1,rfl,k0,k1⟩:=q3R h1
   obtain⟨o,h3,h4,h5,h6⟩:=q3T h2 (fun k hk=>hz k (by
    rw[hxe];simp only[DataW.weights,Tryz.underlying23,List.mem_cons,List.mem_append]
    exact .inr (.inl (q3s (List.mem_map.2 ⟨i,List.mem_range.2 hi,rfl⟩) hk))))
   exact⟨o,⟨by rw[<-h3];exact k0,by rw[<-h4];exact k1⟩,h5,h6⟩
  obtain⟨f,hf⟩:=Go.Deep.choose_lt (α:=Tg) hv;have hle:((List.range len).map f).length=len:=by rw[List.length_map,List.length_range]
  have hgd:∀i,i<len->((List.range len).map f).getD i default=f i:=fun i hi=>by
   rw[List.getD_eq_getElem?_getD,List.getElem?_map,List.getElem?_range hi]
   rfl
  refine⟨(List.range len).map f,⟨_,cap,by rw[hle],by rw[hle];exact hl,hm,fun _=>?_⟩,fun i hi=>?_⟩
  ·refine⟨a.block,a.off,by rw[<-ha],fun i hi=>?_⟩;rw[hle] at hi;obtain⟨k0,k1⟩:=(hf i hi).1;refine⟨_,_,k0,k1,?_⟩
   show sV (f i).name=sV (((List.range len).map f).getD i default).name/\sV (f i).target=sV (((List.range len).map f).getD i default).target
   rw[hgd i hi];exact⟨rfl,rfl⟩
  ·rw[hle] at hi;rw[hgd i hi];exact (hf i hi).2
theorem q4L {α:Type}{cs:Array α}(h:cs.size=6):∃c0 c1 c2 c3 c4 c5,cs=#[c0,c1,c2,c3,c4,c5]:=by
 obtain⟨l⟩:=cs
 match l,h with
 | [c0,c1,c2,c3,c4,c5],_=>exact⟨c0,c1,c2,c3,c4,c5,rfl⟩
theorem q4x {r:Reach}{b0:Nat}{v:Value}{d:DataW H}{p:List MemPlace}(hv:Value.okWide Tryz.prog w r b0 25 v) (h:DataW.Trod enc Tryz.prog w 0 spare held 25 v d p) (hz:∀k∈d.weights Tryz.prog 25,k<=reachBytes) :
  ∃(s:Shf) (A1:Option Addr) (n1 c1:Nat) (A2:Option Addr) (n2 c2:Nat),v=.agg #[.int .i64 s.size,.int .i64 s.seq,.int .i64 s.half,.int .i64 s.used,.slice A1 n1 c1,.slice A2 n2 c2]/\yJ w (.slice A1 n1 c1) s.objs/\jK w (.slice A2 n2 c2) s.tags/\LnSh s:=by
 obtain⟨cs,rfl,hsz⟩:=okWide_struct Tryz.underlying25 hv;obtain⟨c0,c1,c2,c3,c4,c5,rfl⟩:=q4L (hsz.trans q4q);obtain⟨fuel,hf⟩:=h;obtain⟨xs,n,-,hxe,-,hlen,hq⟩:=DataW.trod_struct Tryz.underlying25 hf
 match xs,hlen with
 | [y0,y1,y2,y3,y4,y5],_ =>
  have h0:DataW.trod enc Tryz.prog w 0 spare held n 3 (List.take (Tryz.prog.cellsOf 3) (List.drop 0 [c0,c1,c2,c3,c4,c5]))=some y0:=hq 0 _ rfl;have h1:DataW.trod enc Tryz.prog w 0 spare held n 3 (List.take (Tryz.prog.cellsOf 3) (List.drop 1 [c0,c1,c2,c3,c4,c5]))=some y1:=hq 1 _ rfl;have h2:DataW.trod enc Tryz.prog w 0 spare held n 3 (List.take (Tryz.prog.cellsOf 3) (List.drop 2 [c0,c1,c2,c3,c4,c5]))=some y2:=hq 2 _ rfl;have h3:DataW.trod enc Tryz.prog w 0 spare held n 3 (List.take (Tryz.prog.cellsOf 3) (List.drop 3 [c0,c1,c2,c3,c4,c5]))=some y3:=hq 3 _ rfl;have h4:DataW.trod enc Tryz.prog w 0 spare held n 22 (List.take (Tryz.prog.cellsOf 22) (List.drop 4 [c0,c1,c2,c3,c4,c5]))=some y4:=hq 4 _ rfl;have h5:DataW.trod enc Tryz.prog w 0 spare held n 23 (List.take (Tryz.prog.cellsOf 23) (List.drop 5 [c0,c1,c2,c3,c4,c5]))=some y5:=hq 5 _ rfl;simp only[q4e,q4d,q4b,List.drop_zero,List.take_succ_cons,List.take_zero,List.drop_succ_cons] at h0 h1 h2 h3 h4 h5;simp only[Prod.mk.injEq] at hxe;obtain⟨rfl,rfl⟩:=hxe;obtain⟨z0,e0,-⟩:=DataW.trod_int Tryz.underlying3 h0;obtain⟨z1,e1,-⟩:=DataW.trod_int Tryz.underlying3 h1;obtain⟨z2,e2,-⟩:=DataW.trod_int Tryz.underlying3 h2;obtain⟨z3,e3,-⟩:=DataW.trod_int Tryz.underlying3 h3;obtain⟨L,h6,h7⟩:=q3V h4 (fun k hk=>hz k (by simp[DataW.weights,DataW.weightsEach,Tryz.underlying25,hk]));obtain⟨T,h8,h9⟩:=q3S h5 (fun k hk=>hz k (by simp[DataW.weights,DataW.weightsEach,Tryz.underlying25,hk]))
  obtain⟨A1,k1,rfl,-⟩:=h6.form;obtain⟨A2,k2,rfl,-⟩:=h8.form;simp only[List.cons.injEq,and_true] at e0 e1 e2 e3;subst e0 e1 e2 e3;exact⟨⟨z0,z1,z2,z3,L,T⟩,A1,_,k1,A2,_,k2,rfl,h6,h8,h7,h9⟩
end
end Go.Proofs.YtdeeekdbhhenpaaGreatDoor
namespace Go.Proofs.YtdeeekdbhhenpaaGreatDoor
open Go.RowKit
variable {w w':World} {n k g i base c j:Nat} {A:Option Addr}
theorem q4y {L:List Tg}{k t:Byt}(hc:xB L k<=L.length):(yw L k t).length<=L.length+1:=by
 unfold yw
 split
 ·split
  ·rw[List.length_append,List.length_take,List.length_drop];omega
  ·rw[List.length_append,List.length_cons,List.length_take,List.length_drop];omega
 ·rw[List.length_append,List.length_cons,List.length_take,List.length_drop];omega
theorem VZ.v {r:Shf×List qX×Int}{e:Ending}(h:VZ r w e w'):q18 r w e w':=by
 obtain⟨sv,av,h1,h2,h3,h4⟩:=h;exact⟨sv,av,h1,h2.shf,h3,h4⟩
theorem q4k {L:List Ob}(h:wV [] L=true):q1e L:=by
 have hA:=fun j hj=>Z5 h j hj
 constructor
 ·rw[List.nodup_iff_pairwise_ne,List.pairwise_iff_getElem];intro i j hi hj hij e;rw[List.length_map] at hi hj;have h1:=hA j hj;unfold jy at h1;rw[Bool.and_eq_true,Bool.and_eq_true] at h1;have h2:=h1.2.1;rw[List.nil_append] at h2;simp only[Bool.not_eq_true',List.contains_eq_mem,decide_eq_false_iff_not] at h2;refine h2 (List.mem_map.2 ⟨L[i],List.mem_take_iff_getElem.2 ⟨i,by omega,rfl⟩,?_⟩);rw[List.getElem_map,List.getElem_map] at e;rw[e,List.getD_eq_getElem?_getD,List.getElem?_eq_getElem hj]
  rfl
 ·intro j hj l hl;have h1:=hA j hj;unfold jy at h1;rw[Bool.and_eq_true,Bool.and_eq_true] at h1;have h2:=List.all_eq_true.1 h1.2.2 l hl;rw[List.nil_append] at h2;simp only[List.contains_eq_mem,decide_eq_true_eq] at h2;obtain⟨o,ho,rfl⟩:=List.mem_map.1 h2;obtain⟨i,hi,rfl⟩:=List.mem_take_iff_getElem.1 ho;refine⟨i,by omega,?_⟩;rw[List.getD_eq_getElem?_getD,List.getElem?_eq_getElem (by omega)]
  rfl
theorem q3v {s:Shf}(h:qE s=true):q1e s.objs:=by
 unfold qE at h;rw[Bool.and_eq_true,Bool.and_eq_true] at h;exact q4k h.2.1
theorem q3C {L:List Ob}(h:q1e L){F0:List Byt}:∀(i:Nat) (F out:List Byt),i<=L.length->(∀y,y∈F↔y∈F0\/∃j,i<=j/\j<L.length/\Rch L F0 (qM (L.getD j default))/\y∈(L.getD j default).links)->(∀y,y∈out↔∃j,i<=j/\j<L.length/\qM (L.getD j default)=y/\Rch L F0 y)->out.Nodup ->
  (JY L i F out).Nodup/\∀y,y∈JY L i F out↔∃j,j<L.length/\qM (L.getD j default)=y/\Rch L F0 y
 | 0,F,out,_,_,ho,hn=>⟨hn,fun y=>by
  show y∈out↔_
  rw[ho]
  exact⟨fun ⟨j,_,h⟩=>⟨j,h⟩,fun ⟨j,h⟩=>⟨j,Nat.zero_le _,h⟩⟩⟩
 | i+1,F,out,hi,hF,ho,hn=>by
  have hin:qM (L.getD i default)∈F↔Rch L F0 (qM (L.getD i default)):=by
   rw[hF]
   constructor
   ·rintro (h1|⟨j,h1,h2,h3,h4⟩)
    ·exact .base h1
    ·exact .step h3 (by rw[h.lnk h2];exact h4)
   ·intro h1;cases h1 with
    | base h2=>exact .inl h2
    | step h2 h3 =>
     obtain⟨j,hj,rfl,h4⟩:=Y0 h3;obtain⟨q,hq,e⟩:=h.lk j hj _ h4;have:q=i:=h.inj (by omega) (by omega) e;exact .inr ⟨j,by omega,hj,h2,h4⟩
  show (if qM (L.getD i default)∈F then JY L i (F++(L.getD i default).links) (out ++ [qM (L.getD i default)]) else JY L i F out).Nodup/\∀y,y∈(if qM (L.getD i default)∈F then JY L i (F++(L.getD i default).links) (out ++ [qM (L.getD i default)]) else JY L i F out)↔_
  by_cases hm:qM (L.getD i default)∈F
  ·rw[if_pos hm];have hr:=hin.1 hm;refine q3C h i _ _ (by omega) (fun y=>?_) (fun y=>?_) ?_
   ·rw[List.mem_append,hF]
    constructor
    ·rintro ((h1|⟨j,h1,h2⟩)|h1)
     ·exact .inl h1
     ·exact .inr ⟨j,by omega,h2⟩
     ·exact .inr ⟨i,Nat.le_refl i,by omega,hr,h1⟩
    ·rintro (h1|⟨j,h1,h2,h3,h4⟩)
     ·exact .inl (.inl h1)
     ·by_cases hji:j=i
      ·subst hji;exact .inr h4
      ·exact .inl (.inr ⟨j,by omega,h2,h3,h4⟩)
   ·rw[List.mem_append,ho,List.mem_singleton]
    constructor
    ·rintro (⟨j,h1,h2⟩|rfl)
     ·exact⟨j,by omega,h2⟩
     ·exact⟨i,Nat.le_refl i,by omega,rfl,hr⟩
    ·rintro⟨j,h1,h2,h3,h4⟩
     by_cases hji:j=i
     ·subst hji;exact .inr h3.symm
     ·exact .inl ⟨j,by omega,h2,h3,h4⟩
   ·refine List.nodup_append.2 ⟨hn,by simp,fun a ha b hb e=>?_⟩;rw[List.mem_singleton] at hb;obtain⟨j,h1,h2,h3,-⟩:=(ho a).1 ha;have:=h.inj h2 (by omega) (h3.trans (e.trans hb));omega
  ·rw[if_neg hm];refine q3C h i _ _ (by omega) (fun y=>?_) (fun y=>?_) hn
   ·rw[hF];refine or_congr Iff.rfl ⟨fun ⟨j,h1,h2⟩=>⟨j,by omega,h2⟩,fun ⟨j,h1,h2,h3,h4⟩=>?_⟩
    by_cases hji:j=i
    ·subst hji;exact absurd (hin.2 h3) hm
    ·exact⟨j,by omega,h2,h3,h4⟩
   ·rw[ho];refine⟨fun ⟨j,h1,h2⟩=>⟨j,by omega,h2⟩,fun ⟨j,h1,h2,h3,h4⟩=>?_⟩
    by_cases hji:j=i
    ·subst hji;rw[<-h3] at h4;exact absurd (hin.2 h4) hm
    ·exact⟨j,by omega,h2,h3,h4⟩
theorem q4E {L:List Ob}(h:q1e L){F S:List Byt}(hF:∀y∈F,∃j,j<L.length/\qM (L.getD j default)=y) (hn:S.Nodup) (h1:∀y∈F,y∈S) (h2:∀y∈S,Rch L F y) (h3:∀y∈S,∀l∈vw L y,l∈S):Qk S=rchS L F:=by
 obtain⟨g1,g2⟩:=q3C h (F0:=F) L.length F [] (q_r) (fun y=>⟨.inl,fun h=>h.elim id (fun ⟨j,h1,h2,_⟩=>absurd h2 (by omega))⟩) (fun y=>⟨fun h=>(by cases h),fun ⟨j,h1,h2,_⟩=>absurd h2 (by omega)⟩) List.nodup_nil
 have hst:∀y,Rch L F y->∃j,j<L.length/\qM (L.getD j default)=y:=fun y hy=>by
  cases hy with
  | base h=>exact hF y h
  | step ha hb =>
   obtain⟨j,hj,-,hl⟩:=Y0 hb;obtain⟨i,hi,e⟩:=h.lk j hj _ hl;exact⟨i,by omega,e⟩
 refine mergeSort_of_perm ((List.perm_ext_iff_of_nodup hn g1).2 fun y=>?_);rw[g2]
 constructor
 ·intro hy;obtain⟨j,hj,e⟩:=hst y (h2 y hy);exact⟨j,hj,e,h2 y hy⟩
 ·rintro⟨-,-,-,hy⟩
  induction hy with
  | base h=>exact h1 _ h
  | step ha hb ih=>exact h3 _ ih _ hb
theorem q3t {α:Type}{d:α}(a b:List α) (j:Nat):(j<a.length->(a++b).getD j d=a.getD j d)/\(a++b).getD (a.length+j) d=b.getD j d:=by
 refine⟨fun h=>?_,?_⟩
 ·rw[List.getD_eq_getElem?_getD,List.getD_eq_getElem?_getD,List.getElem?_append_left h]
 ·rw[List.getD_eq_getElem?_getD,List.getD_eq_getElem?_getD,List.getElem?_append_right (by omega),Nat.add_sub_cancel_left]
def wrE (p:Int) (e:Byt):List qX:=(List.range (pgN e)).map fun (j:Nat)=>(⟨p+j,pgE e j,false⟩:qX)
def sumP (l:List Byt):Nat:=(l.map pgN).sum
def wrL (p:Int):List Byt->List qX
 | []=>[]
 | e :: l=>wrE p e++wrL (p+pgN e) l
theorem q3y (e:Byt) (l:List Byt):sumP (e :: l)=pgN e+sumP l:=by unfold sumP;rw[List.map_cons,List.sum_cons]
theorem q3A (a b:List Byt):sumP (a++b)=sumP a+sumP b:=by unfold sumP;rw[List.map_append,List.sum_append]
theorem q3D (e:Byt):sumP [e]=pgN e:=by unfold sumP;simp
theorem q3M (p:Int) (e:Byt):(wrE p e).length=pgN e:=by unfold wrE;rw[List.length_map,List.length_range]
theorem q3r:∀(l:List Byt) (p:Int),(wrL p l).length=sumP l
 | [],_=>rfl
 | e :: l,p=>by
  show (wrE p e++wrL (p+pgN e) l).length=_
  rw[List.length_append,q3M,q3r l,q3y]
theorem q3L (e:Byt):∀(l:List Byt) (p:Int),wrL p (l ++ [e])=wrL p l++wrE (p+(sumP l:Int)) e
 | [],p=>by
  show wrE p e ++ []=[]++wrE (p+0) e
  rw[List.append_nil,List.nil_append,Int.add_zero]
 | x :: l,p=>by
  show wrE p x++wrL (p+pgN x) (l ++ [e])=(wrE p x++wrL (p+pgN x) l)++_
  rw[q3L e l,List.append_assoc,q3y]
  congr 3
  push_cast
  omega
theorem q47 (p:Int) (e:Byt)(h:j<pgN e):(wrE p e).getD j default=⟨p+j,pgE e j,false⟩:=by
 unfold wrE;rw[List.getD_eq_getElem?_getD,List.getElem?_map,List.getElem?_range h]
 rfl
theorem q3E:∀(l:List Byt) (p:Int),((List.range (sumP l)).map fun (i:Nat)=>(⟨p+i,(l.flatMap ZF).getD i [],false⟩:qX))=wrL p l
 | [],_=>rfl
 | e :: l,p=>by
  rw[q3y,List.range_add,List.map_append,List.map_map]
  show _=wrE p e++wrL (p+pgN e) l
  rw[<-q3E l,List.flatMap_cons]
  congr 1
  ·unfold wrE;refine List.map_congr_left fun j hj=>?_
   have hj':j<pgN e:=List.mem_range.1 hj;rw[(q3t (ZF e) (l.flatMap ZF) j).1 (by rw[jk];exact hj'),Zg e hj']
  ·refine List.map_congr_left fun j hj=>?_
   show (⟨p+((pgN e+j:Nat):Int),(ZF e++l.flatMap ZF).getD (pgN e+j) [],false⟩:qX)=_
   have h1:=(q3t (d:=([]:Byt)) (ZF e) (l.flatMap ZF) j).2;rw[jk] at h1;rw[h1]
   congr 1
   push_cast
   omega
theorem q3w (l:List Byt):(l.flatMap ZF).length=sumP l:=by
 induction l with
 | nil=>rfl
 | cons e l ih=>rw[List.flatMap_cons,List.length_append,jk,ih,q3y]
def tgs (s:Shf):List Byt:=s.tags.map (·.target)
def q3Y (s:Shf):List Byt:=rchS s.objs (tgs s)
def kpO (s:Shf) (o:Ob):Bool:=(q3Y s).contains (qM o)
def q4n (s:Shf):List Ob:=s.objs.filter (kpO s)
def q3x (s:Shf):List Byt:=(q4n s).map obE++s.tags.map tgE
def colS (s:Shf):Shf×List qX×Int :=
 if qE s=false then (zeroS,[],1)
 else if s.seq=2147483647 then (zeroS,[],17)
 else (⟨s.size,s.seq+1,1-s.half,(sumP (q3x s):Int),q4n s,s.tags⟩,wrL (2+(1-s.half)*qV s.size) (q3x s)++Zr (s.seq+1) (1-s.half) (sumP (q3x s):Int),0)
theorem q3I {α:Type}(f:α->Nat) (q:α->Bool):∀l:List α,((l.filter q).map f).sum<=(l.map f).sum
 | []=>q_r
 | a :: l=>by
  have ih:=q3I f q l
  by_cases h:q a=true
  ·rw[List.filter_cons_of_pos h,List.map_cons,List.map_cons,List.sum_cons,List.sum_cons];omega
  ·rw[List.filter_cons_of_neg h,List.map_cons,List.sum_cons];omega
theorem q46 (s:Shf):sumP (q3x s)<=pgs s:=by
 unfold q3x;rw[q3A];unfold sumP pgs q4n;rw[List.map_map,List.map_map];have:=q3I (fun o=>pgN (obE o)) (kpO s) s.objs;exact Nat.add_le_add this (q_r)
theorem q3F {s:Shf}(h:qE s=true):(pgs s:Int)<=s.used:=by
 unfold qE at h;simp only[Bool.and_eq_true,decide_eq_true_eq] at h;exact h.2.2.2
theorem q48:∀ {l:List Tg}{K:List Byt}{p:Option Byt},ZB K p l=true->∀t∈l,t.target∈K
 | [],_,_,_,t,ht=>by cases ht
 | u :: l,K,p,h,t,ht=>by
  rw[xK,Bool.and_eq_true,Bool.and_eq_true,Bool.and_eq_true] at h;obtain⟨-,h1,-,h2⟩:=h
  rcases List.mem_cons.1 ht with rfl|ht
  ·simpa using h1
  ·exact q48 h2 t ht
theorem q3Q {s:Shf}(h:qE s=true):∀y∈tgs s,∃j,j<s.objs.length/\qM (s.objs.getD j default)=y:=fun y hy=>by
 unfold tgs at hy;obtain⟨t,ht,rfl⟩:=List.mem_map.1 hy;unfold qE at h;simp only[Bool.and_eq_true] at h;have h1:=q48 h.2.2.1 t ht;unfold xY at h1;obtain⟨o,ho,h2⟩:=List.mem_map.1 h1;obtain⟨j,hj,rfl⟩:=List.getElem_of_mem ho;refine⟨j,hj,?_⟩;rw[List.getD_eq_getElem?_getD,List.getElem?_eq_getElem hj];exact h2
theorem q4J {s:Shf}{sl:List Byt}(h:qE s=true) (hr:RcS s.objs (tgs s) sl []) (y:Byt):decide (y∈sl)=(q3Y s).contains y:=by
 have h1:Qk sl=q3Y s:=q4E (q3v h) (q3Q h) hr.nd (fun y hy=>(hr.cov y hy).resolve_right (by simp)) (fun y hy=>(hr.s1 y hy).2) (fun y hy l hl=>(hr.cl y hy l hl).resolve_right (by simp));rw[<-h1,List.contains_eq_mem];unfold Qk;rw[decide_eq_decide];exact List.mem_mergeSort.symm
def q3H (base:Nat) (w:World) (v:Value) (M:List qX):Prop:=zG base w v M.length (fun j=>M.getD j default)
theorem q4w (P P1 P2:Nat->qX) (D D1 D2:Nat->Value) (n:Nat) (h:∀j,j<n->P j=P1 j/\D j=D1 j):∀m,(∀j,j<m->P (n+j)=P2 j/\D (n+j)=D2 j)->acC P D (n+m)=acC P1 D1 n++acC P2 D2 m
 | 0,_=>by
  show acC P D n=acC P1 D1 n ++ []
  rw[List.append_nil];exact Qj (fun j hj=>(h j hj).1) (fun j hj=>(h j hj).2)
 | m+1,h2=>by
  show acC P D (n+m+1)=_
  rw[yl,q4w P P1 P2 D D1 D2 n h m (fun j hj=>h2 j (by omega)),yl,List.append_assoc,(h2 m (by omega)).1,(h2 m (by omega)).2]
theorem q3H.app{v v':Value}{M N:List qX}{D D':Nat->Value}(hG:qI 91 3 base w v M.length (acC (fun j=>M.getD j default) D M.length)) (hD:∀j,j<M.length->ByU w (D j) (M.getD j default).data) (hQ:∀j,j<N.length->ByU w (D' j) (N.getD j default).data)
  (hG':qI 91 3 base w' v' (M.length+N.length) (acC (fun j=>M.getD j default) D M.length++acC (fun j=>N.getD j default) D' N.length)) (hw:v.ownBlock=some g\/g=w.heap.size) (C:Chg g (g+1) w w'):q3H base w' v' (M++N):=by
 refine⟨fun j=>if j<M.length then D j else D' (j-M.length),?_,fun j hj=>?_⟩
 ·rw[List.length_append,q4w _ (fun j=>M.getD j default) (fun j=>N.getD j default) _ D D' M.length (fun j hj=>⟨(q3t M N j).1 hj,if_pos hj⟩) N.length (fun j hj=>⟨(q3t M N j).2,by rw[if_neg (by omega),Nat.add_sub_cancel_left]⟩)];exact hG'
 ·rw[List.length_append] at hj
  show ByU w' (if j<M.length then D j else D' (j-M.length)) ((M++N).getD j default).data
  by_cases h:j<M.length
  ·rw[if_pos h,(q3t M N j).1 h];exact (hD j h).appD hG (by decide) hw C
  ·rw[if_neg h];obtain⟨q,rfl⟩:∃q,j=M.length+q:=⟨j-M.length,by omega⟩
   rw[(q3t M N q).2,Nat.add_sub_cancel_left];exact (hQ q (by omega)).appD hG (by decide) hw C
theorem q4v (P:Nat->qX) (D:Nat->Value) (n:Nat) (h:∀j,j<n->(D j).oneCell'=true):∀u∈acC P D n,u.oneCell'=true:=by
 intro u hu;unfold acC at hu;obtain⟨j,hj,h1⟩:=List.mem_flatMap.1 hu;have hj':=List.mem_range.1 hj;simp only[List.mem_cons,List.not_mem_nil,or_false] at h1
 rcases h1 with rfl|rfl|rfl
 ·rfl
 ·exact h j hj'
 ·rfl
theorem ByU.one{v:Value}{l:Byt}(h:ByU w v l):v.oneCell'=true:=by
 obtain⟨A,c,rfl,-⟩:=h.1.form
 rfl
def q4O (base bo ba:Nat) (size seq half used:Int) (X Y av:Value) (M:List qX) (E:Byt) (w:World) (e:Ending) (w':World):Prop :=
 e=.returned (.tuple #[])/\∃A c,w'.heap[bo]?=some (.cells #[.int .i64 size,.int .i64 seq,.int .i64 half,.int .i64 (used+pgN E),X,Y] 25 (0,0))/\w'.heap[ba]?=some (.cells #[.slice A (M.length+pgN E) c] 33 (0,0))/\q3H base w' (.slice A (M.length+pgN E) c) (M++wrE (2+half*qV size+used) E)/\Frm bo ba av w w'
theorem q4F (E:Byt):0<pgN E:=by unfold pgN;omega
theorem q3J {bo ba:Nat}{size seq half used:Int}{X Y av ev:Value}{M:List qX}{E:Byt}(hbo:w.heap[bo]?=some (.cells #[.int .i64 size,.int .i64 seq,.int .i64 half,.int .i64 used,X,Y] 25 (0,0))) (hba:w.heap[ba]?=some (.cells #[av] 33 (0,0))) (hA:q3H base w av M) (hE:ByU w ev E) (h5:E.length<=5000)
  (s0:0<=size) (s1:size<=1000000) (d0:0<=used) (d1:used<=1000000) (hh0:0<=half) (hh1:half<=1) (hM:M.length<=900000) :
  Calls Tryz.prog 119 #[ev,.pointer (some ⟨ba,0,none⟩),.pointer (some ⟨bo,0,none⟩)] w (q4O base bo ba size seq half used X Y av M E w):=by
 obtain⟨R,hR⟩:=qf (q4O base bo ba size seq half used X Y av M E w);rw[<-hR.out];have HBO:=q_h hbo;have HBA:=q_h hba;have HA:=q_h hA;have HE:=q_h hE;obtain⟨A,c,rfl,hnc,hcm⟩:=hE.1.form;obtain⟨n,hn⟩:=qf E.length;rw[<-hn.out] at HE hnc h5 ⊢;obtain⟨A0,c0,hav,-⟩:=hA.form;obtain⟨n0,hn0⟩:=qf M.length;rw[<-hn0.out] at hav hM;subst hav;obtain⟨p,hp⟩:=qf (pgN E);have hp9:p<=100:=by rw[hp.out];unfold pgN;have:=hn.out;omega
 have hp0:0<p:=by rw[hp.out];exact q4F E
 obtain⟨h,hh⟩:=qf (qV size);have hb:=yF s0 s1;rw[<-hh.out] at hb;have HH:Hid (∀w,Calls Tryz.prog 87 #[.int .i64 size] w (qH w (.int .i64 h))):=fun w=>jO s0 s1 h hh.out w
 have hwr:IntKind.i64.wrap (used+(p:Int))=used+p:=wrp (by omega) (by omega);obtain⟨m,hm⟩:=qf (half*h)
 have hmb : -1<=m/\m<=1000000:=by
  rw[hm.out];have:half=0\/half=1:=by omega
  rcases this with e|e<;>rw[e]<;>omega
 have hm2:half*h=m:=hm.out.symm;have hw0:IntKind.i64.wrap m=m:=wrp (by omega) (by omega);have hw1:IntKind.i64.wrap (2+m)=2+m:=wrp (by omega) (by omega);have hw2:IntKind.i64.wrap (2+m+used)=2+m+used:=wrp (by omega) (by omega);have HPG:Hid (2+half*qV size+used=2+m+used):=by rw[Hid,hm.out,<-hh.out]
 have c0':w.cell? ⟨ba,0,none⟩=some (.slice A0 n0 c0):=qj hba 0;have p0:w.cell? ⟨bo,0,none⟩=some (.int .i64 size):=qj hbo 0;have p2:w.cell? ⟨bo,2,none⟩=some (.int .i64 half):=qj hbo 2;have p3:w.cell? ⟨bo,3,none⟩=some (.int .i64 used):=qj hbo 3;have HC0:Hid (Ext w w.drew):=(Ext.refl w).drew;have hbab:ba≠bo:=neT hbo hba (by decide);have hbol:=qK hbo;have hbal:=qK hba;clear hbo hba hA hE hcm;go_enter Tryz.func119,Tryz.ntmps119;go_upto_region 0 with (fail);have eC:=And.intro (HC0.out.cell c0') (And.intro (HC0.out.cell p0) (And.intro (HC0.out.cell p2) (HC0.out.cell p3)));refine ql (fun w'=>w'.cell? ⟨ba,0,none⟩=some (.slice A0 n0 c0)/\w'.cell? ⟨bo,0,none⟩=some (.int .i64 size)/\w'.cell? ⟨bo,2,none⟩=some (.int .i64 half)/\w'.cell? ⟨bo,3,none⟩=some (.int .i64 used)) [14] (by kernel_rfl) (by exact eC) (fun hHeld=>?_);refine sT 0 (h:=?_);refine sP 1 (h:=?_);refine sP 2 (h:=?_);refine sT 3 (h:=?_);refine sP 4 (h:=?_);refine sT 5 (h:=?_);refine sP 9 (h:=?_);refine sT 10 (h:=?_);refine qg (i:=6) rfl (by kernel_rfl) (fun K hK=>?_);go_simp;refine (HH.out _).mono ?_;rintro e w3 ⟨rfl,e3⟩;have HX3:=q_h (HC0.out.trans e3);replace eC:=And.intro (e3.cell eC.1) (And.intro (e3.cell eC.2.1) (And.intro (e3.cell eC.2.2.1) (e3.cell eC.2.2.2)));clear e3;go_wp2_with fail;clear hHeld;refine hK.out _ _ (by exact eC) fun hHeld=>?_
 clear hK K;try simp only[nr]
 refine sP 7 (h:=?_);refine sP 8 (h:=?_);refine sP 11 (h:=?_);refine qg (i:=12) rfl (by kernel_rfl) (fun K hK=>?_);go_simp;refine (JG (page:=2+m+used) (HE.out.1.ext HX3.out) (by have:=hn.out;omega) (by omega) (by omega)).mono ?_;rintro e w5 ⟨v5,rfl,hA5,e5⟩;rw[<-hp.out] at hA5;have HA5:=q_h hA5;have HX5:=q_h (HX3.out.trans e5);obtain⟨A5,c5,rfl,-⟩:=hA5.form;replace eC:=And.intro (e5.cell eC.1) (And.intro (e5.cell eC.2.1) (And.intro (e5.cell eC.2.2.1) (e5.cell eC.2.2.2)));clear hA5 e5;go_wp2_with fail;clear hHeld;refine hK.out _ _ (by exact eC) fun hHeld=>?_
 clear hK K;try simp only[nr]
 refine qg (i:=13) rfl (by kernel_rfl) (fun K hK=>?_);obtain⟨D,hG,hD⟩:=HA.out.ext HX5.out;obtain⟨D5,hG5,hD5⟩:=HA5.out;obtain⟨g5,cap5,hv5,-,-,-,hcell5⟩:=hG5.at_ hp0;obtain⟨rfl,-,rfl⟩:=Value.slice.inj hv5;have hG0:qI 91 3 base w5 (.slice A0 n0 c0) n0 (acC (fun j=>M.getD j default) D M.length):=by rw[hn0.out];rw[<-hn0.out] at hG;rw[<-hn0.out];exact hG
 refine zl yI rfl _ _ 33 Tryz.underlying33 rfl (by rfl) hG0 (by rfl) (m:=p) (c:=c5) (news:=acC (fun j=>⟨2+m+used+j,pgE E j,false⟩) D5 p) (Zy _ _ p) (fun j u hj=>by rw[qW,Nat.zero_add];exact hcell5 j u hj) (q4v _ _ p (fun j hj=>(hD5 j hj).one)) (by omega) ?_;rintro v7 w7 hG7 - ⟨g7,hb7,hg7,C7⟩
 have hne7:g7≠ba/\g7≠bo:=by
  rcases hg7 with hg7|hg7
  ·rcases hG0.2.2 with ⟨h8,-⟩|⟨g0,cap,cur,h8,-,hh8,-⟩
   ·rw[h8] at hg7;simp[Value.ownBlock] at hg7
   ·have:g0=g7:=by rw[h8] at hg7;simpa[Value.ownBlock] using hg7
    subst this;exact⟨(neT hh8 (HX5.out.block HBA.out) (by decide)).symm,(neT hh8 (HX5.out.block HBO.out) (by decide)).symm⟩
  ·have:=HX5.out.size;omega
 have HBO7:=q_h (C7.blk (HX5.out.block HBO.out) (by omega));have HBA7:=q_h (C7.blk (HX5.out.block HBA.out) (by omega))
 have hq7:g7=bo\/g7=ba\/(Value.slice A0 n0 c0).ownBlock=some g7\/w5.heap.size<=g7:=by
  rcases hg7 with hg7|hg7
  ·exact .inr (.inr (.inl hg7))
  ·exact .inr (.inr (.inr (by omega)))
 have HF7:Hid (Frm bo ba (.slice A0 n0 c0) w w7):=(Frm.ext HX5.out).trans (Frm.chg C7 hq7) (fun q hq=>.inl hq)
 have HG7:Hid (q3H base w7 v7 (M++wrE (2+m+used) E)):=by
  have e1:acC (fun j=>⟨2+m+used+j,pgE E j,false⟩) D5 p=acC (fun j=>(wrE (2+m+used) E).getD j default) D5 (wrE (2+m+used) E).length:=by
   rw[q3M,<-hp.out];exact Qj (fun j hj=>(q47 _ E (by rw[<-hp.out];exact hj)).symm) (fun _ _=>rfl)
  rw[e1] at hG7;have e9:M.length+(wrE (2+m+used) E).length=n0+p:=by rw[q3M,<-hp.out,<-hn0.out]
  refine q3H.app hG hD (fun j hj=>?_) (by rw[e9];exact hG7) hg7 C7;rw[q3M,<-hp.out] at hj;rw[q47 _ E (by rw[<-hp.out];exact hj)];exact hD5 j hj
 have HE7:Hid (ByU w7 (.slice A n c) E):=(HE.out.ext HX5.out).appD hG0 (by decide) hg7 C7;obtain⟨A7,c7,rfl⟩:=hG7.form;replace eC:=And.intro (C7.cell eC.1 (by show ba<g7\/g7+1<=ba;omega)) (And.intro (C7.cell eC.2.1 (by show bo<g7\/g7+1<=bo;omega)) (And.intro (C7.cell eC.2.2.1 (by show bo<g7\/g7+1<=bo;omega)) (C7.cell eC.2.2.2 (by show bo<g7\/g7+1<=bo;omega))));clear hG hD hG5 hD5 hcell5 hv5 hG0 hG7 hb7 hg7 C7 hne7;clear hHeld;refine hK.out _ _ (by exact eC) fun hHeld=>?_
 clear hK K;try simp only[nr]
 refine qC (i:=14) rfl (by kernel_rfl) (by kernel_rfl) (fun K hK=>?_);obtain⟨wa,Ea,Ba,Ua⟩:=qL HBA7.out 0 (.slice A7 (n0+p) c7);have f0:=qp HBA7.out 0;have c0q:=qj HBA7.out 0;go_simp;try rw[Ea]
 clear f0 c0q Ea;refine hK.out _ _ ?_;clear hK K;try simp only[nr]
 refine qm (by kernel_rfl) ?_ _;clear hHeld;have Ca:=Ua.chg (NoU.mk HBA7.out (by decide));have HBAa:Hid (wa.heap[ba]?=some (.cells #[.slice A7 (n0+p) c7] 33 (0,0))):=Ba;have HBOa:=q_h ((Ua.block bo (Ne.symm hbab)).trans HBO7.out);have HFa:Hid (Frm bo ba (.slice A0 n0 c0) w wa):=HF7.out.trans (Frm.chg Ca (.inr (.inl rfl))) (fun q hq=>.inl hq);have HGa:Hid (q3H base wa (.slice A7 (n0+p) c7) (M++wrE (2+m+used) E)):=zG.chgT HG7.out Ca HBA7.out (by decide) (by decide);have HEa:Hid (ByU wa (.slice A n c) E):=HE7.out.chgT Ca HBA7.out (by decide);clear Ba Ua Ca HBA7 HBO7 HF7 HG7 HE7 HA5 HX5 HX3 c0' p0 p2 p3 eC;obtain⟨wq,hwq⟩:∃wq,wq=wa:=⟨_,rfl⟩
 subst hwq;have p3:wq.cell? ⟨bo,3,none⟩=some (.int .i64 used):=qj HBOa.out 3;go_upto_region 1 with (fail);have eC:=(Ext.refl wq).drew;refine ql (fun w'=>w'.cell? ⟨bo,3,none⟩=some (.int .i64 used)) [6] (by kernel_rfl) (by exact eC.cell p3) (fun hHeld=>?_);refine sP 0 (h:=?_);refine sT 1 (h:=?_);refine sP 2 (h:=?_);refine qg (i:=3) rfl (by kernel_rfl) (fun K hK=>?_);go_simp;refine (kW (HEa.out.1.ext eC) (by have:=hn.out;omega)).mono ?_;rintro e w3 ⟨rfl,e3⟩;rw[<-hp.out];replace eC:=eC.trans e3;clear e3;go_wp2_with fail;clear hHeld;refine hK.out _ _ (by exact eC.cell p3) fun hHeld=>?_
 clear hK K;try simp only[nr]
 refine sP 4 (h:=?_);refine sP 5 (h:=?_);refine qC (i:=6) rfl (by kernel_rfl) (by kernel_rfl) (fun K hK=>?_);have hBo3:=eC.block HBOa.out;have HX3:=q_h eC;obtain⟨wb,Eb,Bb,Ub⟩:=qL hBo3 3 (.int .i64 (used+p));have f3:=qp hBo3 3;have c3q:=qj hBo3 3;go_simp;try rw[Eb]
 clear f3 c3q Eb;refine hK.out _ _ ?_;clear hK K;try simp only[nr]
 refine qm (by kernel_rfl) ?_ _;clear hHeld;have Cb:=Ub.chg (NoU.mk hBo3 (by decide));have HBOb:Hid (wb.heap[bo]?=some (.cells #[.int .i64 size,.int .i64 seq,.int .i64 half,.int .i64 (used+p),X,Y] 25 (0,0))):=Bb;have HBAb:=q_h ((Ub.block ba hbab).trans (HX3.out.block HBAa.out));have HFb:Hid (Frm bo ba (.slice A0 n0 c0) w wb):=(HFa.out.trans (Frm.ext HX3.out) (fun q hq=>.inl hq)).trans (Frm.chg Cb (.inl rfl)) (fun q hq=>.inl hq);have HGb:Hid (q3H base wb (.slice A7 (n0+p) c7) (M++wrE (2+m+used) E)):=zG.chgT (zG.ext HGa.out HX3.out) Cb hBo3 (by decide) (by decide);clear Bb Ub Cb hBo3 HGa HFa HBAa HBOa HX3 HEa p3 eC;go_wp2
 first|go_end0|go_ret|skip
 rw[hR.out];refine⟨rfl,A7,c7,?_,?_,?_,HFb.out⟩
 ·rw[<-hp.out];exact HBOb.out
 ·rw[<-hp.out,<-hn0.out];exact HBAb.out
 ·rw[<-hp.out,<-hn0.out,HPG.out];exact HGb.out
def q4P (base:Nat) (v0:Value) (w:World) (n:Nat) (P:Nat->qX) (e:Ending) (w':World):Prop:=∃v,e=.returned v/\zG base w' v n P/\∃g,base<=g/\(v0.ownBlock=some g\/w.heap.size<=g)/\Chg g (g+1) w w'
theorem q42{v:Value}{P:Nat->qX}{size seq half used:Int}{A1 A2:Option Addr}{n1 c1 n2 c2:Nat}(hA:zG base w v n P) (hn:n<=100000) (hM:xH w) (q0:0<=seq) (q1:seq<4294967296) (h0:0<=half) (h1:half<256) (u0:0<=used) (u1:used<4294967296) :
  Calls Tryz.prog 122 #[v,.agg #[.int .i64 size,.int .i64 seq,.int .i64 half,.int .i64 used,.slice A1 n1 c1,.slice A2 n2 c2]] w (q4P base v w (n+3) (vT n P (Zr seq half used))):=by
 have HA:=q_h hA;have HM:=q_h hM;have HQ:=q_h (And.intro q0 q1);have HH:=q_h (And.intro h0 h1);have HU:=q_h (And.intro u0 u1);obtain⟨R,hR⟩:=qf (q4P base v w (n+3) (vT n P (Zr seq half used)));rw[<-hR.out];obtain⟨A,c,rfl,hnc,hcm⟩:=hA.form;clear hA hM q1 u0 u1 h0 h1;go_enter Tryz.func122,Tryz.ntmps122;go_upto_region 2 with (fail);refine zu ?_;intro W hE hsz B0 B1;obtain⟨p0,p1,p2,p3,p4,p5⟩:=qw B0;obtain⟨q0',q1',q2',-⟩:=cells3 B1;have HE:=q_h hE;have HEd:Hid (Ext w W.drew):=hE.drew;have HMd:=q_h (HM.out.ext HEd.out);have eC:=(Ext.refl W).drew;refine ql (fun w'=>w'.cell? ⟨w.heap.size,0,none⟩=some (.int .i64 size)/\w'.cell? ⟨w.heap.size,1,none⟩=some (.int .i64 seq)/\w'.cell? ⟨w.heap.size,2,none⟩=some (.int .i64 half)/\w'.cell? ⟨w.heap.size,3,none⟩=some (.int .i64 used)/\w'.cell? ⟨w.heap.size,4,none⟩=some (.slice A1 n1 c1)/\w'.cell? ⟨w.heap.size,5,none⟩=some (.slice A2 n2 c2)/\w'.cell? ⟨w.heap.size+1,0,none⟩=some (.int .i64 0)/\w'.cell? ⟨w.heap.size+1,1,none⟩=some (.slice none 0 0)/\w'.cell? ⟨w.heap.size+1,2,none⟩=some (.bool true)) [10,11] (by kernel_rfl) (by exact⟨eC.cell p0,eC.cell p1,eC.cell p2,eC.cell p3,eC.cell p4,eC.cell p5,eC.cell q0',eC.cell q1',eC.cell q2'⟩) (fun hHeld=>?_);refine sP 0 (h:=?_);refine sT 1 (h:=?_);refine sP 2 (h:=?_);refine sT 3 (h:=?_);refine sP 4 (h:=?_);refine sT 5 (h:=?_);refine sT 8 (h:=?_);refine qg (i:=6) rfl (by kernel_rfl) (fun K hK=>?_)
 go_simp;refine (zQ HMd.out HQ.out.1 HQ.out.2 HH.out.1 HH.out.2 HU.out.1 HU.out.2).mono ?_;rintro e w4 ⟨g4,rfl,hg4,hP4,e4⟩;have HP4:=q_h hP4;replace eC:=eC.trans e4;clear hP4 e4;go_wp2_with fail;clear hHeld;refine hK.out _ _ (by exact⟨eC.cell p0,eC.cell p1,eC.cell p2,eC.cell p3,eC.cell p4,eC.cell p5,eC.cell q0',eC.cell q1',eC.cell q2'⟩) fun hHeld=>?_
 clear hK K;try simp only[nr]
 refine sP 7 (h:=?_);refine qg (i:=9) rfl (by kernel_rfl) (fun K hK=>?_);go_simp
 first|refine qo ?_|refine qY ?_
 intro w5 e5 hsz5 BJ;have HP5:=q_h (HP4.out.ext e5);replace eC:=eC.trans e5;have HX5:=q_h (hE.trans eC);clear hHeld;refine hK.out _ _ (by exact⟨eC.cell p0,eC.cell p1,eC.cell p2,eC.cell p3,eC.cell p4,eC.cell p5,eC.cell q0',eC.cell q1',eC.cell q2'⟩) fun hHeld=>?_
 clear hK K;try simp only[nr]
 refine qC (i:=10) rfl (by kernel_rfl) (by kernel_rfl) (fun K hK=>?_);obtain⟨D,hD,hDB⟩:=(HA.out.ext HX5.out)
 refine zl yI rfl _ _ 33 Tryz.underlying33 rfl (by rfl) hD (by rfl) (m:=3) (c:=3) (news:=[.int .i64 0,.slice none 0 0,.bool true,.int .i64 (seq.tmod 2),.slice (some ⟨g4,0,none⟩) 64 64,.bool false,.int .i64 0,.slice none 0 0,.bool true]) rfl (fun j u hj=>(zq BJ j).trans (by simpa using hj)) (by simp[Value.oneCell']) (by omega) ?_;rintro v7 w7 hG7 - ⟨g7,hg7,hw7,C7⟩;have hA7:zG base w7 v7 (n+3) (vT n P (Zr seq half used)):=zG.three hD hDB (nilU _) (HP5.out.u64 (vG _ _ _)) (nilU _) hG7 hw7 C7;have HA7:=q_h hA7;have HB7:Hid (∃g,base<=g/\((Value.slice A n c).ownBlock=some g\/w.heap.size<=g)/\Chg g (g+1) w w7):=⟨g7,hg7,hw7.imp id (fun h=>by have:=HX5.out.size;omega),(HX5.out.chg _ _).trans C7⟩
 clear hA7 hG7 hw7 C7 hD hDB BJ;refine hK.out _ _ ?_;clear hK K;try simp only[nr]
 refine qC (i:=11) rfl (by kernel_rfl) (by kernel_rfl) (fun K hK=>?_);go_simp;refine hK.out _ _ ?_;clear hK K;try simp only[nr]
 refine qm (by kernel_rfl) ?_ _;clear hHeld;clear p0 p1 p2 p3 p4 p5 q0' q1' q2' eC;go_wp2
 first|go_ret|skip
 rw[hR.out];exact⟨v7,rfl,HA7.out,HB7.out⟩
structure KpA (w w':World):Prop where
 size:w.heap.size<=w'.heap.size
 keep:∀(k:Nat) (cs:Array Value) (t:TypeId) (fr:Nat×Nat),w.heap[k]?=some (Obj.cells cs t fr)->t≠25->t≠33->t≠91->w'.heap[k]?=some (Obj.cells cs t fr)
theorem KpA.ext(e:Ext w w'):KpA w w':=⟨e.size,fun _ _ _ _ h _ _ _=>e.block h⟩
theorem KpA.chg(C:Chg g (g+1) w w') (hg:w.heap.size<=g\/∃cs t fr,w.heap[g]?=some (Obj.cells cs t fr)/\(t=25\/t=33\/t=91)):KpA w w':=by
 refine⟨C.size,fun k cs t fr hk h1 h2 h3=>C.blk hk ?_⟩
 rcases hg with hg|⟨cs',t',fr',hb,ht⟩
 ·have:=qK hk;omega
 ·have hne:t'≠t:=by
   rintro rfl
   rcases ht with e|e|e
   ·exact h1 e
   ·exact h2 e
   ·exact h3 e
  have:=neT hb hk hne;omega
theorem qI.ownT {ET:TypeId}{v:Value}{xs:List Value}(h:qI ET k base w v n xs) (hg:v.ownBlock=some g):∃cs,w.heap[g]?=some (.cells cs ET (0,0)):=by
 rcases h.2.2 with ⟨h1,-⟩|⟨g0,cap,cur,h1,-,hh,-⟩
 ·rw[h1] at hg;simp[Value.ownBlock] at hg
 ·rw[h1] at hg;obtain rfl:g0=g:=by simpa[Value.ownBlock] using hg
  exact⟨_,hh⟩
theorem zG.ownT{v:Value}{P:Nat->qX}(h:zG base w v n P) (hg:v.ownBlock=some g):∃cs,w.heap[g]?=some (.cells cs 91 (0,0)):=by
 obtain⟨D,h1,-⟩:=h;exact h1.ownT hg
theorem zG.own_ge{v:Value}{P:Nat->qX}(h:zG base w v n P) (hg:v.ownBlock=some g):base<=g:=by
 obtain⟨D,h1,-⟩:=h;exact (h1.own_lt g hg).1
theorem KpA.frm {bo ba:Nat}{av:Value}(F:Frm bo ba av w w'){x y:Array Value}(hbo:w.heap[bo]?=some (.cells x 25 (0,0))) (hba:w.heap[ba]?=some (.cells y 33 (0,0))) (hav:∀g,av.ownBlock=some g->∃cs,w.heap[g]?=some (.cells cs 91 (0,0))):KpA w w' :=
 ⟨F.size,fun k cs t fr hk h1 h2 h3=>F.blk hk (neT hbo hk (Ne.symm h1)) (neT hba hk (Ne.symm h2)) (fun e=>by
  obtain⟨cs',h4⟩:=hav k e
  exact neT h4 hk (Ne.symm h3) rfl)⟩
theorem StU.kpA{v:Value}{l:List Byt}(h:StU w v l) (K:KpA w w'):StU w' v l:=by
 have hk:∀q,v.ownBlock=some q->w'.heap[q]?=w.heap[q]?:=fun q hq=>by
  obtain⟨cs',fr',h1⟩:=h.2 q hq;rw[h1];exact K.keep q _ _ _ h1 (by decide) (by decide) (by decide)
 refine⟨?_,fun q hq=>?_⟩
 ·obtain⟨A,c,rfl,h1,h2,h3⟩:=h.1;refine⟨A,c,rfl,h1,h2,fun hn=>?_⟩;obtain⟨b,off,rfl,h4⟩:=h3 hn;refine⟨b,off,rfl,fun i hi=>?_⟩;obtain⟨x,h5,h6⟩:=h4 i hi;exact⟨x,by rw[World.cell?_of_block (w:=w) (hk b rfl)];exact h5,h6⟩
 ·obtain⟨cs',fr',h1⟩:=h.2 q hq;exact⟨cs',fr',(hk q hq).trans h1⟩
theorem ByU.kpA{v:Value}{l:Byt}(h:ByU w v l) (K:KpA w w'):ByU w' v l:=by
 have hk:∀q,v.ownBlock=some q->w'.heap[q]?=w.heap[q]?:=fun q hq=>by
  obtain⟨cs',fr',h1⟩:=h.2 q hq;rw[h1];exact K.keep q _ _ _ h1 (by decide) (by decide) (by decide)
 refine⟨?_,fun q hq=>?_⟩
 ·obtain⟨A,c,rfl,h1,h2,h3⟩:=h.1;refine⟨A,c,rfl,h1,h2,fun hn=>?_⟩;obtain⟨b,off,rfl,h4⟩:=h3 hn;exact⟨b,off,rfl,fun i hi=>by rw[World.cell?_of_block (w:=w) (hk b rfl)];exact h4 i hi⟩
 ·obtain⟨cs',fr',h1⟩:=h.2 q hq;exact⟨cs',fr',(hk q hq).trans h1⟩
theorem qI.kpA {ET:TypeId}{v:Value}{xs:List Value}(h:qI ET k base w v n xs) (K:KpA w w') (h1:ET≠25) (h2:ET≠33) (h3:ET≠91):qI ET k base w' v n xs:=by
 refine⟨q_l h.1 K.size,h.2.1,?_⟩
 rcases h.2.2 with h0|⟨g0,cap,cur,hv,hb0,hh,h4⟩
 ·exact .inl h0
 ·exact .inr ⟨g0,cap,cur,hv,hb0,K.keep g0 _ _ _ hh h1 h2 h3,h4⟩
theorem ObG.kpA{v:Value}{L:List Ob}(h:ObG base w v L) (K:KpA w w'):ObG base w' v L:=by
 obtain⟨X,Y,h4,h5⟩:=h;exact⟨X,Y,h4.kpA K (by decide) (by decide) (by decide),fun j hj=>⟨(h5 j hj).1.kpA K,(h5 j hj).2.kpA K⟩⟩
theorem KX.kpA{l:List Byt}(h:KX base w g l) (K:KpA w w'):KX base w' g l:=⟨h.1,K.keep g _ _ _ h.2 (by decide) (by decide) (by decide)⟩
theorem zG.chgO{v:Value}{P:Nat->qX}(h:zG base w v n P) (C:Chg g (g+1) w w') (hg:w.heap.size<=g\/∃cs fr,w.heap[g]?=some (.cells cs 29 fr)):zG base w' v n P:=by
 rcases hg with hg|⟨cs,fr,hg⟩
 ·exact h.ext (C.ext (Ext.refl w) hg)
 ·exact h.chgT C hg (by decide) (by decide)
theorem q4H(h:base<=w.heap.size):ObG base w (.slice none 0 0) []:=⟨fun _=>undef,fun _=>undef,⟨h,by simp[obX],.inl ⟨rfl,rfl⟩⟩,fun j hj=>absurd hj (Nat.not_lt_zero j)⟩
theorem q4I(h:base<=w.heap.size):q3H base w (.slice none 0 0) []:=⟨fun _=>undef,⟨h,by simp[acC],.inl ⟨rfl,rfl⟩⟩,fun j hj=>absurd hj (Nat.not_lt_zero j)⟩
theorem q3Z {s:Shf}(h:i<s.objs.length):(s.objs.take (i+1)).filter (kpO s)=(s.objs.take i).filter (kpO s)++(if kpO s (s.objs.getD i default)=true then [s.objs.getD i default] else []):=by
 rw[take_snoc s.objs default h,List.filter_append]
 congr 1
 by_cases h9:kpO s (s.objs.getD i default)=true
 ·rw[if_pos h9,List.filter_cons_of_pos h9,List.filter_nil]
 ·rw[if_neg h9,List.filter_cons_of_neg h9,List.filter_nil]
theorem q3U (HT:x9){s:Shf}{A1 A2:Option Addr}{n1 c1 n2 c2:Nat}(hO:yJ w (.slice A1 n1 c1) s.objs) (hTg:jK w (.slice A2 n2 c2) s.tags) (hok:OkS s) (he:kS w.heap.size w) :
  Calls Tryz.prog 50 #[.agg #[.int .i64 s.size,.int .i64 s.seq,.int .i64 s.half,.int .i64 s.used,.slice A1 n1 c1,.slice A2 n2 c2]] w (VZ (colS s) w):=by
 obtain⟨R,hR⟩:=qf (VZ (colS s) w);rw[<-hR.out];have HI:=q_h (q2L HT hO hTg hok he);have HOK:=q_h hok;have HEV:=q_h he;obtain⟨size,hsize⟩:=qf s.size;obtain⟨seq,hseq⟩:=qf s.seq;obtain⟨half,hhalf⟩:=qf s.half;obtain⟨used,hused⟩:=qf s.used;rw[<-hsize.out,<-hseq.out,<-hhalf.out,<-hused.out] at HI ⊢;clear hO hTg hok he;go_enter Tryz.func50,Tryz.ntmps50;go_upto_region 1 with (fail);refine zu ?_;intro w1 hE hsz B0 B2;obtain⟨p0,p1,p2,p3,p4,p5⟩:=qw B0;have HAB:=q_h B0;have HRB:=q_h B2;have HX1:=q_h hE;have hw1:w.heap.size+2<=w1.heap.size:=hsz;go_wp2_with (go_at_call 58;refine q_o ?_);refine (HI.out w1 HX1.out).mono ?_;rintro e w2 (⟨hvb,a,b,c,d,Ax,nx,cx,Bx,mx,dx,gx,rfl,e2⟩|⟨hvb,Av,cv,At,ct,gm,rfl,hO2,hM2,hg2,hT2,e2⟩)
 ·have HX2:=q_h (hE.trans e2);have HR2:=q_h (e2.block B2)
  have HP:Hid (colS s=(zeroS,[],1)):=by
   rw[Hid];unfold colS;rw[if_pos hvb]
  clear p0 p1 p2 p3 p4 p5 B0 B2 hE e2;go_upto_region 2 with (fail);refine qo ?_;intro w3 e3 hsz3 B8;clear B8;have HX9:=q_h (HX2.out.trans e3);have HR9:=q_h (e3.block HR2.out);clear e3;go_upto_region 3 with (fail);refine wp_region_lit ?_;refine wpList_plain rfl (fun K hK=>?_);go_simp;refine hK _ _ ?_;clear hK K;try simp only[nr]
  refine wpList_plain rfl (fun K hK=>?_);go_simp;refine hK _ _ ?_;clear hK K;try simp only[nr]
  refine qh rfl 25 _ _ rfl (by rfl) (by rfl) HR9.out qJ (by rfl) (by rfl) (by rfl) ?_;intro wz Bz Uz;obtain⟨x0,x1,x2,x3,x4,x5⟩:=qw Bz;go_wp2;refine bodyPost_ret (v:=.tuple #[zSh,.slice none 0 0,.int .i64 (1)]) ?_ rfl ?_
  ·simp[results,x0,x1,x2,x3,x4,x5,go_sem,zSh]
  ·rw[hR.out];refine⟨zSh,.slice none 0 0,?_,?_,?_,(Uz.chg (NoU.mk HR9.out (by decide))).ext HX9.out (by omega)⟩
   ·rw[HP.out]
   ·rw[HP.out];first|exact zH _|exact zK _
   ·rw[HP.out];exact zi _
 have HO2:=q_h hO2;have HM2:=q_h hM2;have HT2:=q_h hT2;have HGS:Hid (w1.heap.size<=gm):=hg2;have HY2:=q_h e2;obtain⟨n,hn⟩:=qf s.objs.length;obtain⟨nt,hnt⟩:=qf s.tags.length;have hh:=yx hvb;have HV:=q_h hvb;have hnn:n<=999:=by rw[hn.out];exact HOK.out.no
 have hnt9:nt<=1000:=by rw[hnt.out];exact HOK.out.nt
 rw[<-hsize.out,<-hseq.out,<-hhalf.out,<-hused.out] at hh;rw[<-hsize.out,<-hseq.out,<-hhalf.out,<-hused.out,<-hn.out,<-hnt.out];rw[<-hn.out] at HO2;rw[<-hnt.out] at HT2;clear p0 p1 p2 p3 p4 p5 B0 B2 hE e2 hO2 hM2 hT2 hg2 hvb;go_upto_region 2 with (fail);refine qo ?_;intro w3 e3 hsz3 B8;obtain⟨b,hb⟩:=qf w2.heap.size;rw[<-hb.out] at B8 ⊢;have HS2:=q_h HY2.out.size;have HI3:Hid (IxB w1.heap.size b gm size seq half used (.slice Av n cv) (.slice At nt ct) s.objs w3):=⟨B8,by have:=HM2.out.lt;have:=hb.out;have:=HGS.out;omega,HGS.out,HO2.out.ext e3,HM2.out.ext e3⟩
 have HT3:=q_h (HT2.out.ext e3);have HY3:=q_h (HY2.out.trans e3);have hbw:w1.heap.size<=b/\w1.heap.size<=gm:=⟨HI3.out.hb,HGS.out⟩
 clear e3 B8 HO2 HM2 HT2 HY2;have q1:w3.cell? ⟨w.heap.size,1,none⟩=some (.int .i64 seq):=qj (HY3.out.block HAB.out) 1
 by_cases hq:seq=2147483647
 ·have u1:(seq == 2147483647)=true:=by rw[hq];rfl
  have u2:decide (seq=2147483647)=true:=q_t hq
  have HP:Hid (colS s=(zeroS,[],17)):=by
   rw[Hid];unfold colS;rw[HV.out,if_neg (by simp),if_pos (by rw[<-hseq.out];exact hq)]
  have HX9:=q_h (HX1.out.trans HY3.out);have HR9:=q_h (HY3.out.block HRB.out);go_upto_region 5 with (fail);refine wp_region_lit ?_;refine wpList_plain rfl (fun K hK=>?_);go_simp;refine hK _ _ ?_;clear hK K;try simp only[nr]
  refine qh rfl 25 _ _ rfl (by rfl) (by rfl) HR9.out qJ (by rfl) (by rfl) (by rfl) ?_;intro wz Bz Uz;obtain⟨x0,x1,x2,x3,x4,x5⟩:=qw Bz;go_wp2;refine bodyPost_ret (v:=.tuple #[zSh,.slice none 0 0,.int .i64 (17)]) ?_ rfl ?_
  ·simp[results,x0,x1,x2,x3,x4,x5,go_sem,zSh]
  ·rw[hR.out];refine⟨zSh,.slice none 0 0,?_,?_,?_,(Uz.chg (NoU.mk HR9.out (by decide))).ext HX9.out (by omega)⟩
   ·rw[HP.out]
   ·rw[HP.out];first|exact zH _|exact zK _
   ·rw[HP.out];exact zi _
 have u1:(seq == 2147483647)=false:=by simpa using hq
 have u2:decide (seq=2147483647)=false:=q_f hq;have hseq9:seq<2147483647:=by omega
 obtain⟨hf,hhf⟩:=qf (1-half);have hf9:0<=hf/\hf<=1:=by rw[hhf.out];omega
 have hwf:IntKind.i64.wrap (1-half)=hf:=by rw[hhf.out];exact wrp (by omega) (by omega)
 have hws:IntKind.i64.wrap (seq+1)=seq+1:=wrp (by omega) (by omega);have b5:w3.cell? ⟨b,5,none⟩=some (.slice At nt ct):=(qj HI3.out.blk 5).trans rfl;have HG0:Hid (qB 9 w3.heap.size w3 (.slice none (0:Nat) 0) ((s.tags.take 0).map fun t=>sV t.target)):=qB.nil (q_r);go_wp2_with fail;clear b5 q1
 go_loopw [7,35] (fun ov iv wr=>∃(i:Nat) (A':Option Addr) (c':Nat),i<=nt/\iv=.int .i64 (i:Int)/\ov=.slice A' i c'/\Hid (qB 9 w3.heap.size wr (.slice A' i c') ((s.tags.take i).map fun t=>sV t.target))/\Hid (Ext w3 wr)) (fun _ iv _=>nt-(intOf iv).toNat)
 case atStart=>exact⟨0,none,0,Nat.zero_le _,rfl,rfl,HG0,Ext.refl w3⟩
 case round =>
  clear HG0;obtain⟨i,A',c',hin,rfl,rfl,HG,HX⟩:=hrel
  by_cases hlt:i<nt
  case pos =>
   have u5:decide ((i:Int)<(nt:Int))=true:=q_t (by omega);have hii:(i:Int)<(nt:Int):=by omega
   have hil:i<s.tags.length:=by have:=hnt.out;omega
   obtain⟨g,off,rfl,k0,k1⟩:=(HT3.out.tgs.ext HX.out).get hlt;obtain⟨N1,hN1⟩:=qf (bA (s.tags.getD i default).name);obtain⟨N2,hN2⟩:=qf (bA (s.tags.getD i default).target);rw[qO,<-hN1.out] at k0;rw[qO,<-hN2.out] at k1;go_upto_region 10 with (fail);refine qo ?_;intro w4 e4 hsz4 BQ;have HG4:=q_h (qB.ext HG.out e4);have HX4:=q_h (HX.out.trans e4);obtain⟨k0,k1,-⟩:=cells2 BQ;clear e4 HG HX BQ hsz4;go_wp2_with (at_builtin;refine q_o ?_);refine qo ?_;intro w6 e6 hsz6 B6;have hlen:((s.tags.take i).map fun t=>sV t.target).length=i:=by rw[List.length_map,List.length_take];omega
   have hG6:=qB.ext HG4.out e6;refine zB xW rfl _ _ 26 Tryz.underlying26 rfl (by rfl) hG6 (m:=1) (c:=1) (news:=[.string N2]) (by rfl) rfl (jD B6) (fun x hx=>by rw[List.mem_singleton.1 hx];rfl) (by omega) (by omega) ?_;rintro g18 cap18 w18 hG18 hat18 ⟨g9,hlo,hw9,C9,-⟩;rw[hlen] at hG18 ⊢
   have HG9:Hid (qB 9 w3.heap.size w18 (.slice (some ⟨g18,0,none⟩) (i+1) cap18) ((s.tags.take (i+1)).map fun t=>sV t.target)):=by
    rw[take_snoc s.tags default hil,List.map_append]
    show Hid (qB _ _ _ _ (_ ++ [sV (s.tags.getD i default).target]))
    rw[qO,<-hN2.out];exact hG18
   have HX9:Hid (Ext w3 w18):=C9.ext (HX4.out.trans e6) (by omega);clear hG18 hat18 hlo hw9 C9 B6 e6 hsz6 HG4 HX4 hG6 k0 k1;go_wp2;go_roundw
   case rel=>exact⟨i+1,some ⟨g18,0,none⟩,cap18,by omega,by go_num,rfl,HG9,HX9⟩
   case measure=>simp[intOf];try omega
  obtain rfl:i=nt:=by omega
  have u5:decide ((i:Int)<(i:Int))=false:=q_f (by omega)
  have HSF:Hid (qZ wr (.slice A' i c') (tgs s)):=by
   have h9:=HG.out;rw[List.take_of_length_le (by have:=hnt.out;omega)] at h9;refine GrS.strs (base:=w3.heap.size) ?_;unfold GrS tgs;rw[List.map_map];exact h9
  have HTL:Hid ((tgs s).length<=1000):=by rw[Hid];unfold tgs;rw[List.length_map];have:=hnt.out;omega
  have HIr:=q_h (HI3.out.ext HX.out);go_wp2_with (go_at_call 110;refine q_o ?_);refine (q2k HIr.out HSF.out (q3v HV.out) (by have:=hn.out;omega) HTL.out (q3Q HV.out) (Wx HV.out)).mono ?_;rintro e w5 ⟨gm2,sl,rfl,hgm2,hMp,hRc,e5⟩;have HM5:=q_h hMp;have HKE:Hid (∀y,decide (y∈sl)=(q3Y s).contains y):=q4J HV.out hRc;have HZ5:Hid (Ext w3 w5):=HX.out.trans e5;have HI5:=q_h (HIr.out.ext e5);clear hMp hRc e5 HG HX HSF HIr u5 hgm2;have HA5:=q_h ((HY3.out.trans HZ5.out).block HAB.out);obtain⟨q0,q1,q2,-⟩:=qw HA5.out;have b5:w5.cell? ⟨b,5,none⟩=some (.slice At i ct):=(qj HI5.out.blk 5).trans rfl;go_upto_region 16 with (fail);refine zu ?_;intro wC eC hszC BO BA;obtain⟨bo,hbo⟩:=qf w5.heap.size;obtain⟨ba,hba⟩:=qf (w5.heap.size+1);rw[<-hba.out] at BA ⊢;rw[<-hbo.out] at BO ⊢;have HBC:Hid (wC.heap[bo]?=some (.cells #[.int .i64 size,.int .i64 (seq+1),.int .i64 hf,.int .i64 0,.slice none 0 0,.slice At i ct] 25 (0,0))):=BO;have HAC:Hid (wC.heap[ba]?=some (.cells #[.slice none 0 0] 33 (0,0))):=BA;have HXC:=q_h eC;have HIC:=q_h (HI5.out.ext eC);obtain⟨B,hB⟩:=qf wC.heap.size
  have hbB:w5.heap.size<=bo/\w5.heap.size<=ba/\bo<B/\ba<B:=by
   have:=hbo.out;have:=hba.out;have:=hB.out;omega
  have h15:w1.heap.size<=w5.heap.size:=(HY3.out.trans HZ5.out).size;clear eC BO BA hszC q0 q1 q2 b5;go_wp2_with (go_at_call 94;refine q_o ?_);refine (Yw HIC.out (by have:=hn.out;omega)).mono ?_;rintro e w6 ⟨gN,rfl,hN6,e6⟩;rw[List.length_map,<-hn.out];have HN6:Hid (KX B w6 gN (s.objs.map qM)):=by rw[hB.out];exact hN6
  have HX6:=q_h (HXC.out.trans e6);have HB6:=q_h (e6.block HBC.out);have HA6:=q_h (e6.block HAC.out);have HS6:Hid (B<=w6.heap.size):=by rw[hB.out];exact e6.size
  obtain⟨pg,hpg⟩:=qf (2+hf*qV size);clear hN6 e6 HIC HBC HAC;have HO6:Hid (ObG B w6 (.slice none 0 0) []):=q4H HS6.out;have HM6:Hid (q3H B w6 (.slice none 0 0) (wrL pg (([]:List Ob).map obE))):=q4I HS6.out;go_wp2_with fail
  go_loopw [62] (fun iv wr=>∃(j us no co ca:Nat) (Ao Aa:Option Addr) (O:List Ob),j<=n/\us<=100*j/\iv=.int .i64 (j:Int)/\Hid (O=(s.objs.take j).filter (kpO s))/\Hid (us=sumP (O.map obE))/\Hid (no=O.length)/\Hid (wr.heap[bo]?=some (.cells #[.int .i64 size,.int .i64 (seq+1),.int .i64 hf,.int .i64 (us:Int),.slice Ao no co,.slice At i ct] 25 (0,0)))/\Hid (wr.heap[ba]?=some (.cells #[.slice Aa us ca] 33 (0,0)))/\Hid (ObG B wr (.slice Ao no co) O)/\Hid (q3H B wr (.slice Aa us ca) (wrL pg (O.map obE)))/\Hid (KX B wr gN (s.objs.map qM))/\Hid (Ext w5 wr)) (fun iv _=>n-(intOf iv).toNat)
  case atStart=>exact⟨0,0,0,0,0,none,none,[],Nat.zero_le _,Nat.zero_le _,rfl,rfl,rfl,rfl,HB6,HA6,HO6,HM6,HN6,HX6⟩
  case round =>
   clear HB6 HA6 HO6 HM6 HN6 HX6;obtain⟨j,us,no,co,ca,Ao,Aa,O,hjn,hus,rfl,HOF,HUS,HNO,HB,HA,HOG,HMG,HNM,HX⟩:=hrel
   by_cases hjl:j<n
   case pos =>
    have u5:decide ((j:Int)<(n:Int))=true:=q_t (by omega);have hji:(j:Int)<(n:Int):=by omega
    have hjo:j<s.objs.length:=by have:=hn.out;omega
    obtain⟨o,ho⟩:=qf (s.objs.getD j default);obtain⟨X,hXB⟩:=qf (bA (qM o));have HXV:Hid (Value.string X=sV (qM o)):=by rw[Hid,hXB.out];rfl
    have nm0:wr.cell? ⟨gN,j,none⟩=some (.string X):=by
     rw[qj HNM.out.2,List.getElem?_toArray,List.getElem?_map,List.getElem?_map,List.getElem?_eq_getElem hjo,HXV.out,ho.out,List.getD_eq_getElem?_getD,List.getElem?_eq_getElem hjo]
     rfl
    obtain⟨qk,hqk⟩:=qf (kpO s o)
    have hlk:(Instr.lookup 156 (.map (some gm2)) (.string X) false).run Tryz.prog wr=.ok (.bool qk) wr:=by
     have h9:=YQ (HM5.out.ext HX.out) (qM o);rw[HKE.out,<-HXV.out] at h9;rw[hqk.out];exact h9
    have HOS:=q3Z (s:=s) hjo;rw[<-ho.out,<-HOF.out,<-hqk.out] at HOS;have HOS:=q_h HOS;cases qk with
    | false =>
     have HOF2:Hid (O=(s.objs.take (j+1)).filter (kpO s)):=by
      have h9:=HOS.out;rw[if_neg (by simp),List.append_nil] at h9;exact h9.symm
     go_wp2;go_roundw
     case rel=>exact⟨j+1,us,no,co,ca,Ao,Aa,O,by omega,by omega,by go_num,HOF2,HUS,HNO,HB,HA,HOG,HMG,HNM,HX⟩
     case measure=>simp[intOf];try omega
    | true =>
     have HOF2:Hid (O ++ [o]=(s.objs.take (j+1)).filter (kpO s)):=by
      have h9:=HOS.out;rw[if_pos rfl] at h9;exact h9.symm
     have hnoj:no<=j:=by
      rw[HNO.out,HOF.out];exact q_l (List.length_filter_le _ _) (by rw[List.length_take];omega)
     obtain⟨go,off,C1,m1,d1,C2,m2,d2,hAv,k0,k1,hsu,hbu⟩:=HI5.out.obs.atU hjo;have hgoB:go<w5.heap.size:=(HI5.out.obs.own_lt go (by rw[hAv];rfl)).2;subst hAv;rw[<-ho.out] at hsu hbu;have HSU:=q_h hsu;have HBU:=q_h hbu;have HK0:=q_h k0;have HK1:=q_h k1;have hbl5:=qK HI5.out.blk;replace k0:=HX.out.cell k0;replace k1:=HX.out.cell k1;have b4:wr.cell? ⟨b,4,none⟩=some (.slice (some ⟨go,off,none⟩) n cv):=(qj (HX.out.block HI5.out.blk) 4).trans rfl;have o4:wr.cell? ⟨bo,4,none⟩=some (.slice Ao no co):=qj HB.out 4;have HC0:Hid (Ext wr wr.drew):=(Ext.refl wr).drew;clear hsu hbu;go_upto_region 20 with (fail);clear hlk nm0 u5;have eC:=And.intro (HC0.out.cell o4) (And.intro (HC0.out.cell b4) (And.intro (HC0.out.cell k0) (HC0.out.cell k1)));refine ql (fun w'=>w'.cell? ⟨bo,4,none⟩=some (.slice Ao no co)/\w'.cell? ⟨b,4,none⟩=some (.slice (some ⟨go,off,none⟩) n cv)/\w'.cell? ⟨go,off+j*2,none⟩=some (.slice C1 m1 d1)/\w'.cell? ⟨go,off+j*2+1,none⟩=some (.slice C2 m2 d2)) [11] (by kernel_rfl) (by exact eC) (fun hHeld=>?_);refine sP 0 (h:=?_);refine sT 1 (h:=?_);refine sP 2 (h:=?_);refine sP 3 (h:=?_);refine sT 4 (h:=?_);refine sP 5 (h:=?_);refine sP 6 (h:=?_);refine sT 7 (h:=?_);refine qg (i:=8) rfl (by kernel_rfl) (fun K hK=>?_);go_simp
     first|refine qo ?_|refine qY ?_
     intro w7 e7 hsz7 BJ;have HX7:Hid (Ext wr w7):=by first|exact e7|exact HC0.out.trans e7
     replace eC:=And.intro (e7.cell eC.1) (And.intro (e7.cell eC.2.1) (And.intro (e7.cell eC.2.2.1) (e7.cell eC.2.2.2)));clear e7;clear hHeld;refine hK.out _ _ (by exact eC) fun hHeld=>?_
     clear hK K;try simp only[nr]
     refine qg (i:=9) rfl (by kernel_rfl) (fun K hK=>?_);obtain⟨XX,YY,hG,hXY⟩:=HOG.out.ext HX7.out
     have hG2:qI 29 2 B w7 (.slice Ao no co) no (obX XX YY O.length):=by
      have h9:=hG;rw[<-HNO.out] at h9 ⊢;exact h9
     refine zl q1N rfl _ _ 22 Tryz.underlying22 rfl (by rfl) hG2 (by rfl) (m:=1) (c:=1) (news:=[.slice C1 m1 d1,.slice C2 m2 d2]) rfl (fun j u hj=>(zq BJ j).trans (by simpa using hj)) (by simp[Value.oneCell']) (by omega) ?_;rintro v8 w8 hG8 - ⟨g8,hb8,hg8,C8⟩
     have hty:w7.heap.size<=g8\/∃cs fr,w7.heap[g8]?=some (.cells cs 29 fr):=by
      rcases hg8 with h9|h9
      ·obtain⟨cs,h8⟩:=hG2.ownT h9;exact .inr ⟨cs,_,h8⟩
      ·exact .inl (by omega)
     have hB7:=HX7.out.block HB.out;have hA7:=HX7.out.block HA.out;have hN7:=HX7.out.block HNM.out.2
     have hne8:g8≠bo/\g8≠ba/\g8≠gN:=by
      rcases hty with h9|⟨cs,fr,h9⟩
      ·have:=qK hB7;have:=qK hA7;have:=qK hN7;omega
      ·exact⟨(neT h9 hB7 (by decide)).symm,(neT h9 hA7 (by decide)).symm,(neT h9 hN7 (by decide)).symm⟩
     have HKT:Hid (KpT w7 w8):=by
      rcases hty with h9|⟨cs,fr,h9⟩
      ·exact KpT.chg (o:=.cells #[] 29 (0,0)) C8 (.inr h9) (fun cs t fr e=>by injection e with _ e2 _;exact .inr e2.symm)
      ·exact KpT.chg C8 (.inl h9) (fun cs t fr e=>by injection e with _ e2 _;exact .inr e2.symm)
     have HO8:Hid (ObG B w8 v8 (O ++ [o])):=ObG.snoc (X:=XX) (Y:=YY) hXY (HSU.out.ext (HX.out.trans HX7.out)) (HBU.out.ext (HX.out.trans HX7.out)) (by have h9:=hG8;rw[HNO.out] at h9;exact h9) HKT.out;have HM8:Hid (q3H B w8 (.slice Aa us ca) (wrL pg (O.map obE))):=zG.chgO (zG.ext HMG.out HX7.out) C8 hty;have HB8:=q_h (C8.blk hB7 (by omega));have HA8:=q_h (C8.blk hA7 (by omega));have HN8:Hid (KX B w8 gN (s.objs.map qM)):=⟨HNM.out.1,C8.blk hN7 (by omega)⟩
     have HX8:Hid (Ext w5 w8):=C8.ext (HX.out.trans HX7.out) (by omega);obtain⟨A8,c8,rfl⟩:=hG8.form;replace eC:=And.intro (C8.cell eC.1 (by show bo<g8\/g8+1<=bo;omega)) (And.intro (C8.cell eC.2.1 (by show b<g8\/g8+1<=b;omega)) (And.intro (C8.cell eC.2.2.1 (by show go<g8\/g8+1<=go;omega)) (C8.cell eC.2.2.2 (by show go<g8\/g8+1<=go;omega))));clear hG hXY hG2 hG8 hb8 hg8 C8 hty hB7 hA7 hN7 hne8 BJ;clear hHeld;refine hK.out _ _ (by exact eC) fun hHeld=>?_
     clear hK K;try simp only[nr]
     refine sP 10 (h:=?_);refine qC (i:=11) rfl (by kernel_rfl) (by kernel_rfl) (fun K hK=>?_);obtain⟨wa,Ea,Ba,Ua⟩:=qL HB8.out 4 (.slice A8 (no+1) c8);have f4:=qp HB8.out 4;have c4q:=qj HB8.out 4;go_simp;try rw[Ea]
     clear f4 c4q Ea;refine hK.out _ _ ?_;clear hK K;try simp only[nr]
     refine qm (by kernel_rfl) ?_ _;clear hHeld;have Ca:=Ua.chg (NoU.mk HB8.out (by decide));have HBa:Hid (wa.heap[bo]?=some (.cells #[.int .i64 size,.int .i64 (seq+1),.int .i64 hf,.int .i64 (us:Int),.slice A8 (no+1) c8,.slice At i ct] 25 (0,0))):=Ba;have HAa:=q_h ((Ua.block ba (neT HB8.out HA8.out (by decide))).trans HA8.out);have HOa:Hid (ObG B wa (.slice A8 (no+1) c8) (O ++ [o])):=HO8.out.chgT Ca HB8.out (by decide) (by decide) (by decide);have HMa:Hid (q3H B wa (.slice Aa us ca) (wrL pg (O.map obE))):=zG.chgT HM8.out Ca HB8.out (by decide) (by decide);have HNa:Hid (KX B wa gN (s.objs.map qM)):=HN8.out.kpA (KpA.chg Ca (.inr ⟨_,_,_,HB8.out,.inl rfl⟩));have HXa:Hid (Ext w5 wa):=Ca.ext HX8.out (by omega);clear Ba Ua Ca HB8 HA8 HO8 HM8 HN8 HX8 HKT HX7 eC HB HA HOG HMG HNM HX HC0 o4 b4 k0 k1;have b4:wa.cell? ⟨b,4,none⟩=some (.slice (some ⟨go,off,none⟩) n cv):=(qj (HXa.out.block HI5.out.blk) 4).trans rfl;have k0:=HXa.out.cell HK0.out;have k1:=HXa.out.cell HK1.out;have HOKO:Hid (okO o):=by rw[Hid,ho.out];exact Ym HV.out j hjo
     have HPB:=q_h (YV HOKO.out);have HCO:Hid (Calls Tryz.prog 62 #[.agg #[.slice C1 m1 d1,.slice C2 m2 d2]] wa (q1a wa (obE o))):=Qw HT ⟨(HSU.out.ext HXa.out).1,(HBU.out.ext HXa.out).1⟩ HOKO.out (HEV.out.ext (HX1.out.trans (HY3.out.trans (HZ5.out.trans HXa.out)))).tab;go_wp2_with (go_at_call 62;refine q_o ?_);refine HCO.out.mono ?_;rintro e wb ⟨vb,rfl,hGb,eb⟩;have HEb:=q_h hGb.u;have HBb:=q_h (eb.block HBa.out);have HAb:=q_h (eb.block HAa.out);have HOb:=q_h (HOa.out.ext eb);have HMb:Hid (q3H B wb (.slice Aa us ca) (wrL pg (O.map obE))):=zG.ext HMa.out eb;have HNb:Hid (KX B wb gN (s.objs.map qM)):=HNa.out.kpA (KpA.ext eb);have HXb:=q_h (HXa.out.trans eb);clear hGb eb b4 k0 k1 HCO HBa HAa HOa HMa HNa HXa;go_wp2_with (go_at_call 119;refine q_o ?_);refine (q3J HBb.out HAb.out HMb.out HEb.out (by have:=HPB.out.2;omega) (by omega) (by omega) (by omega) (by omega) hf9.1 hf9.2 (by rw[q3r,<-HUS.out];omega)).mono ?_;rintro e wd ⟨rfl,Ad,cd,hbod,hbad,hAd,hFd⟩;obtain⟨us2,hus2⟩:=qf ((wrL pg (O.map obE)).length+pgN (obE o));rw[<-hus2.out] at hbad hAd;have HU2:Hid (us2=sumP (O.map obE ++ [obE o])):=by rw[Hid,hus2.out,q3r,q3A (O.map obE) [obE o],q3D]
     have hu2b:us2<=us+100:=by rw[hus2.out,q3r,<-HUS.out];have:=(HPB.out).1;omega
     have HI2:Hid ((us:Int)+(pgN (obE o):Int)=(us2:Int)):=by rw[Hid,hus2.out,q3r,<-HUS.out];push_cast;rfl
     rw[HI2.out] at hbod;have HBd:=q_h hbod;have HAd:=q_h hbad
     have HMd:Hid (q3H B wd (.slice Ad us2 cd) (wrL pg (O.map obE ++ [obE o]))):=by
      rw[q3L,<-HUS.out,hpg.out];rw[<-hpg.out];have h9:=hAd;rw[<-hpg.out] at h9;exact h9
     have HKd:Hid (KpA wb wd):=KpA.frm hFd HBb.out HAb.out (fun g hg=>zG.ownT HMb.out hg);have HXd:Hid (Ext w5 wd):=hFd.toExt HXb.out (by omega) (by omega) (fun k hk=>by have:=zG.own_ge HMb.out hk;omega);clear hbod hbad hAd hFd;have HOd:=q_h (HOb.out.kpA HKd.out);have HNd:=q_h (HNb.out.kpA HKd.out);have HEL:Hid (O.map obE ++ [obE o]=(O ++ [o]).map obE):=by rw[Hid,List.map_append];rfl
     rw[HEL.out] at HU2 HMd;obtain⟨O2,hO2⟩:=qf (O ++ [o]);rw[<-hO2.out] at HU2 HMd HOd HOF2;have HN2:Hid (no+1=O2.length):=by rw[Hid,hO2.out,List.length_append,HNO.out];rfl
     clear HBb HAb HOb HMb HNb HXb HEb HKd HEL;go_wp2;go_roundw
     case rel=>exact⟨j+1,us2,no+1,c8,cd,A8,Ad,O2,by omega,by omega,by go_num,HOF2,HU2,HN2,HBd,HAd,HOd,HMd,HNd,HXd⟩
     case measure=>simp[intOf];try omega
   obtain rfl:j=n:=by omega
   have u5:decide ((j:Int)<(j:Int))=false:=q_f (by omega)
   have HOC:Hid (O=q4n s):=by
    have h9:=HOF.out;rw[List.take_of_length_le (by have:=hn.out;omega)] at h9;exact h9
   have o5:wr.cell? ⟨bo,5,none⟩=some (.slice At i ct):=qj HB.out 5;have HU0:Hid (us=sumP (O.map obE++(s.tags.take 0).map tgE)):=by rw[Hid,List.take_zero,List.map_nil,List.append_nil];exact HUS.out
   have HM0:Hid (q3H B wr (.slice Aa us ca) (wrL pg (O.map obE++(s.tags.take 0).map tgE))):=by rw[List.take_zero,List.map_nil,List.append_nil];exact HMG
   obtain⟨wL,hwL⟩:∃wL,wL=wr:=⟨_,rfl⟩
   subst hwL;clear HUS HMG HNM HOF HM5;go_wp2_with fail;clear o5 u5
   go_loopw [94] (fun iv wr=>∃(l us' ca':Nat) (Aa':Option Addr),l<=i/\us'<=100*(j+l)/\iv=.int .i64 (l:Int)/\Hid (us'=sumP (O.map obE++(s.tags.take l).map tgE))/\Hid (wr.heap[bo]?=some (.cells #[.int .i64 size,.int .i64 (seq+1),.int .i64 hf,.int .i64 (us':Int),.slice Ao no co,.slice At i ct] 25 (0,0)))/\Hid (wr.heap[ba]?=some (.cells #[.slice Aa' us' ca'] 33 (0,0)))/\Hid (ObG B wr (.slice Ao no co) O)/\Hid (q3H B wr (.slice Aa' us' ca') (wrL pg (O.map obE++(s.tags.take l).map tgE)))/\Hid (Ext w5 wr)) (fun iv _=>i-(intOf iv).toNat)
   case atStart=>exact⟨0,us,ca,Aa,Nat.zero_le _,by omega,rfl,HU0,HB,HA,HOG,HM0,HX⟩
   case round =>
    clear HU0 HB HA HOG HM0 HX hus;obtain⟨l,us,ca,Aa,hli,hus,rfl,HUS,HB,HA,HOG,HMG,HX⟩:=hrel
    by_cases hlt:l<i
    case pos =>
     have u5:decide ((l:Int)<(i:Int))=true:=q_t (by omega);have hii:(l:Int)<(i:Int):=by omega
     have hil:l<s.tags.length:=by have:=hnt.out;omega
     obtain⟨g,off,rfl,k0,k1⟩:=(HT3.out.tgs.ext (HZ5.out.trans HX.out)).get hlt;obtain⟨tg,htg⟩:=qf (s.tags.getD l default);rw[<-htg.out] at k0 k1;obtain⟨N1,hN1⟩:=qf (bA tg.name);obtain⟨N2,hN2⟩:=qf (bA tg.target);rw[qO,<-hN1.out] at k0;rw[qO,<-hN2.out] at k1;have HOT:Hid (okT tg):=by rw[Hid,htg.out];exact HOK.out.tg l hil
     have HPB:=q_h (QC HOT.out);have HTK:Hid ((s.tags.take (l+1)).map tgE=(s.tags.take l).map tgE ++ [tgE tg]):=by rw[Hid,take_snoc s.tags default hil,List.map_append,<-htg.out];rfl
     go_upto_region 26 with (fail);refine qo ?_;intro wa ea hsza BQ;obtain⟨k0,k1,-⟩:=cells2 BQ;have HBa:=q_h (ea.block HB.out);have HAa:=q_h (ea.block HA.out);have HOa:=q_h (HOG.out.ext ea);have HMa:Hid (q3H B wa (.slice Aa us ca) (wrL pg (O.map obE++(s.tags.take l).map tgE))):=zG.ext HMG.out ea;have HXa:=q_h (HX.out.trans ea);clear ea BQ hsza HB HA HOG HMG HX
     have HCE:Hid (Calls Tryz.prog 117 #[.agg #[.string N1,.string N2]] wa (q1a wa (tgE tg))):=by
      rw[hN1.out,hN2.out,<-qO,<-qO];exact yB HT HOT.out (HEV.out.ext (HX1.out.trans (HY3.out.trans (HZ5.out.trans HXa.out)))).tab
     go_wp2_with (go_at_call 117;refine q_o ?_);refine HCE.out.mono ?_;rintro e wb ⟨vb,rfl,hGb,eb⟩;have HEb:=q_h hGb.u;have HBb:=q_h (eb.block HBa.out);have HAb:=q_h (eb.block HAa.out);have HOb:=q_h (HOa.out.ext eb);have HMb:Hid (q3H B wb (.slice Aa us ca) (wrL pg (O.map obE++(s.tags.take l).map tgE))):=zG.ext HMa.out eb;have HXb:=q_h (HXa.out.trans eb);clear hGb eb k0 k1 HCE HBa HAa HOa HMa HXa;go_wp2_with (go_at_call 119;refine q_o ?_);refine (q3J HBb.out HAb.out HMb.out HEb.out (by have:=HPB.out.2;omega) (by omega) (by omega) (by omega) (by omega) hf9.1 hf9.2 (by rw[q3r,<-HUS.out];omega)).mono ?_;rintro e wd ⟨rfl,Ad,cd,hbod,hbad,hAd,hFd⟩;obtain⟨us2,hus2⟩:=qf ((wrL pg ((O.map obE++(s.tags.take l).map tgE))).length+pgN (tgE tg));rw[<-hus2.out] at hbad hAd;have HU2:Hid (us2=sumP ((O.map obE++(s.tags.take l).map tgE) ++ [tgE tg])):=by rw[Hid,hus2.out,q3r,q3A ((O.map obE++(s.tags.take l).map tgE)) [tgE tg],q3D]
     have hu2b:us2<=us+100:=by rw[hus2.out,q3r,<-HUS.out];have:=(HPB.out).1;omega
     have HI2:Hid ((us:Int)+(pgN (tgE tg):Int)=(us2:Int)):=by rw[Hid,hus2.out,q3r,<-HUS.out];push_cast;rfl
     rw[HI2.out] at hbod;have HBd:=q_h hbod;have HAd:=q_h hbad
     have HMd:Hid (q3H B wd (.slice Ad us2 cd) (wrL pg ((O.map obE++(s.tags.take l).map tgE) ++ [tgE tg]))):=by
      rw[q3L,<-HUS.out,hpg.out];rw[<-hpg.out];have h9:=hAd;rw[<-hpg.out] at h9;exact h9
     have HKd:Hid (KpA wb wd):=KpA.frm hFd HBb.out HAb.out (fun g hg=>zG.ownT HMb.out hg);have HXd:Hid (Ext w5 wd):=hFd.toExt HXb.out (by omega) (by omega) (fun k hk=>by have:=zG.own_ge HMb.out hk;omega);clear hbod hbad hAd hFd;have HOd:=q_h (HOb.out.kpA HKd.out);have HEL:Hid ((O.map obE++(s.tags.take l).map tgE) ++ [tgE tg]=O.map obE++(s.tags.take (l+1)).map tgE):=by rw[Hid,HTK.out,List.append_assoc]
     rw[HEL.out] at HU2 HMd;clear HBb HAb HOb HMb HXb HEb HKd HEL;go_wp2;go_roundw
     case rel=>exact⟨l+1,us2,cd,Ad,by omega,by omega,by go_num,HU2,HBd,HAd,HOd,HMd,HXd⟩
     case measure=>simp[intOf];try omega
    obtain rfl:l=i:=by omega
    have u5:decide ((l:Int)<(l:Int))=false:=q_f (by omega)
    have HCE:Hid (O.map obE++(s.tags.take l).map tgE=q3x s):=by
     rw[Hid,List.take_of_length_le (by have:=hnt.out;omega),HOC.out]
     rfl
    rw[HCE.out] at HUS HMG
    have hu9:(us:Int)<=used:=by
     have h1:=q46 s;have h2:=q3F HV.out;rw[<-hused.out] at h2;have:=HUS.out;omega
    have hh2:=Xw hh.1 hh.2.1;have a0:wr.cell? ⟨ba,0,none⟩=some (.slice Aa us ca):=qj HA.out 0;go_upto_region 28 with (fail);have eC:=And.intro ((Ext.refl wr).drew.block HB.out) ((Ext.refl wr).drew.cell a0);refine ql (fun w'=>w'.heap[bo]?=some (.cells #[.int .i64 size,.int .i64 (seq+1),.int .i64 hf,.int .i64 (us:Int),.slice Ao no co,.slice At l ct] 25 (0,0))/\w'.cell? ⟨ba,0,none⟩=some (.slice Aa us ca)) [4] (by kernel_rfl) (by exact eC) (fun hHeld=>?_);refine sT 0 (hy:=by (intro w9 hSw;have c9:=qw hSw.1;go_simp;(try (rw[if_pos (by omega)]));(try with_reducible rfl))) (h:=?_);refine sT 1 (hy:=by (intro w9 hSw;have c9:=hSw.2;go_simp;(try (rw[if_pos (by omega)]));(try with_reducible rfl))) (h:=?_);refine sT 2 (hy:=by (intro w9 hSw;have c9:=qw hSw.1;go_simp;(try (rw[if_pos (by omega)]));(try with_reducible rfl))) (h:=?_);refine qg (i:=3) rfl (by kernel_rfl) (fun K hK=>?_);go_simp;refine (q42 (zG.ext HMG.out (Ext.refl wr).drew) (by rw[q3r,<-HUS.out];omega) (HEV.out.ext (HX1.out.trans (HY3.out.trans (HZ5.out.trans (HX.out.trans (Ext.refl wr).drew))))).mark (by omega) (by omega) (by omega) (by omega) (by omega) (by omega)).mono ?_;rintro e w7 ⟨v7,rfl,hA7,g7,hb7,hg7,C7⟩;have hBd:=(Ext.refl wr).drew.block HB.out;have hOd:=HOG.out.ext (Ext.refl wr).drew;have hMd:q3H B wr.drew (.slice Aa us ca) (wrL pg (q3x s)):=zG.ext HMG.out (Ext.refl wr).drew
    have hty:wr.drew.heap.size<=g7\/∃cs t fr,wr.drew.heap[g7]?=some (Obj.cells cs t fr)/\(t=25\/t=33\/t=91):=by
     rcases hg7 with h9|h9
     ·obtain⟨cs,h8⟩:=zG.ownT hMd h9;exact .inr ⟨cs,_,_,h8,.inr (.inr rfl)⟩
     ·exact .inl h9
    have hne7:g7≠bo/\g7≠ba:=by omega
    have HK7:Hid (KpA wr.drew w7):=KpA.chg C7 hty;have HO7:=q_h (hOd.kpA HK7.out);have HX7:Hid (Ext w5 w7):=C7.ext (HX.out.trans (Ext.refl wr).drew) (by omega)
    have HA7:Hid (zG B w7 v7 (us+3) (vT us (fun j=>(wrL pg (q3x s)).getD j default) (Zr (seq+1) hf (us:Int)))):=by
     have h9:=hA7;rw[q3r,<-HUS.out] at h9;exact h9
    obtain⟨A7,c7,rfl,-⟩:=HA7.out.form;replace eC:=And.intro (C7.blk eC.1 (by omega)) (C7.cell eC.2 (by show ba<g7\/g7+1<=ba;omega));clear hA7 hb7 hg7 C7 hBd hOd hMd hty hne7 HK7;go_wp2_with fail;clear hHeld;refine hK.out _ _ (by exact eC) fun hHeld=>?_
    clear hK K;try simp only[nr]
    refine qC (i:=4) rfl (by kernel_rfl) (by kernel_rfl) (fun K hK=>?_);have hR7:=(HY3.out.trans (HZ5.out.trans HX7.out)).block HRB.out;refine qF rfl 25 _ _ rfl (by rfl) (by rfl) hR7 qJ (by rfl) (by rfl) (by rfl) ?_;intro w8 B8 U8;have C8:=U8.chg (NoU.mk hR7 (by decide));have HB8:=q_h B8;have HO8:Hid (ObG B w8 (.slice Ao no co) O):=HO7.out.chgT C8 hR7 (by decide) (by decide) (by decide);have HA8:Hid (zG B w8 (.slice A7 (us+3) c7) (us+3) (vT us (fun j=>(wrL pg (q3x s)).getD j default) (Zr (seq+1) hf (us:Int)))):=HA7.out.chgT C8 hR7 (by decide) (by decide)
    have HT8:Hid (TgG w1.heap.size w8 (.slice At l ct) s.tags):=by
     have h9:=HT3.out.ext (HZ5.out.trans HX7.out);rw[hnt.out] at h9 ⊢;exact qI.chgT h9 C8 hR7 (by decide)
    have HX8:Hid (Ext w w8):=C8.ext (HX1.out.trans (HY3.out.trans (HZ5.out.trans HX7.out))) (by omega);clear B8 U8 C8 hR7;refine hK.out _ _ ?_;clear hK K;try simp only[nr]
    refine sP 5 (h:=?_);refine sP 6 (h:=?_);refine qm (by kernel_rfl) ?_ _;clear hHeld;clear eC a0;obtain⟨x0,x1,x2,x3,x4,x5⟩:=qw HB8.out
    have HP:Hid (colS s=(⟨size,seq+1,hf,(us:Int),O,s.tags⟩,wrL pg (q3x s)++Zr (seq+1) hf (us:Int),0)):=by
     rw[Hid];unfold colS;rw[HV.out,if_neg (by simp),if_neg (by rw[<-hseq.out];exact hq),<-HUS.out,<-hsize.out,<-hseq.out,<-hhalf.out,<-hhf.out,hpg.out,HOC.out]
    go_wp2;refine bodyPost_ret (v:=.tuple #[.agg #[.int .i64 size,.int .i64 (seq+1),.int .i64 hf,.int .i64 (us:Int),.slice Ao no co,.slice At l ct],.slice A7 (us+3) c7,.int .i64 0]) ?_ rfl ?_
    ·simp[results,x0,x1,x2,x3,x4,x5,go_sem]
    ·rw[hR.out];refine⟨_,.slice A7 (us+3) c7,by rw[HP.out],?_,?_,HX8.out⟩
     ·rw[HP.out];exact⟨_,_,rfl,⟨_,HO8.out⟩,⟨_,HT8.out⟩⟩
     ·rw[HP.out];have hL:(wrL pg (q3x s)++Zr (seq+1) hf (us:Int)).length=us+3:=by rw[List.length_append,q3r,<-HUS.out];rfl
      refine zG.acts (base:=B) ?_;rw[hL];refine HA8.out.congr (fun j hj=>?_);unfold vT;have hln:(wrL pg (q3x s)).length=us:=by rw[q3r,HUS.out]
      by_cases h:j<us
      ·rw[if_pos h,(q3t (wrL pg (q3x s)) _ j).1 (by omega)]
      ·rw[if_neg h];obtain⟨q,rfl⟩:∃q,j=(wrL pg (q3x s)).length+q:=⟨j-us,by omega⟩
       rw[(q3t (wrL pg (q3x s)) _ q).2,hln,Nat.add_sub_cancel_left]
def PgX (base:Nat) (w:World) (v:Value) (L:List Byt):Prop:=PgL base w v L.length (fun j=>L.getD j [])
def pgV (G:Nat->Nat) (n:Nat):List Value:=(List.range n).map fun j=>.slice (some ⟨G j,0,none⟩) 64 64
theorem q3O (G:Nat->Nat) (n:Nat):(pgV G n).length=n:=by unfold pgV;rw[List.length_map,List.length_range]
theorem q4j (G:Nat->Nat) (n:Nat):∀u∈pgV G n,u.oneCell'=true:=by
 intro u hu;obtain⟨j,-,rfl⟩:=List.mem_map.1 hu
 rfl
theorem qB.ownT {ET:TypeId}{v:Value}{xs:List Value}(h:qB ET base w v xs) (hg:v.ownBlock=some g):∃cs,w.heap[g]?=some (.cells cs ET (0,0)):=by
 rcases h.2.2 with ⟨h1,-⟩|⟨g0,cap,cur,h1,-,hh,-⟩
 ·rw[h1] at hg;simp[Value.ownBlock] at hg
 ·rw[h1] at hg;obtain rfl:g0=g:=by simpa[Value.ownBlock] using hg
  exact⟨_,hh⟩
theorem PgX.nil(h:base<=w.heap.size):PgX base w (.slice none 0 0) []:=⟨fun _=>0,qB.nil h,fun j hj=>absurd hj (Nat.not_lt_zero j)⟩
theorem PgX.ext{v:Value}{L:List Byt}(h:PgX base w v L) (e:Ext w w'):PgX base w' v L:=PgL.ext h e
theorem PgX.chgT{v:Value}{L:List Byt}(h:PgX base w v L) (C:Chg g (g+1) w w') (hg:w.heap.size<=g\/∃cs t fr,w.heap[g]?=some (Obj.cells cs t fr)/\t≠5/\t≠27):PgX base w' v L:=by
 rcases hg with hg|⟨cs,t,fr,hb,h1,h2⟩
 ·exact h.ext (C.ext (Ext.refl w) hg)
 ·obtain⟨G,h3,h4⟩:=h;refine⟨G,⟨q_l h3.1 C.size,h3.2.1,?_⟩,fun j hj=>⟨(h4 j hj).1,(h4 j hj).2.chg C ?_⟩⟩
  ·rcases h3.2.2 with h0|⟨g0,cap,cur,hv,hb0,hh,h5⟩
   ·exact .inl h0
   ·refine .inr ⟨g0,cap,cur,hv,hb0,C.blk hh ?_,h5⟩;have:=neT hb hh h2;omega
  ·have:=neT hb (h4 j hj).2 h1;omega
theorem PgX.app {b2:Nat}{v v':Value}{L M:List Byt}{G G2:Nat->Nat}(hb:base<=b2) (hG:qB 27 base w v (pgV G L.length)) (hP:∀j,j<L.length->base<=G j/\PgB w (G j) (L.getD j [])) (hQ:∀j,j<M.length->b2<=G2 j/\PgB w (G2 j) (M.getD j []))
  (E:AppE 27 base w v (pgV G L.length++pgV G2 M.length) v' w'):PgX base w' v' (L++M):=by
 obtain⟨h1,-,g',hg',hw',C⟩:=E
 have hk:∀q l,PgB w q l->q<g'\/g'+1<=q:=fun q l hq=>by
  rcases hw' with h2|h2
  ·obtain⟨cs,h3⟩:=hG.ownT h2;have:=neT h3 hq (by decide);omega
  ·have:=hq.lt;omega
 refine⟨fun j=>if j<L.length then G j else G2 (j-L.length),?_,fun j hj=>?_⟩
 ·have e1:(List.range (L++M).length).map (fun j=>Value.slice (some ⟨if j<L.length then G j else G2 (j-L.length),0,none⟩) 64 64)=pgV G L.length++pgV G2 M.length:=by
   rw[List.length_append,List.range_add,List.map_append,List.map_map];unfold pgV
   congr 1
   ·refine List.map_congr_left fun j hj=>?_
    rw[if_pos (List.mem_range.1 hj)]
   ·refine List.map_congr_left fun j hj=>?_
    show Value.slice (some ⟨if L.length+j<L.length then _ else G2 (L.length+j-L.length),0,none⟩) 64 64=_
    rw[if_neg (by omega),Nat.add_sub_cancel_left]
  show qB _ base w' v' ((List.range (L++M).length).map _)
  rw[e1];exact h1
 ·rw[List.length_append] at hj
  show base<=(if j<L.length then G j else G2 (j-L.length))/\PgB w' (if j<L.length then G j else G2 (j-L.length)) ((L++M).getD j [])
  by_cases h:j<L.length
  ·rw[if_pos h,(q3t L M j).1 h];exact⟨(hP j h).1,(hP j h).2.chg C (hk _ _ (hP j h).2)⟩
  ·obtain⟨q,rfl⟩:∃q,j=L.length+q:=⟨j-L.length,by omega⟩
   rw[if_neg h,(q3t L M q).2,Nat.add_sub_cancel_left];exact⟨q_l hb (hQ q (by omega)).1,(hQ q (by omega)).2.chg C (hk _ _ (hQ q (by omega)).2)⟩
theorem PgX.open{v:Value}{L:List Byt}(h:PgX base w v L):∃G:Nat->Nat,qB 27 base w v (pgV G L.length)/\∀j,j<L.length->base<=G j/\PgB w (G j) (L.getD j []):=h
theorem qB.newsP{xs:List Value}(h:qB 27 base w (.slice A n c) xs):0<n->∃b off,A=some ⟨b,off,none⟩/\∀(j:Nat) (u:Value),xs[j]?=some u->w.cell? ⟨b,off+j,none⟩=some u:=fun h0=>by
 obtain⟨A',c',e,-⟩:=h.form;injection e with e1 e2 e3
 obtain⟨g,cap,hv,-,-,-,-,-,hc⟩:=h.at_ (by omega);injection hv with e4 e5 e6
 refine⟨g,0,e4,fun j u hj=>?_⟩;obtain⟨hjl,rfl⟩:=List.getElem?_eq_some_iff.1 hj;rw[Nat.zero_add];exact hc j hjl
theorem q4a (l:List Byt):∀x∈l.flatMap ZF,x.length=64:=by
 intro x hx;obtain⟨e,-,h1⟩:=List.mem_flatMap.1 hx;unfold ZF at h1;obtain⟨j,hj,rfl⟩:=List.mem_map.1 h1;exact q1p _ (List.mem_range.1 hj)
end Go.Proofs.YtdeeekdbhhenpaaGreatDoor
