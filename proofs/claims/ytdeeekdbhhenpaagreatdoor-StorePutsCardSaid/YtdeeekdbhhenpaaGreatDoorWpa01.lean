import Derived.Test.YtdeeekdbhhenpaaGreatDoorWb16
import Derived.Deep.Slices
import Derived.Deep.Strs
import Derived.ProofKit
import Derived.OpenShut
import Derived.Below
import Derived.SizedLaws
import Derived.Test.YtdeeekdbhhenpaaGreatDoorRows
import Derived.LaidMore
import Derived.Lib.LaidTab
import Derived.Stop.LaidErr
import Derived.Stop.Joined
set_option linter.all false
set_option maxHeartbeats 8000000
namespace Go.Proofs.YtdeeekdbhhenpaaGreatDoor
variable {w:World} {n i:Nat} {v:Value}
section
open Go.RowKit
theorem q1e (s:ByteArray):sV (zS s)=.string s:=rfl
structure Raw where
 b1:Bool
 l1:List Nat
 b2:Bool
 l2:List Nat
end
section
open Go.RowKit Go.ChangeShapes Go.ChangeAt
section
variable {H:Type}{enc:TypeId×Value->H}{w:World}{spare:Nat->Bool}{held:Bool}
instance:Inhabited Raw:=⟨⟨false,[],false,[]⟩⟩
theorem q0E(a:Addr) (h:w.cell? (a.add 0)=some v):a=⟨a.block,a.off,none⟩:=by
 obtain⟨b,off,spot⟩:=a;have hs:=World.cell?_spot h;have h2:spot=none:=by simpa[Addr.add] using hs
 subst h2;rfl
end
theorem own:ownKnob Tryz.prog.godebug=none:=by kernel_rfl
theorem laidOut:laidOutB Tryz.prog=true:=by kernel_rfl
end
end Go.Proofs.YtdeeekdbhhenpaaGreatDoor
set_option maxRecDepth 100000
namespace Go.Proofs.YtdeeekdbhhenpaaGreatDoor
open Go.ChangeShapes Go.WideShapes Go.ChangeAt Go.RowKit Go.Joins
variable {w:World} {n i:Nat} {v:Value}
theorem q0C {H:Type}{P:Program}{e:TypeId}{k:Nat}{d:DataW H}:∀ {ds:List (DataW H)},d∈ds->k∈d.weights P e->k∈DataW.weightsAll P e ds
 | [],h,_=>by cases h
 | d0 :: r,h,hk=>by
  unfold DataW.weightsAll;rw[List.mem_append]
  rcases List.mem_cons.1 h with rfl|h
  ·exact .inl hk
  ·exact .inr (q0C h hk)
theorem q0N:Tryz.prog.cellsOf 9=1:=by kernel_rfl
theorem q0T:Tryz.prog.cellsOf 26=1:=by kernel_rfl
theorem q1a:Tryz.prog.cellsOf 5=1:=by kernel_rfl
theorem q0W:Tryz.prog.cellsOf 27=1:=by kernel_rfl
theorem q0O:Tryz.prog.cellsOf 29=2:=by kernel_rfl
theorem q0U:Tryz.prog.cellsOf 22=1:=by kernel_rfl
theorem q17:Tryz.prog.cellsOf 86=2:=by kernel_rfl
theorem q0S:Tryz.prog.cellsOf 23=1:=by kernel_rfl
theorem q18:Tryz.prog.cellsOf 25=6:=by kernel_rfl
theorem q0V:Tryz.prog.cellsOf 3=1:=by kernel_rfl
section
variable {H:Type}{enc:TypeId×Value->H}{w:World}{spare:Nat->Bool}{held:Bool}
theorem q0D{x:DataW H×List MemPlace}(h:DataW.trod enc Tryz.prog w 0 spare held n 9 [v]=some x) (hz:∀k∈x.1.weights Tryz.prog 9,k<=reachBytes):∃l:Byt,v=sV l/\LnS l:=by
 obtain⟨s,h1,rfl,-⟩:=DataW.trod_string Tryz.underlying9 h;simp only[List.cons.injEq,and_true] at h1;refine⟨zS s,by rw[q1e];exact h1,?_⟩;have h9:=hz s.data.toList.length (by simp[DataW.weights]);unfold LnS zS;unfold reachBytes at h9;omega
theorem q0Y{x:DataW H×List MemPlace}(h:DataW.trod enc Tryz.prog w 0 spare held n 27 [v]=some x):∃l,ByV w v l:=by
 rcases Go.Deep.open_slice1 Tryz.underlying27 q1a h with ⟨hcs,-⟩|⟨a,len,cap,m,n',V,D,Pl,hcs,-,hl,hm,hmm,-,hx⟩
 ·simp only[List.cons.injEq,and_true] at hcs;rw[hcs];exact⟨[],none,0,rfl,q_r,Nat.zero_le _,fun h0=>absurd h0 (Nat.lt_irrefl 0)⟩
 ·simp only[List.cons.injEq,and_true] at hcs;rw[hcs];have hlm:len<=m:=by rw[hmm];split<;>omega
  have hv:∀i,i<len->∃z:Int,V i=.int .u8 z/\0<=z/\z<=255:=fun i hi=>by
   obtain⟨-,h2⟩:=hx i (by omega);obtain⟨z,hz,h3,h4⟩:=DataW.trod_int Tryz.underlying5 h2;simp only[List.cons.injEq,and_true] at hz;simp only[Lit.wf,Bool.and_eq_true,decide_eq_true_eq] at h4;exact⟨z,hz,h4⟩
  obtain⟨f,hf⟩:=Go.Deep.choose_lt (α:=Int) hv;refine⟨(List.range len).map fun i=>UInt8.ofNat (f i).toNat,_,cap,by rw[List.length_map,List.length_range],by rw[List.length_map,List.length_range];exact hl,hm,fun h0=>?_⟩;rw[List.length_map,List.length_range] at h0;have h1:=(hx 0 (by omega)).1;have ha:=q0E a h1;refine⟨a.block,a.off,by rw[<-ha],fun i hi=>?_⟩;rw[List.length_map,List.length_range] at hi;have h2:=(hx i (by omega)).1;rw[ha,qU,(hf i hi).1] at h2
  have e1:chZ ((List.range len).map fun i=>UInt8.ofNat (f i).toNat) i=f i:=by
   unfold chZ;rw[List.getD_eq_getElem?_getD,List.getElem?_map,List.getElem?_range hi];exact kF (hf i hi).2.1 (by have:=(hf i hi).2.2;omega)
  rw[e1];exact h2
theorem q0H{x:DataW H×List MemPlace}(h:DataW.trod enc Tryz.prog w 0 spare held n 26 [v]=some x) (hz:∀k∈x.1.weights Tryz.prog 26,k<=reachBytes):∃l,zF w v l/\∀s∈l,LnS s:=by
 rcases Go.Deep.open_slice1 Tryz.underlying26 q0N h with ⟨hcs,-⟩|⟨a,len,cap,m,n',V,D,Pl,hcs,-,hl,hm,hmm,hxe,hx⟩
 ·simp only[List.cons.injEq,and_true] at hcs;rw[hcs];exact⟨[],⟨none,0,rfl,q_r,Nat.zero_le _,fun h0=>absurd h0 (Nat.lt_irrefl 0)⟩,fun s hs=>by cases hs⟩
 ·simp only[List.cons.injEq,and_true] at hcs;rw[hcs];have hlm:len<=m:=by rw[hmm];split<;>omega
  have hv:∀i,i<len->∃l:Byt,V i=sV l/\LnS l:=fun i hi=>by
   obtain⟨-,h2⟩:=hx i (by omega)
   exact q0D h2 (fun k hk=>hz k (by
    rw[hxe];simp only[DataW.weights,Tryz.underlying26,List.mem_cons,List.mem_append]
    exact .inr (.inl (q0C (List.mem_map.2 ⟨i,List.mem_range.2 hi,rfl⟩) hk))))
  obtain⟨f,hf⟩:=Go.Deep.choose_lt (α:=Byt) hv;have hle:((List.range len).map f).length=len:=by rw[List.length_map,List.length_range]
  refine⟨(List.range len).map f,⟨_,cap,by rw[hle],by rw[hle];exact hl,hm,fun h0=>?_⟩,fun s hs=>?_⟩
  ·rw[hle] at h0;have h1:=(hx 0 (by omega)).1;have ha:=q0E a h1;refine⟨a.block,a.off,by rw[<-ha],fun i hi=>?_⟩;rw[hle] at hi;have h2:=(hx i (by omega)).1;rw[ha,qU] at h2;refine⟨_,h2,?_⟩
   show V i=sV (((List.range len).map f).getD i [])
   rw[List.getD_eq_getElem?_getD,List.getElem?_map,List.getElem?_range hi];exact (hf i hi).1
  ·obtain⟨i,hi,rfl⟩:=List.mem_map.1 hs;exact (hf i (List.mem_range.1 hi)).2
theorem q0F{c0 c1:Value}{x:DataW H×List MemPlace}(h:DataW.trod enc Tryz.prog w 0 spare held n 29 [c0,c1]=some x) (hz:∀k∈x.1.weights Tryz.prog 29,k<=reachBytes):∃o:Ob,ObR w c0 c1 o/\∀s∈o.links,LnS s:=by
 obtain⟨y0,y1,n1,rfl,-,h0,h1⟩:=trod_struct2 Tryz.underlying29 h;simp only[q0T,q0W,List.drop_zero,List.take_succ_cons,List.take_zero,List.drop_succ_cons] at h0 h1;obtain⟨l,h2,h3⟩:=q0H h0 (fun k hk=>hz k (by simp[DataW.weights,DataW.weightsEach,Tryz.underlying29,hk]));obtain⟨d,h4⟩:=q0Y h1;exact⟨⟨l,d⟩,⟨h2,h4⟩,h3⟩
theorem q0K{c0 c1:Value}{x:DataW H×List MemPlace}(h:DataW.trod enc Tryz.prog w 0 spare held n 86 [c0,c1]=some x) (hz:∀k∈x.1.weights Tryz.prog 86,k<=reachBytes):∃t:Tg,c0=sV t.name/\c1=sV t.target/\LnS t.name/\LnS t.target:=by
 obtain⟨y0,y1,n1,rfl,-,h0,h1⟩:=trod_struct2 Tryz.underlying86 h;simp only[q0N,List.drop_zero,List.take_succ_cons,List.take_zero,List.drop_succ_cons] at h0 h1;obtain⟨a,h2,h3⟩:=q0D h0 (fun k hk=>hz k (by simp[DataW.weights,DataW.weightsEach,Tryz.underlying86,hk]));obtain⟨b,h4,h5⟩:=q0D h1 (fun k hk=>hz k (by simp[DataW.weights,DataW.weightsEach,Tryz.underlying86,hk]));exact⟨⟨a,b⟩,h2,h4,h3,h5⟩
theorem q0I {B O:Nat}{cs:List Value}(h:w.cells? 0 ((⟨B,O,none⟩:Addr).add (i*2)) 2=some cs):∃c0 c1,cs=[c0,c1]/\w.cell? ⟨B,O+i*2,none⟩=some c0/\w.cell? ⟨B,O+i*2+1,none⟩=some c1:=by
 obtain⟨-,hlen,hc⟩:=World.cells?_some h
 match cs,hlen with
 | [c0,c1],_ =>
  have k0:=hc 0 (by omega);have k1:=hc 1 (by omega);rw[qU,qU] at k0 k1;exact⟨c0,c1,rfl,k0,k1⟩
theorem q0G {a:Addr}{cs:List Value}(h:w.cells? 0 (a.add (0*2)) 2=some cs):a=⟨a.block,a.off,none⟩:=by
 obtain⟨-,hlen,hc⟩:=World.cells?_some h;have k0:=hc 0 (by omega);have hz:(a.add (0*2)).add 0=a.add 0:=by rw[Go.Deep.add_add]
 rw[hz,List.getElem?_eq_getElem (by omega)] at k0;exact q0E a k0
theorem q0L{x:DataW H×List MemPlace}(h:DataW.trod enc Tryz.prog w 0 spare held n 22 [v]=some x) (hz:∀k∈x.1.weights Tryz.prog 22,k<=reachBytes):∃L,jH w v L/\∀i,i<L.length->∀l∈(L.getD i default).links,LnS l:=by
 rcases Go.Deep.open_slice Tryz.underlying22 h with ⟨hcs,-⟩|⟨a,len,cap,m,n',D,Pl,hcs,-,hl,hm,hmm,hxe,hx⟩
 ·simp only[List.cons.injEq,and_true] at hcs;rw[hcs];exact⟨[],⟨none,0,rfl,q_r,Nat.zero_le _,fun h0=>absurd h0 (Nat.lt_irrefl 0)⟩,fun i hi=>absurd hi (Nat.not_lt_zero i)⟩
 ·simp only[List.cons.injEq,and_true] at hcs;rw[hcs];have hlm:len<=m:=by rw[hmm];split<;>omega
  rw[q0O] at hx
  rcases Nat.eq_zero_or_pos len with h0|h0
  ·subst h0;exact⟨[],⟨_,_,rfl,hl,hm,fun h0=>absurd h0 (Nat.lt_irrefl 0)⟩,fun i hi=>absurd hi (Nat.not_lt_zero i)⟩
  obtain⟨cs0,hc0,-⟩:=hx 0 (by omega);have ha:=q0G hc0
  have hv:∀i,i<len->∃o:Ob,(∃x y,w.cell? ⟨a.block,a.off+i*2,none⟩=some x/\w.cell? ⟨a.block,a.off+i*2+1,none⟩=some y/\ObR w x y o)/\∀s∈o.links,LnS s:=fun i hi=>by
   obtain⟨cs,h1,h2⟩:=hx i (by omega);rw[ha] at h1;obtain⟨c0,c1,rfl,k0,k1⟩:=q0I h1
   obtain⟨o,h3,h4⟩:=q0F h2 (fun k hk=>hz k (by
    rw[hxe];simp only[DataW.weights,Tryz.underlying22,List.mem_cons,List.mem_append]
    exact .inr (.inl (q0C (List.mem_map.2 ⟨i,List.mem_range.2 hi,rfl⟩) hk))))
   exact⟨o,⟨c0,c1,k0,k1,h3⟩,h4⟩
  obtain⟨f,hf⟩:=Go.Deep.choose_lt (α:=Ob) hv;have hle:((List.range len).map f).length=len:=by rw[List.length_map,List.length_range]
  have hgd:∀i,i<len->((List.range len).map f).getD i default=f i:=fun i hi=>by
   rw[List.getD_eq_getElem?_getD,List.getElem?_map,List.getElem?_range hi]
   rfl
  refine⟨(List.range len).map f,⟨_,cap,by rw[hle],by rw[hle];exact hl,hm,fun _=>?_⟩,fun i hi=>?_⟩
  ·refine⟨a.block,a.off,by rw[<-ha],fun i hi=>?_⟩;rw[hle] at hi;obtain⟨x,y,k0,k1,k2⟩:=(hf i hi).1;refine⟨x,y,k0,k1,?_⟩
   show ObR w x y (((List.range len).map f).getD i default)
   rw[hgd i hi];exact k2
  ·rw[hle] at hi;rw[hgd i hi];exact (hf i hi).2
theorem q0J{x:DataW H×List MemPlace}(h:DataW.trod enc Tryz.prog w 0 spare held n 23 [v]=some x) (hz:∀k∈x.1.weights Tryz.prog 23,k<=reachBytes):∃L,vM w v L/\∀i,i<L.length->LnS (L.getD i default).name/\LnS (L.getD i default).target:=by
 rcases Go.Deep.open_slice Tryz.underlying23 h with ⟨hcs,-⟩|⟨a,len,cap,m,n',D,Pl,hcs,-,hl,hm,hmm,hxe,hx⟩
 ·simp only[List.cons.injEq,and_true] at hcs;rw[hcs];exact⟨[],⟨none,0,rfl,q_r,Nat.zero_le _,fun h0=>absurd h0 (Nat.lt_irrefl 0)⟩,fun i hi=>absurd hi (Nat.not_lt_zero i)⟩
 ·simp only[List.cons.injEq,and_true] at hcs;rw[hcs];have hlm:len<=m:=by rw[hmm];split<;>omega
  rw[q17] at hx
  rcases Nat.eq_zero_or_pos len with h0|h0
  ·subst h0;exact⟨[],⟨_,_,rfl,hl,hm,fun h0=>absurd h0 (Nat.lt_irrefl 0)⟩,fun i hi=>absurd hi (Nat.not_lt_zero i)⟩
  obtain⟨cs0,hc0,-⟩:=hx 0 (by omega);have ha:=q0G hc0
  have hv:∀i,i<len->∃o:Tg,(w.cell? ⟨a.block,a.off+i*2,none⟩=some (sV o.name)/\w.cell? ⟨a.block,a.off+i*2+1,none⟩=some (sV o.target))/\LnS o.name/\LnS o.target:=fun i hi=>by
   obtain⟨cs,h1,h2⟩:=hx i (by omega);rw[ha] at h1;obtain⟨c0,c1,rfl,k0,k1⟩:=q0I h1
   obtain⟨o,h3,h4,h5,h6⟩:=q0K h2 (fun k hk=>hz k (by
    rw[hxe];simp only[DataW.weights,Tryz.underlying23,List.mem_cons,List.mem_append]
    exact .inr (.inl (q0C (List.mem_map.2 ⟨i,List.mem_range.2 hi,rfl⟩) hk))))
   exact⟨o,⟨by rw[<-h3];exact k0,by rw[<-h4];exact k1⟩,h5,h6⟩
  obtain⟨f,hf⟩:=Go.Deep.choose_lt (α:=Tg) hv;have hle:((List.range len).map f).length=len:=by rw[List.length_map,List.length_range]
  have hgd:∀i,i<len->((List.range len).map f).getD i default=f i:=fun i hi=>by
   rw[List.getD_eq_getElem?_getD,List.getElem?_map,List.getElem?_range hi]
   rfl
  refine⟨(List.range len).map f,⟨_,cap,by rw[hle],by rw[hle];exact hl,hm,fun _=>?_⟩,fun i hi=>?_⟩
  ·refine⟨a.block,a.off,by rw[<-ha],fun i hi=>?_⟩;rw[hle] at hi;obtain⟨k0,k1⟩:=(hf i hi).1;refine⟨_,_,k0,k1,?_⟩
   show sV (f i).name=sV (((List.range len).map f).getD i default).name/\sV (f i).target=sV (((List.range len).map f).getD i default).target
   rw[hgd i hi];exact⟨rfl,rfl⟩
  ·rw[hle] at hi;rw[hgd i hi];exact (hf i hi).2
theorem q1g {α:Type}{cs:Array α}(h:cs.size=6):∃c0 c1 c2 c3 c4 c5,cs=#[c0,c1,c2,c3,c4,c5]:=by
 obtain⟨l⟩:=cs
 match l,h with
 | [c0,c1,c2,c3,c4,c5],_=>exact⟨c0,c1,c2,c3,c4,c5,rfl⟩
theorem q1c {r:Reach}{b0:Nat}{d:DataW H}{p:List MemPlace}(hv:Value.okWide Tryz.prog w r b0 29 v) (h:DataW.Trod enc Tryz.prog w 0 spare held 29 v d p) (hz:∀k∈d.weights Tryz.prog 29,k<=reachBytes):∃x y o,v=.agg #[x,y]/\ObR w x y o/\∀s∈o.links,LnS s:=by
 obtain⟨cs,rfl,hsz⟩:=okWide_struct Tryz.underlying29 hv;obtain⟨c0,c1,rfl⟩:=Go.Joins.array2 (hsz.trans q0O);obtain⟨fuel,hf⟩:=h;obtain⟨o,h1,h2⟩:=q0F (c0:=c0) (c1:=c1) (x:=(d,p)) hf hz;exact⟨c0,c1,o,rfl,h1,h2⟩
theorem q1b {r:Reach}{b0:Nat}{d:DataW H}{p:List MemPlace}(hv:Value.okWide Tryz.prog w r b0 25 v) (h:DataW.Trod enc Tryz.prog w 0 spare held 25 v d p) (hz:∀k∈d.weights Tryz.prog 25,k<=reachBytes) :
  ∃(s:Shf) (A1:Option Addr) (n1 c1:Nat) (A2:Option Addr) (n2 c2:Nat),v=.agg #[.int .i64 s.size,.int .i64 s.seq,.int .i64 s.half,.int .i64 s.used,.slice A1 n1 c1,.slice A2 n2 c2]/\jH w (.slice A1 n1 c1) s.objs/\vM w (.slice A2 n2 c2) s.tags/\LnSh s:=by
 obtain⟨cs,rfl,hsz⟩:=okWide_struct Tryz.underlying25 hv;obtain⟨c0,c1,c2,c3,c4,c5,rfl⟩:=q1g (hsz.trans q18);obtain⟨fuel,hf⟩:=h;obtain⟨xs,n,-,hxe,-,hlen,hq⟩:=DataW.trod_struct Tryz.underlying25 hf
 match xs,hlen with
 | [y0,y1,y2,y3,y4,y5],_ =>
  have h0:DataW.trod enc Tryz.prog w 0 spare held n 3 (List.take (Tryz.prog.cellsOf 3) (List.drop 0 [c0,c1,c2,c3,c4,c5]))=some y0:=hq 0 _ rfl;have h1:DataW.trod enc Tryz.prog w 0 spare held n 3 (List.take (Tryz.prog.cellsOf 3) (List.drop 1 [c0,c1,c2,c3,c4,c5]))=some y1:=hq 1 _ rfl;have h2:DataW.trod enc Tryz.prog w 0 spare held n 3 (List.take (Tryz.prog.cellsOf 3) (List.drop 2 [c0,c1,c2,c3,c4,c5]))=some y2:=hq 2 _ rfl;have h3:DataW.trod enc Tryz.prog w 0 spare held n 3 (List.take (Tryz.prog.cellsOf 3) (List.drop 3 [c0,c1,c2,c3,c4,c5]))=some y3:=hq 3 _ rfl;have h4:DataW.trod enc Tryz.prog w 0 spare held n 22 (List.take (Tryz.prog.cellsOf 22) (List.drop 4 [c0,c1,c2,c3,c4,c5]))=some y4:=hq 4 _ rfl;have h5:DataW.trod enc Tryz.prog w 0 spare held n 23 (List.take (Tryz.prog.cellsOf 23) (List.drop 5 [c0,c1,c2,c3,c4,c5]))=some y5:=hq 5 _ rfl;simp only[q0V,q0U,q0S,List.drop_zero,List.take_succ_cons,List.take_zero,List.drop_succ_cons] at h0 h1 h2 h3 h4 h5;simp only[Prod.mk.injEq] at hxe;obtain⟨rfl,rfl⟩:=hxe;obtain⟨z0,e0,-⟩:=DataW.trod_int Tryz.underlying3 h0;obtain⟨z1,e1,-⟩:=DataW.trod_int Tryz.underlying3 h1;obtain⟨z2,e2,-⟩:=DataW.trod_int Tryz.underlying3 h2;obtain⟨z3,e3,-⟩:=DataW.trod_int Tryz.underlying3 h3;obtain⟨L,h6,h7⟩:=q0L h4 (fun k hk=>hz k (by simp[DataW.weights,DataW.weightsEach,Tryz.underlying25,hk]));obtain⟨T,h8,h9⟩:=q0J h5 (fun k hk=>hz k (by simp[DataW.weights,DataW.weightsEach,Tryz.underlying25,hk]))
  obtain⟨A1,k1,rfl,-⟩:=h6.form;obtain⟨A2,k2,rfl,-⟩:=h8.form;simp only[List.cons.injEq,and_true] at e0 e1 e2 e3;subst e0 e1 e2 e3;exact⟨⟨z0,z1,z2,z3,L,T⟩,A1,_,k1,A2,_,k2,rfl,h6,h8,h7,h9⟩
end
end Go.Proofs.YtdeeekdbhhenpaaGreatDoor
set_option maxRecDepth 100000
namespace Go.Proofs.YtdeeekdbhhenpaaGreatDoor
open Go.ChangeShapes Go.WideShapes Go.ChangeAt Go.RowKit Go.Joins
variable {w:World} {n i:Nat} {v:Value}
def q0Q:List (String×DataW Unit):=[("math/bits.deBruijn32tab",Rows.laid_math_bits_deBruijn32tab),("math/bits.deBruijn64tab",Rows.laid_math_bits_deBruijn64tab),("internal/strconv.uint64pow10",Rows.laid_internal_strconv_uint64pow10),("strconv.ErrRange",Rows.laid_strconv_ErrRange),("strconv.ErrSyntax",Rows.laid_strconv_ErrSyntax),("bytes.ErrTooLarge",Rows.laid_bytes_ErrTooLarge),("fiducial/store.mark",Rows.laid_fiducial_store_mark)]
theorem door_met (os:Os) (args:Array Value):laidMetH Tryz.prog q0Q ((World.doorLaid Tryz.prog 86 os).forCall (fun _ _=>0) ⟨#[],args,[]⟩).memory :=
 laidMetH_of_parts3 (fuel:=8) (laidMet_of_run' 8 (by kernel_rfl) (by kernel_rfl)) (by kernel_rfl) (by kernel_rfl)
theorem q0Z:(Rows.laid_internal_strconv_uint64pow10:DataW Unit)=Go.Lib.tabData .u64 Go.Lib.pow10Tab:=by kernel_rfl
theorem q15:Tryz.prog.cellsOf 198=1:=by kernel_rfl
theorem q0X:Tryz.prog.cellsOf 5=1:=by kernel_rfl
theorem q19:Tryz.prog.cellsOf 298=20:=by kernel_rfl
theorem q1d:Tryz.prog.underlying 298=some (.array 20 198):=by kernel_rfl
theorem g_pow:Tryz.prog.globalNamed "internal/strconv.uint64pow10" = some 3:=by kernel_rfl
theorem t_pow:(Tryz.prog.globals[3]?).map (·.type)=some 298:=by kernel_rfl
theorem q1i:Tryz.prog.globalNamed "fiducial/store.mark" = some 0:=by kernel_rfl
theorem q1h:(Tryz.prog.globals[0]?).map (·.type)=some 27:=by kernel_rfl
theorem q0P {W:World}(h:laidMet Tryz.prog q0Q W):zY W:=by
 have h2:=h.tail.tail;rw[q0Z] at h2;exact Go.Lib.tabIs_of_head g_pow t_pow q1d Tryz.underlying198 q15 q19 h2
theorem q0M {W:World}(h:laidMet Tryz.prog q0Q W):xe W:=by
 obtain⟨ps,⟨g',t',cs,fuel,p,q,hg',ht',hvar,hd,-,-⟩,-⟩:=h.tail.tail.tail.tail.tail.tail;obtain rfl:=Option.some.inj (q1i.symm.trans hg');obtain rfl:=Option.some.inj (q1h.symm.trans ht');have hc:=World.var?_cell hg' hvar 0
 rcases Go.Deep.open_slice1 Tryz.underlying27 q0X hd with ⟨-,hx⟩|⟨a,len,cap,m,n',V,D,Pl,hcs,-,hl,hm,hmm,hxe,hx⟩
 ·cases (congrArg Prod.fst hx)
 ·have hcs0:cs[0]?=some (.slice (some a) len cap):=by
   rw[<-Array.getElem?_toList,hcs]
   rfl
  rw[hcs0] at hc;have hlm:len<=m:=by rw[hmm];split<;>omega
  have hD:=congrArg Prod.fst hxe
  have hD1:([.lit (.int .u8 70),.lit (.int .u8 83),.lit (.int .u8 66),.lit (.int .u8 49)]:List (DataW _))=(List.range len).map D:=by
   injection hD
  have hlen:len=4:=by
   have:=congrArg List.length hD1;simpa using this.symm
  subst hlen
  have hDi:∀i,i<4->D i=([.lit (.int .u8 70),.lit (.int .u8 83),.lit (.int .u8 66),.lit (.int .u8 49)]:List (DataW _)).getD i .nil:=fun i hi=>by
   rw[hD1,List.getD_eq_getElem?_getD,List.getElem?_map,List.getElem?_range hi]
   rfl
  have ha:=q0E a (hx 0 (by omega)).1;refine⟨some a,cap,hc,some a,cap,rfl,hl,hm,fun _=>⟨a.block,a.off,by rw[<-ha],fun i hi=>?_⟩⟩;have hi4:i<4:=hi;obtain⟨k1,k2⟩:=hx i (by omega);obtain⟨z,hz,h3,-⟩:=DataW.trod_int Tryz.underlying5 k2;simp only[List.cons.injEq,and_true] at hz;have h4:=congrArg Prod.fst h3;rw[hDi i hi4] at h4;rw[ha,qU,hz] at k1
  have hz2:z=chZ [70,83,66,49] i:=by
   have:i=0\/i=1\/i=2\/i=3:=by omega
   rcases this with rfl|rfl|rfl|rfl
   ·injection h4 with h4;injection h4 with _ h4;exact h4.symm
   ·injection h4 with h4;injection h4 with _ h4;exact h4.symm
   ·injection h4 with h4;injection h4 with _ h4;exact h4.symm
   ·injection h4 with h4;injection h4 with _ h4;exact h4.symm
  rw[<-hz2];exact k1
theorem q0R {W:World}(h:laidMetH Tryz.prog q0Q W):xh W.heap.size W:=by
 rw[MakeChecks.laidMetH_plain _ _ _ (by kernel_rfl)] at h;exact⟨W,q0P h,q0M h,q_r,Ext.refl W⟩
end Go.Proofs.YtdeeekdbhhenpaaGreatDoor
