import Derived.Test.YtdeeekdbhhenpaaGreatDoorWc12
import Derived.Deep.Slices
import Derived.Deep.Strs
import Derived.ProofKit
import Derived.OpenShut
import Derived.Below
import Derived.SizedLaws
import Derived.Test.YtdeeekdbhhenpaaGreatDoorRows
import Derived.LaidMore
import Derived.Lib.LaidTab
import Derived.Stop.LaidErr
import Derived.Stop.Joined
import Derived.Sort.KeysCollected
import Derived.Shelf.SlicesE.Delete
import Derived.Shelf.SlicesE.Kit
set_option linter.all false
set_option maxHeartbeats 8000000
set_option maxRecDepth 100000
namespace Go.Proofs.YtdeeekdbhhenpaaGreatDoor
variable {w w':World} {N n k g i m base c j d:Nat} {v:Value} {A:Option Addr}
section
open Go.RowKit
structure Raw where
 b1:Bool
 l1:List Nat
 b2:Bool
 l2:List Nat
end
section
open Go.RowKit Go.ChangeShapes Go.ChangeAt
section
variable {H:Type}{enc:TypeId×Value->H}{w:World}{spare:Nat->Bool}{held:Bool}
instance:Inhabited Raw:=⟨⟨false,[],false,[]⟩⟩
theorem YU(a:Addr) (h:w.cell? (a.add 0)=some v):a=⟨a.block,a.off,none⟩:=by
 obtain⟨b,off,spot⟩:=a;have hs:=World.cell?_spot h;have h2:spot=none:=by simpa[Addr.add] using hs
 subst h2;rfl
end
theorem own:ownKnob Tryz.prog.godebug=none:=by kernel_rfl
theorem laidOut:laidOutB Tryz.prog=true:=by kernel_rfl
end
end Go.Proofs.YtdeeekdbhhenpaaGreatDoor
set_option maxRecDepth 100000
namespace Go.Proofs.YtdeeekdbhhenpaaGreatDoor
open Go.ChangeShapes Go.WideShapes Go.ChangeAt Go.RowKit Go.Joins
variable {w w':World} {N n k g i m base c j d:Nat} {v:Value} {A:Option Addr}
theorem Vt:Tryz.prog.cellsOf 5=1:=by kernel_rfl
theorem Vf:Tryz.prog.cellsOf 27=1:=by kernel_rfl
section
variable {H:Type}{enc:TypeId×Value->H}{w:World}{spare:Nat->Bool}{held:Bool}
theorem YY{x:DataW H×List MemPlace}(h:DataW.trod enc Tryz.prog w 0 spare held n 27 [v]=some x):∃l,ByV w v l:=by
 rcases Go.Deep.open_slice1 Tryz.underlying27 Vt h with ⟨hcs,-⟩|⟨a,len,cap,m,n',V,D,Pl,hcs,-,hl,hm,hmm,-,hx⟩
 ·simp only[List.cons.injEq,and_true] at hcs;rw[hcs];exact⟨[],none,0,rfl,q_r,Nat.zero_le _,fun h0=>absurd h0 (Nat.lt_irrefl 0)⟩
 ·simp only[List.cons.injEq,and_true] at hcs;rw[hcs];have hlm:len<=m:=by rw[hmm];split<;>omega
  have hv:∀i,i<len->∃z:Int,V i=.int .u8 z/\0<=z/\z<=255:=fun i hi=>by
   obtain⟨-,h2⟩:=hx i (by omega);obtain⟨z,hz,h3,h4⟩:=DataW.trod_int Tryz.underlying5 h2;simp only[List.cons.injEq,and_true] at hz;simp only[Lit.wf,Bool.and_eq_true,decide_eq_true_eq] at h4;exact⟨z,hz,h4⟩
  obtain⟨f,hf⟩:=Go.Deep.choose_lt (α:=Int) hv;refine⟨(List.range len).map fun i=>UInt8.ofNat (f i).toNat,_,cap,by rw[List.length_map,List.length_range],by rw[List.length_map,List.length_range];exact hl,hm,fun h0=>?_⟩;rw[List.length_map,List.length_range] at h0;have h1:=(hx 0 (by omega)).1;have ha:=YU a h1;refine⟨a.block,a.off,by rw[<-ha],fun i hi=>?_⟩;rw[List.length_map,List.length_range] at hi;have h2:=(hx i (by omega)).1;rw[ha,qP,(hf i hi).1] at h2
  have e1:chZ ((List.range len).map fun i=>UInt8.ofNat (f i).toNat) i=f i:=by
   unfold chZ;rw[List.getD_eq_getElem?_getD,List.getElem?_map,List.getElem?_range hi];exact jl (hf i hi).2.1 (by have:=(hf i hi).2.2;omega)
  rw[e1];exact h2
end
end Go.Proofs.YtdeeekdbhhenpaaGreatDoor
set_option maxRecDepth 100000
namespace Go.Proofs.YtdeeekdbhhenpaaGreatDoor
open Go.ChangeShapes Go.WideShapes Go.ChangeAt Go.RowKit Go.Joins
variable {w w':World} {N n k g i m base c j d:Nat} {v:Value} {A:Option Addr}
theorem V8 {H:Type}{enc:TypeId×Value->H}{spare:Nat->Bool}{held:Bool}{x:DataW H×List MemPlace}(h:DataW.trod enc Tryz.prog w 0 spare held n 44 [v]=some x):∃l,kS w v l:=by
 rcases Go.Deep.open_slice1 Tryz.underlying44 Vf h with ⟨hcs,-⟩|⟨a,len,cap,m,n',V,D,Pl,hcs,-,hl,hm,hmm,-,hx⟩
 ·simp only[List.cons.injEq,and_true] at hcs;rw[hcs];exact⟨[],none,0,rfl,q_r,Nat.zero_le _,fun h0=>absurd h0 (Nat.lt_irrefl 0)⟩
 ·simp only[List.cons.injEq,and_true] at hcs;rw[hcs];have hlm:len<=m:=by rw[hmm];split<;>omega
  have hv:∀i,i<len->∃l:Byt,ByV w (V i) l:=fun i hi=>by
   obtain⟨-,h2⟩:=hx i (by omega);exact YY h2
  obtain⟨f,hf⟩:=Go.Deep.choose_lt (α:=Byt) hv;have hle:((List.range len).map f).length=len:=by rw[List.length_map,List.length_range]
  refine⟨(List.range len).map f,⟨_,cap,by rw[hle],by rw[hle];exact hl,hm,fun h0=>?_⟩⟩;rw[hle] at h0;have h1:=(hx 0 (by omega)).1;have ha:=YU a h1;refine⟨a.block,a.off,by rw[<-ha],fun i hi=>?_⟩;rw[hle] at hi;have h2:=(hx i (by omega)).1;rw[ha,qP] at h2;refine⟨_,h2,?_⟩
  show ByV w (V i) (((List.range len).map f).getD i [])
  rw[List.getD_eq_getElem?_getD,List.getElem?_map,List.getElem?_range hi];exact hf i hi
end Go.Proofs.YtdeeekdbhhenpaaGreatDoor
set_option maxRecDepth 100000
namespace Go.Proofs.YtdeeekdbhhenpaaGreatDoor
open Go.ChangeShapes Go.WideShapes Go.ChangeAt Go.RowKit Go.Joins
variable {w w':World} {N n k g i m base c j d:Nat} {v:Value} {A:Option Addr}
def V9:List (String×DataW Unit):=[("math/bits.deBruijn32tab",Rows.laid_math_bits_deBruijn32tab),("math/bits.deBruijn64tab",Rows.laid_math_bits_deBruijn64tab),("internal/strconv.uint64pow10",Rows.laid_internal_strconv_uint64pow10),("strconv.ErrRange",Rows.laid_strconv_ErrRange),("strconv.ErrSyntax",Rows.laid_strconv_ErrSyntax),("bytes.ErrTooLarge",Rows.laid_bytes_ErrTooLarge),("fiducial/store.mark",Rows.laid_fiducial_store_mark)]
theorem door_met (os:Os) (args:Array Value):laidMetH Tryz.prog V9 ((World.doorLaid Tryz.prog 86 os).forCall (fun _ _=>0) ⟨#[],args,[]⟩).memory :=
 laidMetH_of_parts3 (fuel:=8) (laidMet_of_run' 8 (by kernel_rfl) (by kernel_rfl)) (by kernel_rfl) (by kernel_rfl)
theorem Vk:(Rows.laid_internal_strconv_uint64pow10:DataW Unit)=Go.Lib.tabData .u64 Go.Lib.pow10Tab:=by kernel_rfl
theorem Vr:Tryz.prog.cellsOf 198=1:=by kernel_rfl
theorem Vg:Tryz.prog.cellsOf 5=1:=by kernel_rfl
theorem Vs:Tryz.prog.cellsOf 298=20:=by kernel_rfl
theorem VD:Tryz.prog.underlying 298=some (.array 20 198):=by kernel_rfl
theorem g_pow:Tryz.prog.globalNamed "internal/strconv.uint64pow10" = some 3:=by kernel_rfl
theorem t_pow:(Tryz.prog.globals[3]?).map (·.type)=some 298:=by kernel_rfl
theorem VQ:Tryz.prog.globalNamed "fiducial/store.mark" = some 0:=by kernel_rfl
theorem VN:(Tryz.prog.globals[0]?).map (·.type)=some 27:=by kernel_rfl
theorem V7 {W:World}(h:laidMet Tryz.prog V9 W):zu W:=by
 have h2:=h.tail.tail;rw[Vk] at h2;exact Go.Lib.tabIs_of_head g_pow t_pow VD Tryz.underlying198 Vr Vs h2
theorem V5 {W:World}(h:laidMet Tryz.prog V9 W):zW W:=by
 obtain⟨ps,⟨g',t',cs,fuel,p,q,hg',ht',hvar,hd,-,-⟩,-⟩:=h.tail.tail.tail.tail.tail.tail;obtain rfl:=Option.some.inj (VQ.symm.trans hg');obtain rfl:=Option.some.inj (VN.symm.trans ht');have hc:=World.var?_cell hg' hvar 0
 rcases Go.Deep.open_slice1 Tryz.underlying27 Vg hd with ⟨-,hx⟩|⟨a,len,cap,m,n',V,D,Pl,hcs,-,hl,hm,hmm,hxe,hx⟩
 ·cases (congrArg Prod.fst hx)
 ·have hcs0:cs[0]?=some (.slice (some a) len cap):=by
   rw[<-Array.getElem?_toList,hcs]
   rfl
  rw[hcs0] at hc;have hlm:len<=m:=by rw[hmm];split<;>omega
  have hD:=congrArg Prod.fst hxe
  have hD1:([.lit (.int .u8 70),.lit (.int .u8 83),.lit (.int .u8 66),.lit (.int .u8 49)]:List (DataW _))=(List.range len).map D:=by
   injection hD
  have hlen:len=4:=by
   have:=congrArg List.length hD1;simpa using this.symm
  subst hlen
  have hDi:∀i,i<4->D i=([.lit (.int .u8 70),.lit (.int .u8 83),.lit (.int .u8 66),.lit (.int .u8 49)]:List (DataW _)).getD i .nil:=fun i hi=>by
   rw[hD1,List.getD_eq_getElem?_getD,List.getElem?_map,List.getElem?_range hi]
   rfl
  have ha:=YU a (hx 0 (by omega)).1;refine⟨some a,cap,hc,some a,cap,rfl,hl,hm,fun _=>⟨a.block,a.off,by rw[<-ha],fun i hi=>?_⟩⟩;have hi4:i<4:=hi;obtain⟨k1,k2⟩:=hx i (by omega);obtain⟨z,hz,h3,-⟩:=DataW.trod_int Tryz.underlying5 k2;simp only[List.cons.injEq,and_true] at hz;have h4:=congrArg Prod.fst h3;rw[hDi i hi4] at h4;rw[ha,qP,hz] at k1
  have hz2:z=chZ [70,83,66,49] i:=by
   have:i=0\/i=1\/i=2\/i=3:=by omega
   rcases this with rfl|rfl|rfl|rfl
   ·injection h4 with h4;injection h4 with _ h4;exact h4.symm
   ·injection h4 with h4;injection h4 with _ h4;exact h4.symm
   ·injection h4 with h4;injection h4 with _ h4;exact h4.symm
   ·injection h4 with h4;injection h4 with _ h4;exact h4.symm
  rw[<-hz2];exact k1
theorem Va {W:World}(h:laidMetH Tryz.prog V9 W):zX W.heap.size W:=by
 rw[MakeChecks.laidMetH_plain _ _ _ (by kernel_rfl)] at h;exact⟨W,V7 h,V5 h,q_r,Ext.refl W⟩
end Go.Proofs.YtdeeekdbhhenpaaGreatDoor
namespace Go.Proofs.YtdeeekdbhhenpaaGreatDoor
variable {w w':World} {N n k g i m base c j d:Nat} {v:Value} {A:Option Addr}
section
open Go.RowKit
theorem QY.strs{l:List Byt}(h:QY base w g l) (hl:l.length<=1000000):zF w (.slice (some ⟨g,0,none⟩) l.length l.length) l :=
 ⟨_,_,rfl,q_r,by unfold maxLen;omega,fun _=>⟨g,0,rfl,fun i hi=>⟨_,(qh h.2 (0+i)).trans (by
  rw[Nat.zero_add,List.getElem?_toArray,List.getElem?_map,List.getElem?_eq_getElem hi]
  rfl),by show _=sV (l.getD i []);rw[List.getD_eq_getElem?_getD,List.getElem?_eq_getElem hi];rfl⟩⟩⟩
def obD (b:Byt):Ob:=⟨[],b⟩
def addN (l:List Byt) (x:Byt):List Byt:=if x∈l then l else l ++ [x]
def YZ (D:List Byt):List Byt:=D.foldl (fun l b=>addN l (qK (obD b))) []
theorem Vo (D:List Byt) (b:Byt):YZ (D ++ [b])=addN (YZ D) (qK (obD b)):=by
 unfold YZ;rw[List.foldl_append]
 rfl
theorem Vm {D:List Byt}(h:i<D.length):YZ (D.take (i+1))=addN (YZ (D.take i)) (qK (obD (D.getD i []))):=by
 rw[<-Vo,List.take_add_one,List.getD_eq_getElem?_getD,List.getElem?_eq_getElem h]
 rfl
theorem Vh {l:List Byt}{x:Byt}(h:l.Nodup):(addN l x).Nodup:=by
 unfold addN
 by_cases hx:x∈l
 ·rw[if_pos hx];exact h
 ·rw[if_neg hx];refine List.nodup_append.2 ⟨h,by simp,fun a ha b hb e=>hx ?_⟩;rw[List.mem_singleton] at hb;rw[<-hb,<-e];exact ha
theorem VA {l:List Byt}{x y:Byt}:y∈addN l x↔y∈l\/y=x:=by
 unfold addN
 by_cases hx:x∈l
 ·rw[if_pos hx];exact⟨.inl,fun h=>h.elim id (fun e=>e ▸ hx)⟩
 ·rw[if_neg hx];simp
theorem YX (D:List Byt):∀l:List Byt,l.Nodup->(D.foldl (fun l b=>addN l (qK (obD b))) l).Nodup:=by
 induction D with
 | nil=>intro l h;exact h
 | cons b D ih=>intro l h;exact ih _ (Vh h)
theorem Ve (D:List Byt):∀(l:List Byt) (y:Byt),y∈D.foldl (fun l b=>addN l (qK (obD b))) l↔y∈l\/∃b∈D,y=qK (obD b):=by
 induction D with
 | nil=>intro l y;simp
 | cons b D ih =>
  intro l y;rw[List.foldl_cons,ih,VA,or_assoc];refine or_congr Iff.rfl ⟨?_,?_⟩
  ·rintro (h|⟨c,h1,h2⟩)
   ·exact⟨b,by simp,h⟩
   ·exact⟨c,by simp[h1],h2⟩
  ·rintro⟨c,h1,h2⟩
   rcases List.mem_cons.1 h1 with rfl|h1
   ·exact .inl h2
   ·exact .inr ⟨c,h1,h2⟩
theorem Vp {D E:List Byt}(h:D.Perm E):Zi (YZ D)=Zi (YZ E):=by
 refine mergeSort_of_perm ((List.perm_ext_iff_of_nodup (YX D [] List.nodup_nil) (YX E [] List.nodup_nil)).2 fun y=>?_)
 show y∈List.foldl _ _ _↔y∈List.foldl _ _ _
 rw[Ve,Ve];refine or_congr Iff.rfl ⟨?_,?_⟩
 ·rintro⟨b,h1,h2⟩;exact⟨b,h.mem_iff.1 h1,h2⟩
 ·rintro⟨b,h1,h2⟩;exact⟨b,h.mem_iff.2 h1,h2⟩
theorem Vb:∀n,n<101->(dec n).length<=3:=by decide +kernel
theorem VH {b:Byt}(h:b.length<=100):pgN (obE (obD b))<=4:=by
 have h1:=Vb b.length (by omega);have h2:(Go.Lib.itoa 0).length<=3:=by decide +kernel
 have h3:(dec (0+1+1+1)).length<=3:=Vb 3 (by omega);have h4:=Vb 0 (by omega);unfold pgN obE obD wH;simp only[enc,zA,List.map_nil,List.length_nil,List.length_cons,List.length_append];omega
theorem Vd (o:Ob):∀(l:List Ob) (k:List Byt),vw k (l ++ [o])=(vw k l&&xJ (k++l.map qK) o)
 | [],k=>by
  show (xJ k o&&vw (k ++ [qK o]) [])=(vw k []&&xJ (k++List.map qK []) o)
  simp[vw]
 | p :: l,k=>by
  show (xJ k p&&vw (k ++ [qK p]) (l ++ [o]))=((xJ k p&&vw (k ++ [qK p]) l)&&xJ (k++qK p :: l.map qK) o)
  rw[Vd o l,Bool.and_assoc,List.append_assoc]
  rfl
structure SnS (s:Shf) (k:Nat):Prop where
 size:s.size=60
 half:s.half=0
 q0:0<=s.seq
 q1:s.seq<=k
 u0:0<=s.used
 u1:s.used<=4*k
 val:qN s=true
 tg:s.tags=[]
 ok:∀i,i<s.objs.length->Ok0 (s.objs.getD i default)
 no:s.objs.length<=k
theorem SnS.mono {s:Shf}(h:SnS s k):SnS s (k+1):=⟨h.size,h.half,h.q0,by have:=h.q1;omega,h.u0,by have:=h.u1;omega,h.val,h.tg,h.ok,by have:=h.no;omega⟩
theorem SnS.oks {s:Shf}(h:SnS s k) (hk:k<=900):OkS s:=⟨h.ok,fun i hi=>by rw[h.tg] at hi;exact absurd hi (Nat.not_lt_zero i),by have:=h.no;omega,by rw[h.tg];exact Nat.zero_le _⟩
theorem ok0D {b:Byt}(h:b.length<=100):Ok0 (obD b):=⟨Nat.zero_le _,by show b.length<=_;omega,fun s hs=>by cases hs⟩
theorem Vx {b:Byt}(h:b.length<=100):obC (obD b)=0:=by
 unfold obC obD;rw[if_neg (by simp;omega)]
 rfl
theorem put_D {s:Shf}{b:Byt}(h:SnS s k) (hk:k<6) (hb:b.length<=100) :
  ((yA s (obD b)).2.2.2=18/\addN (xy s) (qK (obD b))=xy s)\/((yA s (obD b)).2.2.2=0/\SnS (yA s (obD b)).1 (k+1)/\xy (yA s (obD b)).1=addN (xy s) (qK (obD b))):=by
 have hp:=VH hb;have hh:qV s.size=29:=by rw[h.size];decide
 have hu:=h.u1;have hq:=h.q1;have hq0:=h.q0;have hu0:=h.u0;cases hi:(xy s).idxOf? (qK (obD b)) with
 | some i =>
  have hm:qK (obD b)∈xy s:=by
   have:=List.isSome_idxOf? (l:=xy s) (a:=qK (obD b));rw[hi] at this;simpa using this
  have ha:addN (xy s) (qK (obD b))=xy s:=by unfold addN;rw[if_pos hm]
  by_cases hs:s.objs[i]?=some (obD b)
  ·have e1:yA s (obD b)=(s,[],qK (obD b),0):=by
    unfold yA;rw[if_neg (by rw[h.val];simp),if_neg (by rw[Vx hb];simp),hi]
    dsimp only
    rw[if_pos hs]
   rw[e1];exact .inr ⟨rfl,h.mono,ha.symm⟩
  ·have e1:yA s (obD b)=(zeroS,[],[],18):=by
    unfold yA;rw[if_neg (by rw[h.val];simp),if_neg (by rw[Vx hb];simp),hi]
    dsimp only
    rw[if_neg hs]
   rw[e1];exact .inl ⟨rfl,ha⟩
 | none =>
  have hm:qK (obD b) ∉ xy s:=by
   have:=List.isSome_idxOf? (l:=xy s) (a:=qK (obD b));rw[hi] at this;simpa using this
  have ha:addN (xy s) (qK (obD b))=xy s ++ [qK (obD b)]:=by unfold addN;rw[if_neg hm]
  have e1:(yA s (obD b)).1=⟨s.size,s.seq+1,s.half,s.used+pgN (obE (obD b)),s.objs ++ [obD b],s.tags⟩/\(yA s (obD b)).2.2.2=0:=by
   unfold yA;rw[if_neg (by rw[h.val];simp),if_neg (by rw[Vx hb];simp),hi]
   dsimp only
   rw[if_neg (by simp[obD])];unfold XC;rw[if_neg (by rw[hh];omega)];exact⟨rfl,rfl⟩
  rw[e1.1,e1.2];refine .inr ⟨rfl,⟨h.size,h.half,by show 0<=s.seq+1;omega,by show s.seq+1<=_;omega,by show 0<=s.used+_;omega,by show s.used+_<=_;omega,?_,h.tg,?_,?_⟩,?_⟩
  ·have hv:=h.val;unfold qN at hv ⊢;rw[Bool.and_eq_true,Bool.and_eq_true,Bool.and_eq_true] at hv;obtain⟨v1,v2,v3,v4⟩:=hv;rw[Bool.and_eq_true,Bool.and_eq_true,Bool.and_eq_true];refine⟨?_,?_,?_,?_⟩
   ·unfold headB;simp only[Bool.and_eq_true,decide_eq_true_eq];rw[hh,h.size,h.half];omega
   ·show vw [] (s.objs ++ [obD b])=true
    rw[Vd,v2,Bool.true_and,List.nil_append];unfold xJ;rw[Vx hb];have:(List.map qK s.objs).contains (qK (obD b))=false:=by simpa[xy] using hm
    rw[this]
    rfl
   ·show QH _ none s.tags=true
    rw[h.tg]
    rfl
   ·rw[decide_eq_true_eq] at v4 ⊢;unfold pgs at v4 ⊢
    show ((((s.objs ++ [obD b]).map fun o=>pgN (obE o)).sum+(s.tags.map fun t=>pgN (tgE t)).sum:Nat):Int)<=s.used+pgN (obE (obD b))
    rw[List.map_append,List.sum_append];simp only[List.map_cons,List.map_nil,List.sum_cons,List.sum_nil];omega
  ·intro i hi9
   show Ok0 ((s.objs ++ [obD b]).getD i default)
   rw[Xl]
   by_cases h1:i<s.objs.length
   ·rw[if_pos h1];exact h.ok i h1
   ·have h2:i=s.objs.length:=by
     have:i<(s.objs ++ [obD b]).length:=hi9;simp at this
     omega
    rw[if_neg h1,if_pos h2];exact ok0D hb
  ·show (s.objs ++ [obD b]).length<=_
   have:=h.no
   simp
   omega
  ·show (s.objs ++ [obD b]).map qK=_
   rw[List.map_append,ha]
   rfl
theorem sns0:SnS ⟨60,0,0,0,[],[]⟩ 0:=⟨rfl,rfl,by decide,by decide,by decide,by decide,by decide +kernel,rfl,fun i hi=>absurd hi (Nat.not_lt_zero i),q_r⟩
def VC (w:World) (v:Value) (n:Nat) (l:List Byt):Prop:=n=l.length/\kS w v l
theorem VC.form{l:List Byt}(h:VC w v n l):∃A c,v=.slice A n c/\n<=c/\c<=maxLen:=by
 obtain⟨rfl,h⟩:=h;exact jT.form h
theorem VC.ext{l:List Byt}(h:VC w v n l) (e:Ext w w'):VC w' v n l:=⟨h.1,h.2.ext e⟩
theorem VC.addr{l:List Byt}(h:VC w (.slice A n c) n l) (h0:0<n):∃g off,A=some ⟨g,off,none⟩/\∀i,i<n->∃x,w.cell? ⟨g,off+i,none⟩=some x/\ByV w x (l.getD i []):=by
 obtain⟨rfl,h⟩:=h;exact jT.addr h h0
theorem VM{u:Value}{b:Byt}(h:ByV w u b):Calls Tryz.prog 26 #[u] w (qR w (.bool (decide (100<b.length)))):=by
 obtain⟨A,c,rfl,-⟩:=h.form;obtain⟨n,hn⟩:=qc b.length;rw[<-hn.out];clear h
 by_cases h9:100<n
 ·have u1:decide ((100:Int)<(n:Int))=true:=q_t (by omega);have u2:decide (100<n)=true:=q_t h9;rw[u2];go_enter Tryz.func26,Tryz.ntmps26;go_wp2
  first|go_ret|skip
  exact⟨rfl,Ext.refl w⟩
 ·have u1:decide ((100:Int)<(n:Int))=false:=q_f (by omega);have u2:decide (100<n)=false:=q_f h9;rw[u2];go_enter Tryz.func26,Tryz.ntmps26;go_wp2
  first|go_ret|skip
  exact⟨rfl,Ext.refl w⟩
theorem VF{l:List Byt}(h:VC w v n l)  (g:Nat->Bool)
  (hf:∀i,i<n->∀w' u,Ext w w'->ByV w' u (l.getD i [])->Calls Tryz.prog 26 #[u] w' (qR w' (.bool (g i)))) :
  Calls Tryz.prog 93 #[v,.func (.func 26) #[] #[]] w (QE w (xU n g)):=by
 obtain⟨r,hr⟩:=qc (xU n g);rw[<-hr.out];obtain⟨A,c,rfl,hnc,hcm⟩:=h.form;unfold maxLen at hcm;have hI:=h;have HF:=q_h hf;clear h hf;go_enter Tryz.func93,Tryz.ntmps93;go_wp2
 go_loopw [8] (fun i wr=>∃k:Nat,k<=n/\i=.int .i64 k/\Hid (∀j,j<k->g j=false)/\Ext w wr) (fun i _=>n-(intOf i).toNat)
 case atStart=>exact⟨0,Nat.zero_le _,rfl,fun j hj=>absurd hj (by omega),Ext.refl w⟩
 case round =>
  obtain⟨k,hk,rfl,HA,hE⟩:=hrel
  by_cases hlt:k<n
  ·(obtain⟨b,off,rfl,hx⟩:=(hI.ext hE).addr (by omega));(obtain⟨u,p0,hv⟩:=hx k hlt)
   clear hx;go_wp2_with (go_at_call 26;refine q_o ?_);refine (HF.out k hlt _ _ hE hv).mono ?_;rintro e w1 ⟨rfl,e1⟩;replace hE:=hE.trans e1;obtain⟨o,ho⟩:=qc (g k);rw[<-ho.out];cases o with
   | false =>
    go_wp2;go_roundw
    case rel=>exact⟨k+1,by omega,by go_num,jg (p:=fun j=>g j=false) HA.out ho.out.symm,hE⟩
    case measure=>simp[intOf];omega
   | true =>
    have HT:Hid (r=true):=by rw[Hid,hr.out];exact zI hlt ho.out.symm
    go_wp2;go_ret;exact⟨_,rfl,by rw[Hid,HT.out];symm;simp,hE⟩
  ·have HT:Hid (r=false):=by rw[Hid,hr.out];exact qW.2 (fun j hj=>HA.out j (by omega))
   go_wp2;go_ret;exact⟨_,rfl,by rw[Hid,HT.out];rfl,hE⟩
theorem VG{l:List Byt}(h:VC w v n l)  (g:Nat->Bool)
  (hf:∀i,i<n->∀w' u,Ext w w'->ByV w' u (l.getD i [])->Calls Tryz.prog 26 #[u] w' (qR w' (.bool (g i)))) :
  Calls Tryz.prog 25 #[v,.func (.func 26) #[] #[]] w (qR w (.bool (xU n g))):=by
 obtain⟨r,hr⟩:=qc (xU n g);rw[<-hr.out];obtain⟨A,c,rfl,hnc,hcm⟩:=h.form;have hI:=h;have HF:=q_h hf;clear h hf;go_enter Tryz.func25,Tryz.ntmps25;go_wp2_with (go_at_call 93;refine q_o ?_);refine (VF hI  g HF.out).mono ?_;rintro e w1 ⟨z,rfl,hz,e1⟩;rw[<-hr.out] at hz;go_wp2;go_ret;exact⟨qJ hz.out.symm,e1⟩
theorem Vw{l:List Byt}(h:kS w v l):Calls Tryz.prog 25 #[v,.func (.func 26) #[] #[]] w (qR w (.bool (xU l.length fun i=>decide (100<(l.getD i []).length)))) :=
 VG (n:=l.length) ⟨rfl,h⟩ _ (fun _ _ _ _ _ hu=>VM hu)
theorem VP (HT:kF){s:Shf}{A1 A2:Option Addr}{n1 c1 n2 c2:Nat}(hO:vN w (.slice A1 n1 c1) s.objs) (hTg:wZ w (.slice A2 n2 c2) s.tags) (hok:OkS s) (he:zX w.heap.size w):IdxOk s (.agg #[.int .i64 s.size,.int .i64 s.seq,.int .i64 s.half,.int .i64 s.used,.slice A1 n1 c1,.slice A2 n2 c2]) w:=fun _ e =>
 vW HT (hO.ext e) (hTg.ext e) hok.ob hok.tg (by have:=hok.no;omega) hok.nt (he.ext e).tab
def VI:List Byt:=(List.range 60).map Yt
def s60:Shf:=⟨60,0,0,0,[],[]⟩
theorem VR:qH VI 2=(true,s60):=yN (by decide +kernel) rfl rfl
theorem med60 (a:Int) (b:Bool):zU ⟨VI,[],a,b⟩:=⟨(by decide +kernel:8<=(VI).length),(by decide +kernel:(VI).length<=4096),lenP (VI) (by decide +kernel),rfl⟩
theorem log60:KL VI s60=[]:=rfl
def ObK (w:World) (v:Value) (L:List Ob):Prop:=vN w v L/\(L=[]\/∃b,ObG b w v L)
theorem ObK.ext{L:List Ob}(h:ObK w v L) (e:Ext w w'):ObK w' v L:=⟨h.1.ext e,h.2.imp id (fun ⟨b,h⟩=>⟨b,h.ext e⟩)⟩
theorem VE(h:wZ w v []):wZ w' v []:=by
 obtain⟨A,c,h1,h2,h3,-⟩:=h;exact⟨A,c,h1,h2,h3,fun h=>absurd h (Nat.lt_irrefl 0)⟩
structure SnW (w0:World) (gs:Nat) (s:Shf) (A B:Option Addr) (n c m d:Nat) (w:World):Prop where
 blk:w.heap[gs]?=some (.cells #[.int .i64 s.size,.int .i64 s.seq,.int .i64 s.half,.int .i64 s.used,.slice A n c,.slice B m d] 25 (0,0))
 ob:ObK w (.slice A n c) s.objs
 tg:wZ w (.slice B m d) []
 x:Ext w0 w
 hg:w0.heap.size<=gs
theorem SnW.ext {w0:World}{gs:Nat}{s:Shf}{B:Option Addr}(h:SnW w0 gs s A B n c m d w) (e:Ext w w'):SnW w0 gs s A B n c m d w':=⟨e.block h.blk,h.ob.ext e,h.tg.ext e,h.x.trans e,h.hg⟩
def VB (l:List Byt) (w:World) (e:Ending) (w':World):Prop:=∃g,e=.returned (.tuple #[.slice (some ⟨g,0,none⟩) l.length l.length,.bool true])/\QY w.heap.size w' g l/\Ext w w'
theorem V6 {D:List Byt}(hD:kS w v D) (hl:D.length<=6) (hb:∀i,i<D.length->(D.getD i []).length<=100) (he:zX w.heap.size w):Calls Tryz.prog 27 #[v] w (VB (Zi (YZ D)) w):=by
 obtain⟨R,hR⟩:=qc (VB (Zi (YZ D)) w);rw[<-hR.out];have HEV:=q_h he;have HD:=q_h hD;have HB:=q_h hb;obtain⟨A0,c0,rfl,-⟩:=jT.form hD;obtain⟨N,hN⟩:=qc D.length;rw[<-hN.out] at hl ⊢;clear he hD hb;go_enter Tryz.func27,Tryz.ntmps27;have HF:Hid (Calls Tryz.prog 20 #[.int .i64 60] w (Y3 w 60)):=QN (n:=60) (by omega) (by omega) HEV.out.mark;go_wp2_with (go_at_call 20;refine q_o ?_);refine HF.out.mono ?_;rintro e w1 ⟨A1,c1,rfl,hP1,e1⟩
 have HP1:Hid (kS w1 (.slice A1 60 c1) VI):=hP1.pgs (fun j hj=>by
  unfold Yt
  split
  ·exact ja _ _ _
  ·exact zl 64)
 have HX1:=q_h e1;clear hP1 e1 HF;go_upto_region 2 with (fail);refine qo ?_;intro w2 e2 hsz2 B2;obtain⟨g1,hg1⟩:=qc w1.heap.size;rw[<-hg1.out] at B2 ⊢;have HM2:=q_h B2;have HP2:=q_h (HP1.out.ext e2);have HX2:=q_h (HX1.out.trans e2);clear e2 B2 HP1 HX1
 have HLD:Hid (Calls Tryz.prog 21 #[.agg #[.slice A1 60 c1,.slice none 0 0,.int .i64 (-1),.bool false]] w2 (KI 60 0 0 0 [] [] 0 0 w2)):=by
  rw[Hid];exact Ji (s:=s60) HP2.out (zx w2) rfl (med60 _ _) (HEV.out.ext HX2.out).mark VR (Int.le_refl _) (by decide) (by rw[log60];exact XV w2 s60 ⟨rfl,rfl⟩)
 obtain⟨m0,m1,m2,m3⟩:=qp HM2.out;go_wp2_with (go_at_call 21;refine q_o ?_);refine HLD.out.mono ?_;rintro e w3 ⟨A3,c3,B3,d3,rfl,hO3,hT3,e3⟩;have HO3:=q_h hO3;have HT3:=q_h hT3;have HX3:=q_h (HX2.out.trans e3);clear e3 hO3 hT3 HP2 HX2 HLD m0 m1 m2 m3 HM2;go_upto_region 3 with (fail);refine qo ?_;intro w4 e4 hsz4 B4;obtain⟨gs,hgs⟩:=qc w3.heap.size;rw[<-hgs.out] at B4 ⊢;have HW4:Hid (SnW w gs s60 A3 B3 0 c3 0 d3 w4):=⟨B4,⟨HO3.out.ext e4,.inl rfl⟩,HT3.out.ext e4,HX3.out.trans e4,by rw[hgs.out];exact HX3.out.size⟩
 clear e4 B4 HO3 HT3 HX3;go_wp2_with fail
 go_loopw [32] (fun iv wr=>∃(k:Nat) (s:Shf) (A B:Option Addr) (n c m d:Nat),k<=N/\iv=.int .i64 (k:Int)/\Hid (n=s.objs.length/\m=s.tags.length)/\Hid (SnS s k/\xy s=YZ (D.take k))/\Hid (SnW w gs s A B n c m d wr)) (fun iv _=>N-(intOf iv).toNat)
 case atStart=>exact⟨0,s60,A3,B3,0,c3,0,d3,Nat.zero_le _,rfl,⟨rfl,rfl⟩,⟨sns0,rfl⟩,HW4⟩
 case round =>
  clear HW4;obtain⟨k,s,A,B,n,c,m,d,hk9,rfl,HNM,HS,HW⟩:=hrel
  by_cases hlt:k<N
  case neg =>
   obtain rfl:k=N:=by omega
   have u5:decide ((k:Int)<(k:Int))=false:=q_f (by omega);obtain⟨m0,m1,m2,m3,m4,m5⟩:=qx HW.out.blk
   have HCN:Hid (Calls Tryz.prog 28 #[.agg #[.int .i64 s.size,.int .i64 s.seq,.int .i64 s.half,.int .i64 s.used,.slice A n c,.slice B m d]] wr (YM s wr)) :=
    Ya (VP vT HW.out.ob.1 (by rw[HS.out.1.tg];exact HW.out.tg) (HS.out.1.oks (by omega)) ((HEV.out.ext HW.out.x).low HW.out.x.size)) (by have:=HS.out.1.no;omega)
   obtain⟨z1,hz1⟩:=qc s.size;obtain⟨z2,hz2⟩:=qc s.seq;obtain⟨z3,hz3⟩:=qc s.half;obtain⟨z4,hz4⟩:=qc s.used;rw[<-hz1.out,<-hz2.out,<-hz3.out,<-hz4.out] at HCN;rw[<-hz1.out] at m0;rw[<-hz2.out] at m1;rw[<-hz3.out] at m2;rw[<-hz4.out] at m3;go_wp2_with (go_at_call 28;refine q_o ?_);refine HCN.out.mono ?_;rintro e w5 (⟨hv,rfl,e5⟩|⟨hv,g,rfl,ha,e5⟩)
   ·rw[HS.out.1.val] at hv;cases hv
   have HX5:=q_h (HW.out.x.trans e5);have HA5:Hid (QY w.heap.size w5 g (s.objs.map qK)):=⟨q_l HW.out.x.size ha.1,ha.2⟩
   obtain⟨L,hL⟩:=qc (s.objs.map qK)
   have HLE:Hid (L=YZ D):=by
    have h1:=HS.out.2;rw[hN.out,List.take_length] at h1;rw[Hid,hL.out];exact h1
   rw[<-hL.out] at HA5;have hlen:s.objs.length=L.length:=by rw[hL.out,List.length_map]
   rw[hlen];have HLN:Hid (L.length<=6):=by rw[Hid,<-hlen];have:=HS.out.1.no;omega
   clear hv ha e5 hlen m0 m1 m2 m3 m4 m5 HCN;go_wp2_with (go_at_call 29;refine q_o ?_);refine (sl_sortS HA5.out (by have:=HLN.out;omega)).mono ?_;rintro e w6 ⟨rfl,ha6,hg6⟩;have HA6:=q_h ha6;have HX6:Hid (Ext w w6):=HX5.out.grown hg6 (fun k hk=>by injection hk with hk;rw[<-hk];exact HA5.out.1);clear ha6 hg6;go_wp2
   first|go_ret2|skip
   rw[hR.out];refine⟨g,?_,?_,HX6.out⟩
   ·rw[X5,<-HLE.out]
    rfl
   ·rw[<-HLE.out];exact HA6.out
  have u5:decide ((k:Int)<(N:Int))=true:=q_t (by omega);have u6:(k:Int)<(N:Int):=by omega
  obtain⟨gD,oD,rfl,hx⟩:=jT.addr (show jT (fun i x=>ByV wr x (D.getD i [])) wr (.slice A0 N c0) N by have h1:=HD.out.ext HW.out.x;unfold kS at h1;rw[<-hN.out] at h1;exact h1) (by omega);obtain⟨u,k0,hu⟩:=hx k hlt;obtain⟨Au,nu,cu,rfl,-⟩:∃A n c,u=.slice A n c/\True:=by obtain⟨A,c,h,-⟩:=hu.form;exact⟨A,_,c,h,trivial⟩
  have HU:=q_h hu;clear hx hu;obtain⟨m0,m1,m2,m3,m4,m5⟩:=qx HW.out.blk
  have HPT:Hid (Calls Tryz.prog 13 #[.agg #[.int .i64 s.size,.int .i64 s.seq,.int .i64 s.half,.int .i64 s.used,.slice A n c,.slice B m d],.agg #[.slice none 0 0,.slice Au nu cu]] wr (KG (yA s (obD (D.getD k []))) wr)) :=
   X0 vT HW.out.ob.1 (by rw[HS.out.1.tg];exact HW.out.tg) (HS.out.1.oks (by omega)) (show ObR wr (.slice none 0 0) (.slice Au nu cu) (obD (D.getD k [])) from ⟨Xf wr,HU.out⟩) (ok0D (HB.out k (by rw[<-hN.out];exact hlt))) ((HEV.out.ext HW.out.x).low HW.out.x.size)
  obtain⟨r,hr⟩:=qc (yA s (obD (D.getD k [])))
  have HR:Hid ((r.2.2.2=18/\addN (xy s) (qK (obD (D.getD k [])))=xy s)\/(r.2.2.2=0/\SnS r.1 (k+1)/\xy r.1=addN (xy s) (qK (obD (D.getD k []))))):=by
   rw[Hid,hr.out];exact put_D HS.out.1 (by omega) (HB.out k (by rw[<-hN.out];exact hlt))
  have HNX:Hid (YZ (D.take (k+1))=addN (xy s) (qK (obD (D.getD k [])))):=by
   rw[Hid,HS.out.2];exact Vm (by rw[<-hN.out];exact hlt)
  rw[<-hr.out] at HPT;obtain⟨z1,hz1⟩:=qc s.size;obtain⟨z2,hz2⟩:=qc s.seq;obtain⟨z3,hz3⟩:=qc s.half;obtain⟨z4,hz4⟩:=qc s.used;rw[<-hz1.out,<-hz2.out,<-hz3.out,<-hz4.out] at HPT;rw[<-hz1.out] at m0;rw[<-hz2.out] at m1;rw[<-hz3.out] at m2;rw[<-hz4.out] at m3;go_wp2_with (go_at_call 13;refine q_o ?_);refine HPT.out.mono ?_;rintro e w5 ⟨sv,av,rfl,⟨x5,y5,rfl,hx5,hy5⟩,hav5,e5⟩;obtain⟨b1,hx5⟩:=hx5;obtain⟨b2,hy5⟩:=hy5;obtain⟨X1,X2,rfl,-⟩:=hx5.form;obtain⟨Y1,Y2,rfl,-⟩:=hy5.tgs.form;obtain⟨AV,cv,rfl,-⟩:=hav5.form;have HX5:=q_h hx5;have HY5:=q_h hy5.tgs;have HW5:=q_h (HW.out.ext e5);obtain⟨la,hla⟩:=qc r.2.1.length;obtain⟨lx,hlx⟩:=qc r.1.objs.length;obtain⟨ly,hly⟩:=qc r.1.tags.length;rw[<-hlx.out] at HX5;rw[<-hly.out] at HY5;rw[<-hla.out,<-hlx.out,<-hly.out];obtain⟨y1,hy1⟩:=qc r.1.size;obtain⟨y2,hy2⟩:=qc r.1.seq;obtain⟨y3,hy3⟩:=qc r.1.half;obtain⟨y4,hy4⟩:=qc r.1.used;rw[<-hy1.out,<-hy2.out,<-hy3.out,<-hy4.out];obtain⟨nm,hnm⟩:=qc (bA r.2.2.1);rw[kH,<-hnm.out];clear hx5 hy5 hav5 e5 HPT m0 m1 m2 m3 m4 m5 k0 HU HW;go_upto_region 9 with (fail);refine qo ?_;intro w6 e6 hsz6 B6;obtain⟨gt,hgt⟩:=qc w5.heap.size;rw[<-hgt.out] at B6 ⊢;have HT6:=q_h B6;have HX6:=q_h (HX5.out.ext e6);have HY6:=q_h (HY5.out.ext e6);have HW6:=q_h (HW5.out.ext e6);clear e6 B6 HX5 HY5 HW5;obtain⟨rc,hrc⟩:=qc r.2.2.2;rw[<-hrc.out]
  rcases HR.out with ⟨hc,ha⟩|⟨hc,hs,hnn⟩
  ·obtain rfl:rc=18:=hrc.out.trans hc;have HS2:Hid (SnS s (k+1)/\xy s=YZ (D.take (k+1))):=⟨HS.out.1.mono,by rw[HNX.out,ha]⟩
   clear hc ha HR;go_wp2;go_roundw
   case rel=>exact⟨k+1,s,A,B,n,c,m,d,by omega,by go_num,HNM,HS2,HW6⟩
   case measure=>simp[intOf];omega
  ·obtain rfl:rc=0:=hrc.out.trans hc;have HS2:Hid (SnS r.1 (k+1)/\xy r.1=YZ (D.take (k+1))):=⟨hs,by rw[HNX.out,hnn]⟩
   clear hc hs hnn HR;go_upto_region 12 with (fail);obtain⟨t0,t1,t2,t3,t4,t5⟩:=qx HT6.out;refine wp_region_lit ?_;refine wpList_plain rfl (fun K hK=>?_);go_simp;refine hK _ _ ?_;clear hK K;try simp only[nr]
   refine qf rfl 25 _ _ rfl (by rfl) (by rfl) HW6.out.blk qQ (by rfl) (by rfl) (by rfl) ?_;intro w7 B7 U7;have HC7:=U7.chg (NoU.mk HW6.out.blk (by decide))
   have HW7:Hid (SnW w gs r.1 X1 Y1 lx X2 ly Y2 w7):=by
    refine⟨?_,⟨(HX6.out.chgT HC7 HW6.out.blk (by decide) (by decide) (by decide)).obs,.inr ⟨_,HX6.out.chgT HC7 HW6.out.blk (by decide) (by decide) (by decide)⟩⟩,?_,HC7.ext HW6.out.x HW6.out.hg,HW6.out.hg⟩
    ·rw[<-hy1.out,<-hy2.out,<-hy3.out,<-hy4.out];exact B7
    ·have h1:=HY6.out;rw[HS2.out.1.tg] at h1;exact VE h1
   have HNM2:Hid (lx=r.1.objs.length/\ly=r.1.tags.length):=⟨hlx.out,hly.out⟩
   clear B7 U7 HC7 t0 t1 t2 t3 t4 t5 HW6;go_wp2;go_roundw
   case rel=>exact⟨k+1,r.1,X1,Y1,lx,X2,ly,Y2,by omega,by go_num,HNM2,HS2,HW7⟩
   case measure=>simp[intOf];omega
end
section
open Go.RowKit Go.Shelf Go.Sort
def VO:Go.Shelf.Ren:=⟨fun|45=>31|_=>0,fun|0=>0|3=>3|4=>4|22=>44|23=>27|_=>0,fun _=>0⟩
theorem VL:Go.Proofs.SlLaysE.n45 Tryz.prog VO:=by
 constructor
 all_goals first|kernel_rfl|(intro w;kernel_rfl)|exact⟨Tryz.f31.name,by decide,Tryz.func31.trans (congrArg some (by kernel_rfl))⟩
abbrev Tri:=Option Addr×Nat×Nat
def Vj (t:Tri):Value:=.slice t.1 t.2.1 t.2.2
def Vu:Value->Tri
 | .slice A n c=>(A,n,c)
 | _=>(none,0,0)
theorem VK:OneCell Vj:=fun _=>rfl
theorem PgH.del{w0:World}{l:List Byt}(h:PgH base w0 w v l) (hi:i<l.length) (hl:l.length<=1000000) :
  Calls Tryz.prog 31 #[v,.int .i64 (i:Int),.int .i64 ((i:Int)+1)] w (fun e w'=>∃g c,v.ownBlock=some g/\base<=g/\w.heap[g]?≠none/\e=.returned (.slice (some ⟨g,0,none⟩) (l.length-1) c)/\PgH base w0 w' (.slice (some ⟨g,0,none⟩) (l.length-1) c) (l.eraseIdx i)/\Chg g (g+1) w w'):=by
 obtain⟨xs,h1,hG,h3⟩:=h
 rcases hG.2.2 with ⟨-,h2⟩|⟨g,cap,cur,rfl,hb,hh,h4,h5,h6,h7⟩
 ·exfalso;omega
 rw[h1] at h4 h7 ⊢;rw[Nat.mul_one] at h6 h7
 have hv:∀x∈xs,Vj (Vu x)=x:=fun x hx=>by
  obtain⟨j,hj,rfl⟩:=List.getElem_of_mem hx;obtain⟨A,c,e,-⟩:=(h3 j hj).form;rw[e]
  rfl
 have hds:(xs.map Vu).toArray.size=l.length:=by simp[h1]
 have hcj:∀j,(hj:j<l.length)->cur[j]?=some (xs[j]'(by omega)):=fun j hj=>by
  have e1:(cur.toList.take l.length)[j]?=cur[j]?:=by rw[List.getElem?_take,if_pos hj,Array.getElem?_toList]
  rw[<-e1,h7,List.getElem?_eq_getElem (by omega)]
 have hH:Holds Vj w g 0 (xs.map Vu).toArray:=fun j hj=>by
  have hj':j<l.length:=by rw[<-hds];exact hj
  refine⟨?_,qm hh _⟩;rw[qh hh,Nat.zero_add,hcj j hj'];have e2:(xs.map Vu).toArray[j]! = Vu (xs[j]'(by omega)):=by simp[h1,hj']
  rw[e2,hv _ (List.getElem_mem _)]
 obtain⟨i0,hi0,-,hz1,-⟩:=info_parts wF.inf;have hcon:=AnyE.slices_Delete VL Vj VK (none,0,0) (fun w=>by kernel_rfl) i0 hi0 hz1 g 0 cap i (i+1) (xs.map Vu).toArray w hH (by rw[hds];exact h4) (by unfold maxLen at h5;omega) (Nat.le_succ i) (by rw[hds];omega);rw[hds] at hcon;have he1:((i+1:Nat):Int)=(i:Int)+1:=by push_cast;rfl
 rw[he1] at hcon;refine Calls.mono (show Calls Tryz.prog 31 #[.slice (some ⟨g,0,none⟩) l.length cap,.int .i64 (i:Int),.int .i64 ((i:Int)+1)] w _ from hcon) ?_;rintro e w' ⟨rfl,q,rfl⟩;have hsub:i+1-i=1:=by omega
 rw[hsub];obtain⟨D,hD⟩:=qc (((xs.map Vu).toArray.toList.take i++(xs.map Vu).toArray.toList.drop (i+1)++List.replicate 1 ((none,0,0):Tri)));have hDl:D.length=l.length:=by rw[hD.out];simp[h1];omega
 have hDe:∀j,j<l.length-1->(D.map Vj)[j]?=(xs.eraseIdx i)[j]?:=fun j hj=>by
  have e3:D.map Vj=xs.eraseIdx i ++ [Vj (none,0,0)]:=by
   rw[hD.out,List.map_append,List.map_append];simp only[List.map_take,List.map_drop,List.map_map,List.eraseIdx_eq_take_drop_succ];have e4:xs.map (Vj ∘ Vu)=xs:=(List.map_congr_left (fun x hx=>hv x hx)).trans (List.map_id _);rw[e4]
   rfl
  rw[e3,List.getElem?_append_left (by rw[List.length_eraseIdx];split<;>omega)]
 rw[<-hD.out];have hP:=holds_putRow Vj (Sort.ahead w q) g 0 (xs.map Vu).toArray D.toArray hH (by rw[hds];simpa using hDl)
 have h8:(putRow Vj (Sort.ahead w q) g 0 D.toArray).heap[g]?=some (.cells (putCells Vj 0 D.toArray cur) 27 (0,0)):=by
  have e5:(Sort.ahead w q).heap[g]?=some (.cells cur 27 (0,0)):=hh;unfold putRow mapBlock;rw[Array.getElem?_modify,if_pos rfl,e5]
  rfl
 have hC:Chg g (g+1) w (putRow Vj (Sort.ahead w q) g 0 D.toArray):=by
  refine⟨rfl,rfl,rfl,by simp[Sort.ahead],fun k hk hc=>?_⟩
  have hne:g≠k:=by
   rintro rfl
   rcases hc with hc|hc|⟨cs,fr,hc⟩
   ·omega
   ·omega
   ·rw[hh] at hc;injection hc with hc
    injection hc with _ e2 _
    exact absurd e2 (by decide)
  simp[putRow,mapBlock,Sort.ahead,Array.getElem?_modify,hne]
 refine⟨g,cap,rfl,hb,by rw[hh];simp,rfl,⟨xs.eraseIdx i,?_,?_,fun j hj=>?_⟩,hC⟩
 ·rw[List.length_eraseIdx,List.length_eraseIdx,h1]
 ·have hlx:(xs.eraseIdx i).length=l.length-1:=by rw[List.length_eraseIdx,if_pos (by omega)];omega
  refine⟨q_l hG.1 hC.size,by simp,.inr ⟨g,cap,_,by rw[hlx],hb,h8,by omega,h5,by rw[Nat.mul_one];unfold putCells;simpa using h6,?_⟩⟩;rw[Nat.mul_one,hlx];refine List.ext_getElem? fun j=>?_
  rw[List.getElem?_take]
  by_cases hj:j<l.length-1
  ·rw[if_pos hj,Array.getElem?_toList];have h9:=(hP j (by simp;omega)).1;rw[Nat.zero_add,qh h8] at h9;rw[h9,<-hDe j hj,List.getElem?_map,List.getElem?_eq_getElem (by omega)];have e6:D.toArray[j]! = D[j]'(by omega):=by simp[show j<D.length by omega]
   rw[e6]
   rfl
  ·rw[if_neg hj,List.getElem?_eq_none (by omega)]
 ·have hjl:j<l.length-1:=by rw[List.length_eraseIdx,if_pos (by omega)] at hj;omega
  rw[List.getElem_eraseIdx,List.getD_eq_getElem?_getD,List.getElem?_eraseIdx]
  by_cases hji:j<i
  ·rw[dif_pos hji,if_pos hji,<-List.getD_eq_getElem?_getD];exact h3 j (by omega)
  ·rw[dif_neg hji,if_neg hji,<-List.getD_eq_getElem?_getD];exact h3 (j+1) (by omega)
end
section
open Go.RowKit
theorem PgH.snoc{w0:World}{v' x:Value}{l:List Byt}{b:Byt}{xs:List Value}(h1:xs.length=l.length) (h3:∀i (hi:i<xs.length),ByV w0 xs[i] (l.getD i [])) (hx:ByV w0 x b) (hG:qw 27 base w' v' (xs ++ [x])):PgH base w0 w' v' (l ++ [b]):=by
 refine⟨xs ++ [x],by simp[h1],hG,fun i hi=>?_⟩
 by_cases h:i<xs.length
 ·rw[List.getElem_append_left h,List.getD_eq_getElem?_getD,List.getElem?_append_left (by omega),<-List.getD_eq_getElem?_getD];exact h3 i h
 ·have h2:i=xs.length:=by simp at hi;omega
  subst h2;rw[List.getElem_append_right (q_r),List.getD_eq_getElem?_getD,List.getElem?_append_right (by omega)];simpa[h1] using hx
theorem PgH.far{w0:World}{l:List Byt}(h:PgH base w0 w v l) (C:Chg g (g+1) w w') (hd:v.ownBlock≠some g):PgH base w0 w' v l:=by
 obtain⟨xs,h1,h2,h3⟩:=h
 exact⟨xs,h1,h2.far C (fun k hk=>by
  have:k≠g:=fun e=>hd (by rw[hk,e])
  omega),h3⟩
theorem PgH.own_lt{w0:World}{l:List Byt}(h:PgH base w0 w v l):∀k,v.ownBlock=some k->base<=k/\k<w.heap.size:=by
 obtain⟨xs,h1,h2,h3⟩:=h;exact h2.own_lt
theorem PgH.get{w0:World}{l:List Byt}(h:PgH base w0 w v l) (hj:j<l.length):∃g c A n k,v=.slice (some ⟨g,0,none⟩) l.length c/\w.cell? ⟨g,j,none⟩=some (.slice A n k)/\ByV w0 (.slice A n k) (l.getD j []):=by
 obtain⟨xs,h1,h2,h3⟩:=h;obtain⟨g,cap,hv,-,-,-,-,-,h5⟩:=h2.at_ (by omega);obtain⟨A,k,hk,-⟩:=(h3 j (by omega)).form;refine⟨g,cap,A,_,k,by rw[hv,h1],?_,by rw[<-hk];exact h3 j (by omega)⟩;rw[<-hk];exact h5 j (by omega)
structure SnL (w0 w:World) (u v:Value) (rl ol D:List Byt):Prop where
 r:PgH w0.heap.size w0 w u rl
 o:PgH w0.heap.size w0 w v ol
 d:∀q,u.ownBlock=some q->v.ownBlock≠some q
 p:(ol++rl).Perm D
 x:Ext w0 w
theorem Vz (D:List Byt):∀l:List Byt,(D.foldl (fun l b=>addN l (qK (obD b))) l).length<=l.length+D.length:=by
 induction D with
 | nil=>intro l;exact q_r
 | cons b D ih =>
  intro l;refine q_l (ih _) ?_
  have:(addN l (qK (obD b))).length<=l.length+1:=by
   unfold addN
   split
   ·omega
   ·simp
  simp only[List.length_cons];omega
theorem Vy (D:List Byt):(YZ D).length<=D.length:=by
 have:=Vz D [];unfold YZ;simpa using this
theorem YW:∀(l:List Byt) (i:Nat),i<l.length->(l.getD i [] :: l.eraseIdx i).Perm l
 | [],i,h=>absurd h (Nat.not_lt_zero i)
 | a :: l,0,_=>List.Perm.refl _
 | a :: l,i+1,h=>(List.Perm.swap a (l.getD i []) (l.eraseIdx i)).trans (List.Perm.cons a (YW l i (by simpa using h)))
theorem V4 {ol rl D:List Byt}(h:(ol++rl).Perm D) (hi:i<rl.length):((ol ++ [rl.getD i []])++rl.eraseIdx i).Perm D:=by
 refine List.Perm.trans ?_ h;rw[List.append_assoc];refine List.Perm.append_left _ ?_;exact YW rl i hi
theorem YV {D:List Byt}{ord:Byt}{B:Option Addr}{M:Nat}(hD:kS w (.slice A N c) D) (ho:ByV w (.slice B M d) ord) (he:zX w.heap.size w) (hk:Calls Tryz.prog 10 #[] w (qR w (.bool true))) :
  Calls Tryz.prog 5 #[.slice A N c,.slice B M d] w (qR w (.bool true)):=by
 have HD:=q_h hD;have HO:=q_h ho;have HEV:=q_h he;have HK:=q_h hk;have hND:N=D.length:=by obtain⟨A',c',h1,-⟩:=hD;exact (Value.slice.inj h1).2.1
 have hMO:M=ord.length:=by obtain⟨A',c',h1,-⟩:=ho.form;exact (Value.slice.inj h1).2.1
 have HND:=q_h hND;have HMO:=q_h hMO;clear hD ho he hk hND hMO;go_enter Tryz.func5,Tryz.ntmps5;go_wp2_with (go_at_call 10;refine q_o ?_);refine HK.out.mono ?_;rintro e w1 ⟨rfl,e1⟩;have HX1:=q_h e1;clear e1 HK
 by_cases h6:6<N
 ·have u1:decide ((6:Int)<(N:Int))=true:=q_t (by omega);go_wp2
  first|go_ret|skip
  exact⟨rfl,HX1.out⟩
 have u1:decide ((6:Int)<(N:Int))=false:=q_f (by omega);have HCA:Hid (Calls Tryz.prog 25 #[.slice A N c,.func (.func 26) #[] #[]] w1 (qR w1 (.bool (xU D.length fun i=>decide (100<(D.getD i []).length))))):=Vw (HD.out.ext HX1.out);obtain⟨q,hq⟩:=qc (xU D.length fun i=>decide (100<(D.getD i []).length));rw[<-hq.out] at HCA;go_wp2_with (go_at_call 25;refine q_o ?_);refine HCA.out.mono ?_;rintro e w2 ⟨rfl,e2⟩;have HX2:=q_h (HX1.out.trans e2);clear e2 HX1 HCA;cases q with
 | true =>
  go_wp2
  first|go_ret|skip
  exact⟨rfl,HX2.out⟩
 | false =>
 have HSH:Hid (∀i,i<D.length->(D.getD i []).length<=100):=fun i hi=>by
  have h1:=qW.1 hq.out.symm i hi;have h2:¬100<(D.getD i []).length:=of_decide_eq_false h1;omega
 have HCC:Hid (Calls Tryz.prog 30 #[.slice A N c] w2 (JU w w2 D)):=Zm HD.out HX2.out (by have:=HND.out;omega);go_wp2_with (go_at_call 30;refine q_o ?_);refine HCC.out.mono ?_;rintro e w3 ⟨v3,rfl,hP3,e3⟩;obtain⟨A3,c3,rfl,-⟩:=hP3.form
 have HL3:Hid (SnL w w3 (.slice A3 D.length c3) (.slice none 0 0) D [] D):=by
  have hx:=HX2.out.trans e3;obtain⟨xs,h1,h2,h3⟩:=hP3;exact⟨⟨xs,h1,h2.low HX2.out.size,h3⟩,⟨[],rfl,qw.nil hx.size,fun i hi=>absurd hi (Nat.not_lt_zero i)⟩,fun q _ h=>by simp[Value.ownBlock] at h,List.Perm.refl _,hx⟩
 rw[<-HND.out] at HL3 ⊢;clear hP3 e3 HCC HX2;go_wp2_with fail
 go_loopw [8,6,7] (fun iv u v wr=>∃(k m n:Nat) (rl ol:List Byt) (Ar Ao:Option Addr) (cr co:Nat),iv=.int .i64 (k:Int)/\u=.slice Ar m cr/\v=.slice Ao n co/\Hid (m=rl.length/\n=ol.length)/\n=k/\k+m=N/\Hid (SnL w wr (.slice Ar m cr) (.slice Ao n co) rl ol D)) (fun _ u _ _=>match u with|.slice _ m _=>m|_=>0)
 case atStart=>exact⟨0,N,0,D,[],A3,none,c3,0,rfl,rfl,rfl,⟨HND.out,rfl⟩,rfl,by omega,HL3⟩
 case round =>
  clear HL3;obtain⟨k,m,n,rl,ol,Ar,Ao,cr,co,rfl,rfl,rfl,HMN,hnk,hkm,HL⟩:=hrel
  by_cases hm:0<m
  case neg =>
   have HM0:Hid (m=0):=by rw[Hid];omega
   have u5:decide ((0:Int)<(m:Int))=false:=q_f (by omega)
   have HP:Hid (ol.Perm D):=by
    have h1:=HL.out.p;have h2:rl=[]:=List.eq_nil_of_length_eq_zero (by rw[<-HMN.out.1];exact HM0.out);rw[h2,List.append_nil] at h1;exact h1
   have HX4:=q_h HL.out.x;have HPV:Hid (kS wr (.slice Ao n co) ol):=HL.out.o.pgs HL.out.x;have HC1:Hid (Calls Tryz.prog 27 #[.slice A N c] wr (VB (Zi (YZ D)) wr)):=V6 (HD.out.ext HX4.out) (by have:=HND.out;omega) HSH.out ((HEV.out.ext HX4.out).low HX4.out.size)
   have HC2:Hid (∀w',Ext wr w'->Calls Tryz.prog 27 #[.slice Ao n co] w' (VB (Zi (YZ D)) w')):=fun w' e=>by
    have h1:=V6 (D:=ol) (HPV.out.ext e) (by have:=HMN.out;omega) (fun i hi=>by
     have h2:ol.getD i []∈ol:=by
      rw[List.getD_eq_getElem?_getD,List.getElem?_eq_getElem hi];exact List.getElem_mem hi
     obtain⟨j,hj,h3⟩:=List.getElem_of_mem (HP.out.mem_iff.1 h2);have h4:=HSH.out j hj;rw[List.getD_eq_getElem?_getD,List.getElem?_eq_getElem hj] at h4;rw[<-h3]
     exact h4) ((HEV.out.ext (HX4.out.trans e)).low (HX4.out.trans e).size)
    rw[Vp HP.out] at h1;exact h1
   obtain⟨Z,hZ⟩:=qc (Zi (YZ D));rw[<-hZ.out] at HC1 HC2
   have HZL:Hid (Z.length<=1000000):=by
    have h1:=Vy D;rw[Hid,hZ.out,X5];have h2:=HND.out;omega
   obtain⟨ln,hln⟩:=qc Z.length;go_wp2_with (go_at_call 27;refine q_o ?_);refine HC1.out.mono ?_;rintro e w5 ⟨ga,rfl,ha5,e5⟩;have HA5:=q_h (ha5.strs HZL.out);have HE5:=q_h e5;rw[<-hln.out] at HA5 ⊢;clear ha5 e5 HC1;clear hm hkm hnk h6;go_wp2_with (go_at_call 27;refine q_o ?_);refine (HC2.out w5 HE5.out).mono ?_;rintro e w6 ⟨gb,rfl,hb6,e6⟩;have HB6:=q_h (hb6.strs HZL.out);have HA6:=q_h (HA5.out.ext e6);have HX6:=q_h (HX4.out.trans (HE5.out.trans e6));rw[<-hln.out] at HB6 ⊢;clear hb6 e6 HC2 HA5 HE5;go_wp2_with (go_at_call 32;refine q_o ?_);refine (Yb HA6.out HB6.out (by have:=HZL.out;omega) (by have:=HZL.out;omega)).mono ?_;rintro e w7 ⟨rfl,e7⟩;have HX7:=q_h (HX6.out.trans e7);have hzz:decide (Z=Z)=true:=decide_eq_true rfl;rw[hzz];clear e7 hzz;go_wp2
   first|go_ret|skip
   exact⟨rfl,HX7.out⟩
  have u5:decide ((0:Int)<(m:Int))=true:=q_t (by omega)
  by_cases hkM:k<M
  ·have u6:decide ((k:Int)<(M:Int))=true:=q_t (by omega);obtain⟨go,oo,rfl,hc⟩:=(HO.out.ext HL.out.x).addr (by have:=HMO.out;omega);have c0:=hc k (by have:=HMO.out;omega);have hki:(k:Int)<(M:Int):=by omega
   obtain⟨z,hz⟩:=qc (chZ ord k)
   have hzb:0<=z/\z<256:=by
    rw[hz.out];unfold chZ;have:=(ord.getD k 0).toNat_lt;omega
   obtain⟨i,hi0⟩:∃i:Nat,z.tmod (m:Int)=(i:Int):=⟨(z.tmod (m:Int)).toNat,by
    have:=Int.tmod_nonneg (m:Int) hzb.1
    omega⟩
   have hi:i<m:=by
    have:=Int.tmod_lt_of_pos z (show (0:Int)<(m:Int) by omega);omega
   have hwz:IntKind.i64.wrap z=z:=wrp (by omega) (by omega);rw[<-hz.out] at c0;clear hc hzb;go_upto_region 14 with (fail);clear hwz hi0 c0;obtain⟨gr,cr',Ax,nx,kx,hvr,hcx,hbx⟩:=HL.out.r.get (j:=i) (by rw[<-HMN.out.1];exact hi);obtain⟨e1,-,-⟩:=Value.slice.inj hvr;subst e1;obtain⟨oxs,ho1,ho2,ho3⟩:=HL.out.o;have HO2:=q_h ho2;have HO3:Hid (oxs.length=ol.length/\∀j (hj:j<oxs.length),ByV w oxs[j] (ol.getD j [])):=⟨ho1,ho3⟩
   have HBX:=q_h hbx;have hii:(((i:Nat)):Int)<(m:Int):=by omega
   have hii2:(0:Int)<(m:Int):=by omega
   have hio:oxs.length=n:=by rw[ho1];exact HMN.out.2.symm
   have HIO:=q_h hio;have HIM:=q_h hi;have hwi:IntKind.i64.wrap ((((i:Nat)):Int)+1)=(((i:Nat)):Int)+1:=wrp (by omega) (by omega);clear hvr hbx ho1 ho2 ho3 hio;go_wp2_with (at_builtin;refine q_o ?_);refine qo ?_;intro w8 e8 hsz8 BX;refine jh wF rfl _ _ 44 Tryz.underlying44 rfl (by first|rfl|(rw[HIO.out])) (HO2.out.ext e8) (by rfl) (m:=1) (c:=1) (news:=[.slice Ax nx kx]) rfl (wE BX) (fun x hx=>by rw[List.mem_singleton.1 hx];rfl) (by omega) (by rw[HIO.out];omega) ?_;rintro g9 cap9 w9 hG9 hq9 ⟨g',hg',hw9,C9,-⟩;have HR8:Hid (PgH w.heap.size w w8 (.slice (some ⟨gr,0,none⟩) m cr) rl):=HL.out.r.ext e8;have HGR:Hid (w.heap.size<=gr/\gr<wr.heap.size):=HL.out.r.own_lt gr rfl;have HDO:Hid (Value.ownBlock (.slice Ao n co)≠some gr):=HL.out.d gr rfl;have hs8:wr.heap.size<=w8.heap.size:=e8.size
   have HN9:Hid (g9≠gr/\g'≠gr):=by
    have h1:=HGR.out;have h2:=HDO.out;refine⟨?_,?_⟩
    ·rintro rfl
     rcases hq9 with h|h
     ·exact h2 h
     ·omega
    ·rintro rfl
     rcases hw9 with h|h
     ·exact h2 h
     ·omega
   have HR9:Hid (PgH w.heap.size w w9 (.slice (some ⟨gr,0,none⟩) m cr) rl):=HR8.out.far C9 (by
    intro e;have e2:gr=g':=by simpa[Value.ownBlock] using e
    exact HN9.out.2 e2.symm)
   have HX9:Hid (Ext w w9):=C9.ext (HL.out.x.trans e8) hg';have HO9:Hid (PgH w.heap.size w w9 (.slice (some ⟨g9,0,none⟩) (oxs.length+1) cap9) (ol ++ [rl.getD (i) []])):=PgH.snoc HO3.out.1 HO3.out.2 HBX.out hG9;have HPM:Hid (((ol ++ [rl.getD (i) []])++rl.eraseIdx (i)).Perm D):=V4 HL.out.p (by rw[<-HMN.out.1];exact HIM.out);rw[HIO.out] at HO9 ⊢;clear hG9 hq9 hw9 C9 hs8 e8 hg' BX HO2 hcx HR8
   have HCD:Hid (Calls Tryz.prog 31 #[.slice (some ⟨gr,0,none⟩) m cr,.int .i64 (((i:Nat)):Int),.int .i64 ((((i:Nat)):Int)+1)] w9 (fun e w'=>∃c',e=.returned (.slice (some ⟨gr,0,none⟩) (rl.length-1) c')/\PgH w.heap.size w w' (.slice (some ⟨gr,0,none⟩) (rl.length-1) c') (rl.eraseIdx (i))/\Chg gr (gr+1) w9 w')):=by
    refine (HR9.out.del (by rw[<-HMN.out.1];exact HIM.out) (by rw[<-HMN.out.1];omega)).mono ?_;rintro e w' ⟨gd,c',h1,-,-,h2,h3,h4⟩;obtain rfl:gr=gd:=by simpa[Value.ownBlock] using h1
    exact⟨c',h2,h3,h4⟩
   obtain⟨m',hm'⟩:=qc (rl.length-1);rw[<-hm'.out] at HCD;go_wp2_with (go_at_call 31;refine q_o ?_);refine HCD.out.mono ?_;rintro e wd ⟨cd,rfl,hPd,Cd⟩
   have HLd:Hid (SnL w wd (.slice (some ⟨gr,0,none⟩) m' cd) (.slice (some ⟨g9,0,none⟩) (n+1) cap9) (rl.eraseIdx (i)) (ol ++ [rl.getD (i) []]) D):=by
    refine⟨hPd,HO9.out.far Cd ?_,?_,HPM.out,Cd.ext HX9.out HGR.out.1⟩
    ·intro e;have e2:g9=gr:=by simpa[Value.ownBlock] using e
     exact HN9.out.1 e2
    ·intro q h1 h2;have e1:gr=q:=by simpa[Value.ownBlock] using h1
     have e2:g9=q:=by simpa[Value.ownBlock] using h2
     exact HN9.out.1 (by omega)
   have HMd:Hid (m'=(rl.eraseIdx (i)).length/\n+1=(ol ++ [rl.getD (i) []]).length):=by
    have h1:=HMN.out;have h2:=HIM.out;refine⟨?_,?_⟩
    ·rw[List.length_eraseIdx,if_pos (by omega),hm'.out]
    ·rw[List.length_append,h1.2];rfl
   have HMm:Hid (m'+1=m):=by
    have h1:=HMN.out;have h2:=HIM.out;have h3:=hm'.out;rw[Hid];omega
   clear hPd Cd HCD HR9 HO9;go_wp2;go_roundw
   case rel=>exact⟨k+1,m',n+1,_,_,_,_,cd,cap9,by go_num,rfl,by rw[hnk],HMd,by omega,by have:=HMm.out;omega,HLd⟩
   case measure=>have:=HMm.out;simp;omega
  ·have u6:decide ((k:Int)<(M:Int))=false:=q_f (by omega);have hi:0<m:=hm;go_upto_region 14 with (fail);obtain⟨gr,cr',Ax,nx,kx,hvr,hcx,hbx⟩:=HL.out.r.get (j:=0) (by rw[<-HMN.out.1];exact hi);obtain⟨e1,-,-⟩:=Value.slice.inj hvr;subst e1;obtain⟨oxs,ho1,ho2,ho3⟩:=HL.out.o;have HO2:=q_h ho2;have HO3:Hid (oxs.length=ol.length/\∀j (hj:j<oxs.length),ByV w oxs[j] (ol.getD j [])):=⟨ho1,ho3⟩
   have HBX:=q_h hbx;have hii:(((0:Nat)):Int)<(m:Int):=by omega
   have hii2:(0:Int)<(m:Int):=by omega
   have hio:oxs.length=n:=by rw[ho1];exact HMN.out.2.symm
   have HIO:=q_h hio;have HIM:=q_h hi;have hwi:IntKind.i64.wrap ((((0:Nat)):Int)+1)=(((0:Nat)):Int)+1:=wrp (by omega) (by omega);clear hvr hbx ho1 ho2 ho3 hio;go_wp2_with (at_builtin;refine q_o ?_);refine qo ?_;intro w8 e8 hsz8 BX;refine jh wF rfl _ _ 44 Tryz.underlying44 rfl (by first|rfl|(rw[HIO.out])) (HO2.out.ext e8) (by rfl) (m:=1) (c:=1) (news:=[.slice Ax nx kx]) rfl (wE BX) (fun x hx=>by rw[List.mem_singleton.1 hx];rfl) (by omega) (by rw[HIO.out];omega) ?_;rintro g9 cap9 w9 hG9 hq9 ⟨g',hg',hw9,C9,-⟩;have HR8:Hid (PgH w.heap.size w w8 (.slice (some ⟨gr,0,none⟩) m cr) rl):=HL.out.r.ext e8;have HGR:Hid (w.heap.size<=gr/\gr<wr.heap.size):=HL.out.r.own_lt gr rfl;have HDO:Hid (Value.ownBlock (.slice Ao n co)≠some gr):=HL.out.d gr rfl;have hs8:wr.heap.size<=w8.heap.size:=e8.size
   have HN9:Hid (g9≠gr/\g'≠gr):=by
    have h1:=HGR.out;have h2:=HDO.out;refine⟨?_,?_⟩
    ·rintro rfl
     rcases hq9 with h|h
     ·exact h2 h
     ·omega
    ·rintro rfl
     rcases hw9 with h|h
     ·exact h2 h
     ·omega
   have HR9:Hid (PgH w.heap.size w w9 (.slice (some ⟨gr,0,none⟩) m cr) rl):=HR8.out.far C9 (by
    intro e;have e2:gr=g':=by simpa[Value.ownBlock] using e
    exact HN9.out.2 e2.symm)
   have HX9:Hid (Ext w w9):=C9.ext (HL.out.x.trans e8) hg';have HO9:Hid (PgH w.heap.size w w9 (.slice (some ⟨g9,0,none⟩) (oxs.length+1) cap9) (ol ++ [rl.getD (0) []])):=PgH.snoc HO3.out.1 HO3.out.2 HBX.out hG9;have HPM:Hid (((ol ++ [rl.getD (0) []])++rl.eraseIdx (0)).Perm D):=V4 HL.out.p (by rw[<-HMN.out.1];exact HIM.out);rw[HIO.out] at HO9 ⊢;clear hG9 hq9 hw9 C9 hs8 e8 hg' BX HO2 hcx HR8
   have HCD:Hid (Calls Tryz.prog 31 #[.slice (some ⟨gr,0,none⟩) m cr,.int .i64 (((0:Nat)):Int),.int .i64 ((((0:Nat)):Int)+1)] w9 (fun e w'=>∃c',e=.returned (.slice (some ⟨gr,0,none⟩) (rl.length-1) c')/\PgH w.heap.size w w' (.slice (some ⟨gr,0,none⟩) (rl.length-1) c') (rl.eraseIdx (0))/\Chg gr (gr+1) w9 w')):=by
    refine (HR9.out.del (by rw[<-HMN.out.1];exact HIM.out) (by rw[<-HMN.out.1];omega)).mono ?_;rintro e w' ⟨gd,c',h1,-,-,h2,h3,h4⟩;obtain rfl:gr=gd:=by simpa[Value.ownBlock] using h1
    exact⟨c',h2,h3,h4⟩
   obtain⟨m',hm'⟩:=qc (rl.length-1);rw[<-hm'.out] at HCD;go_wp2_with (go_at_call 31;refine q_o ?_);refine HCD.out.mono ?_;rintro e wd ⟨cd,rfl,hPd,Cd⟩
   have HLd:Hid (SnL w wd (.slice (some ⟨gr,0,none⟩) m' cd) (.slice (some ⟨g9,0,none⟩) (n+1) cap9) (rl.eraseIdx (0)) (ol ++ [rl.getD (0) []]) D):=by
    refine⟨hPd,HO9.out.far Cd ?_,?_,HPM.out,Cd.ext HX9.out HGR.out.1⟩
    ·intro e;have e2:g9=gr:=by simpa[Value.ownBlock] using e
     exact HN9.out.1 e2
    ·intro q h1 h2;have e1:gr=q:=by simpa[Value.ownBlock] using h1
     have e2:g9=q:=by simpa[Value.ownBlock] using h2
     exact HN9.out.1 (by omega)
   have HMd:Hid (m'=(rl.eraseIdx (0)).length/\n+1=(ol ++ [rl.getD (0) []]).length):=by
    have h1:=HMN.out;have h2:=HIM.out;refine⟨?_,?_⟩
    ·rw[List.length_eraseIdx,if_pos (by omega),hm'.out]
    ·rw[List.length_append,h1.2];rfl
   have HMm:Hid (m'+1=m):=by
    have h1:=HMN.out;have h2:=HIM.out;have h3:=hm'.out;rw[Hid];omega
   clear hPd Cd HCD HR9 HO9;go_wp2;go_roundw
   case rel=>exact⟨k+1,m',n+1,_,_,_,_,cd,cap9,by go_num,rfl,by rw[hnk],HMd,by omega,by have:=HMm.out;omega,HLd⟩
   case measure=>have:=HMm.out;simp;omega
end
end Go.Proofs.YtdeeekdbhhenpaaGreatDoor
