import Derived.Test.YtphpkhoeplcedaaGreatWb34
import Derived.Test.YtphpkhoeplcedaaGreatWb32
import Derived.Test.YtphpkhoeplcedaaGreatWb25
import Derived.Test.YtphpkhoeplcedaaGreatWb23
import Derived.Test.YtphpkhoeplcedaaGreatWb33
import Derived.Test.YtphpkhoeplcedaaGreatWb26
import Derived.Deep.Slices
import Derived.Deep.Strs
import Derived.Lib.SmallJoins
import Derived.ProofKit
import Derived.OpenShut
import Derived.WalkKit
import Derived.Below
import Derived.WideKeyPair
set_option linter.all false
set_option maxHeartbeats 8000000
namespace Go.Proofs.YtphpkhoeplcedaaGreat
open Go.RowKit
structure Tri where
 i:Int
 j:Int
 l:Bool
 z0:Int
 z1:Int
 z2:Int
def Tri.cells (t:Tri):List Value:=[.int .i64 t.i,.int .i64 t.j,.bool t.l,.int .i64 t.z0,.int .i64 t.z1,.int .i64 t.z2]
def Tri.full (t:Tri):Bool:=decide (t.z0≠noneZ) && (decide (t.z1≠noneZ) && decide (t.z2≠noneZ))
def GrowT (base:Nat) (w:World) (v:Value) (ts:List Tri):Prop:=base≤w.heap.size∧w.ownsRow base 109 6 v ts.length (ts.flatMap Tri.cells)
theorem flat_get:∀ (ts:List Tri) (k:Nat) (t:Tri) (r:Nat),ts[k]?=some t→r < 6→(ts.flatMap Tri.cells)[k*6+r]?=t.cells[r]?
 | [],_,_,_,h,_=>by simp at h
 | a :: ts,0,t,r,h,hr=>by
  simp only [List.getElem?_cons_zero,Option.some.injEq] at h;subst h;rw [List.flatMap_cons,Nat.zero_mul,Nat.zero_add,List.getElem?_append_left (by show r < 6; exact hr)]
 | a :: ts,k+1,t,r,h,hr=>by
  rw [List.getElem?_cons_succ] at h;rw [List.flatMap_cons,List.getElem?_append_right (by show 6≤_; omega)];have:=flat_get ts k t r h hr;rw [←this]
  show (ts.flatMap Tri.cells)[(k+1)*6+r - 6]?=_
  congr 1
  omega
theorem GrowT.nil {base:Nat} {w:World} (h:base≤w.heap.size):GrowT base w (.slice none 0 0) []:=⟨h,by simp,.inl ⟨rfl,rfl⟩⟩
theorem GrowT.form {base:Nat} {w:World} {v:Value} {ts:List Tri} (h:GrowT base w v ts):∃ A c,v=.slice A ts.length c:=by
 rcases h.2.2 with ⟨rfl,h0⟩ | ⟨g,cap,cur,rfl,_⟩
 ·exact⟨_,_,by rw [h0]⟩
 ·exact⟨_,_,rfl⟩
theorem GrowT.ext {base:Nat} {w w':World} {v:Value} {ts:List Tri} (h:GrowT base w v ts) (e:Ext w w'):GrowT base w' v ts:=by
 refine⟨Nat.le_trans h.1 e.size,h.2.1,?_⟩
 rcases h.2.2 with h0 | ⟨g,cap,cur,hv,hb,hh,h1,h2,h3,h4⟩
 ·exact .inl h0
 ·exact .inr ⟨g,cap,cur,hv,hb,e.block hh,h1,h2,h3,h4⟩
theorem GrowT.own_lt {base:Nat} {w:World} {v:Value} {ts:List Tri} (h:GrowT base w v ts):∀ k,v.ownBlock=some k→base≤k∧k < w.heap.size:=by
 rcases h.2.2 with ⟨rfl,h0⟩ | ⟨g,cap,cur,rfl,hb,hh,-⟩
 ·intro k hk; simp [Value.ownBlock] at hk
 ·intro k hk;obtain rfl:g=k:=by simpa [Value.ownBlock] using hk
  exact⟨hb,blk_lt hh⟩
theorem info_tri:(Tryz.prog.info? 109).map (fun i=>(i.zero,i.size,i.bytes))=some (some (.agg #[.int .i64 0,.int .i64 0,.bool false,.int .i64 0,.int .i64 0,.int .i64 0]),6,48):=by kernel_rfl
theorem wpList_append_t {base:Nat} {w:World} {v:Value} {ts:List Tri} {ops:Array Oper} {rest:List Oper} {o:Oper} {a:Act} {Q:Exit→Act→World→Prop} (hgd:o.guard=none) (s x:Operand) (t:TypeId) (ht:Tryz.prog.underlying t=some (.slice 109))
  (ho:o.op=.call { callee:=.builtin .append,args:=#[s,x],argTypes:=#[t,t] }) (hs:a.eval s=v) (h:GrowT base w v ts) {b:Nat} (hx:a.eval x=.slice (some ⟨b,0,none⟩) 1 1) {q:Tri} {fr:Nat×Nat} (hb:w.heap[b]?=some (.cells q.cells.toArray 109 fr)) (hn:ts.length < 1000000000)
  (hK:∀ g cap w' g',GrowT base w' (.slice (some ⟨g,0,none⟩) (ts.length+1) cap) (ts ++ [q])→base≤g'→Chg g' (g'+1) w w'→(v.ownBlock=some g'∨g'=w.heap.size)→(v.ownBlock=some g∨g=w.heap.size)→wpList Tryz.prog ops Q rest (a.put o.dst (.slice (some ⟨g,0,none⟩) (ts.length+1) cap)) w'):wpList Tryz.prog ops Q (o :: rest) a w:=by
 obtain⟨i0,hi0,hz0,hz1,hz2⟩:=info_parts info_tri;obtain⟨hb0,hown⟩:=h
 obtain⟨g,cap,w',hrun,hO,hgr,hat,hlt⟩:=run_append_lies (P:=Tryz.prog) w t o.type base 109 i0 _ 6 48 ht hi0 hz0 hz1 hz2 rfl (by omega) v ts.length (ts.flatMap Tri.cells) hown ⟨b,0,none⟩ 1 1 q.cells (by rfl)
  (fun j u hj=>by rw [add_addr,cell_blk hb,Nat.zero_add]; simpa using hj) (fun u hu=>by unfold Tri.cells at hu; simp at hu; rcases hu with rfl | rfl | rfl | rfl | rfl | rfl <;> rfl) (by omega) (by unfold maxLen; omega)
  (by omega) hb0 w.heap.size rfl
 refine wpList_plain hgd fun _ hK'=>?_
 unfold Oper.wp;simp only [execOp,ho,resolve,invoke,builtin,Sem.run_bind,Sem.run_pure,Result.andThen_ok,List.map_toArray,List.map_cons,List.map_nil,hs,hx,hrun];have hG:GrowT base w' (.slice (some ⟨g,0,none⟩) (ts.length+1) cap) (ts ++ [q]):=⟨Nat.le_trans hb0 hgr.size,by rw [List.length_append,List.flatMap_append,List.flatMap_cons,List.flatMap_nil,List.append_nil]; exact hO⟩
 have hT:NoU w w.heap.size:=fun cs fr h=>by rw [Array.getElem?_eq_none (Nat.le_refl _)] at h; cases h
 rcases hown.2 with ⟨rfl,h0⟩ | ⟨g0,cap0,cur,rfl,hbb,hh,_⟩
 ·exact hK' _ _ (hK g cap w' w.heap.size hG hb0 (grown_chg hgr (fun k hk=>by simp [Value.ownBlock] at hk) hT) (.inr rfl) hat)
 ·have hT0:NoU w g0:=NoU.mk hh (by decide);exact hK' _ _ (hK g cap w' g0 hG hbb (grown_chg hgr (fun k hk=>by simpa [Value.ownBlock] using hk.symm) hT0) (.inl rfl) hat)
def sqE (G:Grd) (i j:Int) (m:Nat):Tri:=⟨i,j,decide (m=0),zAt G i j,thR G i j m,zAt G (i+1) (j+1)⟩
def sqN (G:Grd) (i j:Int) (m:Nat):List Tri:=((List.range m).map (sqE G i j)).filter Tri.full
def rowN (G:Grd) (j:Int) (n:Nat):List Tri:=(List.range n).flatMap fun i:Nat=>sqN G (i:Int) j 2
def triN (G:Grd) (h:Nat):List Tri:=(List.range h).flatMap fun j:Nat=>rowN G (j:Int) (G.wd - 1).toNat
def triL (G:Grd):List Tri:=triN G (G.ht - 1).toNat
theorem sqN_succ (G:Grd) (i j:Int) (m:Nat):sqN G i j (m+1)=sqN G i j m ++ if (sqE G i j m).full then [sqE G i j m] else []:=by
 unfold sqN;rw [List.range_succ,List.map_append,List.filter_append]
 congr 1
 cases h:(sqE G i j m).full <;> simp [h]
theorem rowN_succ (G:Grd) (j:Int) (n:Nat):rowN G j (n+1)=rowN G j n ++ sqN G n j 2:=by
 unfold rowN;rw [List.range_succ,List.flatMap_append]
 simp
theorem triN_succ (G:Grd) (h:Nat):triN G (h+1)=triN G h ++ rowN G h (G.wd - 1).toNat:=by
 unfold triN;rw [List.range_succ,List.flatMap_append]
 simp
theorem sqN_len (G:Grd) (i j:Int) (m:Nat):(sqN G i j m).length≤m:=by
 unfold sqN;exact Nat.le_trans (List.length_filter_le _ _) (by simp)
theorem rowN_len (G:Grd) (j:Int) (n:Nat):(rowN G j n).length≤2*n:=by
 induction n with
 | zero=>simp [rowN]
 | succ n ih=>rw [rowN_succ,List.length_append]; have:=sqN_len G n j 2; omega
theorem triN_len (G:Grd) (hw:G.wd≤64) (h:Nat):(triN G h).length≤126*h:=by
 induction h with
 | zero=>simp [triN]
 | succ h ih=>rw [triN_succ,List.length_append]; have:=rowN_len G h (G.wd - 1).toNat; omega
def RetTs (w:World) (ts:List Tri) (e:Ending) (w':World):Prop:=∃ A c,e=.returned (.slice A ts.length c)∧GrowT w.heap.size w' (.slice A ts.length c) ts∧Ext w w'
theorem GrowT.mono {base base':Nat} {w:World} {v:Value} {ts:List Tri} (h:GrowT base w v ts) (hb:base'≤base):GrowT base' w v ts:=by
 refine⟨Nat.le_trans hb h.1,h.2.1,?_⟩
 rcases h.2.2 with h0 | ⟨g,cap,cur,hv,hB,hh,h1,h2,h3,h4⟩
 ·exact .inl h0
 ·exact .inr ⟨g,cap,cur,hv,Nat.le_trans hb hB,hh,h1,h2,h3,h4⟩
theorem tri_full {i j:Int} {l:Bool} {z0 z1 z2:Int} (h0:z0≠-2147483648) (h1:z1≠-2147483648) (h2:z2≠-2147483648):(Tri.mk i j l z0 z1 z2).full=true:=by
 unfold Tri.full noneZ;rw [decide_eq_true h0,decide_eq_true h1,decide_eq_true h2]
 rfl
theorem tri_not {i j:Int} {l:Bool} {z0 z1 z2:Int} (h:z0 = -2147483648∨z1 = -2147483648∨z2 = -2147483648):(Tri.mk i j l z0 z1 z2).full=false:=by
 unfold Tri.full noneZ
 rcases h with h | h | h <;> subst h <;> simp
set_option maxRecDepth 100000 in
theorem l49_triangles {N lo hi:Nat} {w:World} {vg:Value} {G:Grd} (h:GrdV N lo hi w vg G) (hG:GOk G):Calls Tryz.prog 52 #[vg] w (RetTs w (triL G)):=by
 obtain⟨A,c,rfl,hnc,hcm,hz⟩:=h.parts;have g1:=hG.w0;have g2:=hG.w1;have g3:=hG.h0;have g4:=hG.h1;have HN:=Lib.hid hG.n;have h3:G.wd*G.ht≤64*64:=Int.mul_le_mul g2 g4 (by omega) (by omega);have hn4:G.n≤4096:=by have:=hG.n; omega
 obtain⟨H,hH⟩:∃ H:Nat,(H:Int)=G.ht - 1:=⟨(G.ht - 1).toNat,by omega⟩
 obtain⟨M,hM⟩:∃ M:Nat,(M:Int)=G.wd - 1:=⟨(G.wd - 1).toNat,by omega⟩
 have hHn:(G.ht - 1).toNat=H:=by omega
 have hMn:(G.wd - 1).toNat=M:=by omega
 have HL:Hid (triL G=triN G H):=by rw [Hid]; unfold triL; rw [hHn]
 have HS:Hid (∀ k,triN G (k+1)=triN G k ++ rowN G k M):=fun k=>by rw [triN_succ,hMn]
 rw [HL.out];have hwx:IntKind.i64.wrap (G.wd - 1)=(M:Int):=by rw [hM]; exact IntWalk.i64_in _ (by omega)
 have hwy:IntKind.i64.wrap (G.ht - 1)=(H:Int):=by rw [hH]; exact IntWalk.i64_in _ (by omega)
 obtain⟨bz,oz,rfl,hzc⟩:=hz.addr (by have:0 < G.wd*G.ht:=Int.mul_pos (by omega) (by omega); have:=hG.n; omega);have HZ:=Lib.hid hzc;clear h hG hz h3 hzc hHn hMn;go_enter Tryz.func52,Tryz.ntmps52;go_upto_region 1 with (fail);refine boxes1 ?_;intro W hE hsz B0;obtain⟨-,-,-,a3,a4,-⟩:=cells_g B0;go_wp2_with fail
 go_loopw [12,3] (fun jv lv wr=>∃ h:Nat,h≤H∧jv=.int .i64 (h:Int)∧GrowT W.heap.size wr lv (triN G h)∧Ext W wr) (fun jv _ _=>H - (intOf jv).toNat)
 case atStart=>exact⟨0,Nat.zero_le _,rfl,GrowT.nil (Nat.le_refl _),Ext.refl _⟩
 case round =>
  obtain⟨h,hh,rfl,HG1,hE1⟩:=hrel;obtain⟨A1,c1,rfl⟩:=HG1.form;replace a3:=hE1.cell a3;replace a4:=hE1.cell a4
  by_cases hlt:h < H
  case neg =>
   have hhe:h=H:=by omega
   subst hhe;have t1:decide ((h:Int) < (h:Int))=false:=decide_eq_false (by omega);go_wp2;go_ret;exact⟨A1,c1,rfl,HG1.mono (by omega),hE.trans hE1⟩
  have t1:decide ((h:Int) < (H:Int))=true:=decide_eq_true (by omega);have HG1':=Lib.hid HG1;go_wp2_with fail
  go_loopw [18,3] (fun iv lv wr=>∃ n:Nat,n≤M∧iv=.int .i64 (n:Int)∧GrowT W.heap.size wr lv (triN G h ++ rowN G h n)∧Ext W wr) (fun iv _ _=>M - (intOf iv).toNat)
  case atStart=>exact⟨0,Nat.zero_le _,rfl,(List.append_nil (triN G h)).symm ▸ HG1'.out,hE1⟩
  case round =>
   clear HG1 HG1' hE1 a3 a4;obtain⟨n,hn,rfl,HG2,hE2⟩:=hrel;obtain⟨A2,c2,rfl⟩:=HG2.form;replace B0:=hE2.block B0;obtain⟨-,-,-,a3,a4,a5⟩:=cells_g B0
   by_cases hl2:n < M
   case neg =>
    have hne:n=M:=by omega
    subst hne;have t2:decide ((n:Int) < (n:Int))=false:=decide_eq_false (by omega);go_wp2;go_roundw
    case rel=>exact⟨h+1,by omega,by go_num,by rw [HS.out]; exact HG2,hE2⟩
    case measure=>simp [intOf]; omega
   have t2:decide ((n:Int) < (M:Int))=true:=decide_eq_true (by omega);have HG2':=Lib.hid HG2;obtain⟨m0,hm0⟩:=hid_eq (h*G.wd.toNat+n);have hwd:(G.wd.toNat:Int)=G.wd:=by omega
   have hmz:(m0:Int)=(h:Int)*G.wd+n:=by rw [hm0.out,Int.natCast_add,Int.natCast_mul,hwd]
   have hmb:(m0:Int)+G.wd+1 < G.n:=by
    have:((h:Int)+1+1)*G.wd≤G.ht*G.wd:=Int.mul_le_mul_of_nonneg_right (by omega) (by omega);rw [HN.out,Int.mul_comm G.wd,hmz];rw [Int.add_mul,Int.add_mul,Int.one_mul] at this;omega
   obtain⟨pz,hpr⟩:=hid_eq ((h:Int)*G.wd);have hpr0:(m0:Int)=pz+n:=by rw [hpr.out]; exact hmz
   obtain⟨m1,hm1⟩:∃ m1:Nat,m1=m0+1:=⟨_,rfl⟩
   obtain⟨m2,hm2⟩:∃ m2:Nat,(m2:Int)=(m0:Int)+G.wd:=⟨m0+G.wd.toNat,by omega⟩
   obtain⟨m3,hm3⟩:∃ m3:Nat,m3=m2+1:=⟨_,rfl⟩
   have hw0:IntKind.i64.wrap ((h:Int)*G.wd)=pz:=by rw [hpr.out]; exact IntWalk.i64_in _ (by rw [←hpr.out]; omega)
   have hw1:IntKind.i64.wrap (pz+(n:Int))=(m0:Int):=by rw [hpr0]; exact IntWalk.i64_in _ (by omega)
   have hw2:IntKind.i64.wrap ((m0:Int)+1)=(m1:Int):=by rw [hm1]; exact IntWalk.i64_in _ (by omega)
   have hw3:IntKind.i64.wrap ((m0:Int)+G.wd)=(m2:Int):=by rw [hm2]; exact IntWalk.i64_in _ (by omega)
   have hw4:IntKind.i64.wrap ((m2:Int)+1)=(m3:Int):=by rw [hm3]; exact IntWalk.i64_in _ (by omega)
   have b0:m0 < G.n:=by omega
   have b1:m1 < G.n:=by omega
   have b2:m2 < G.n:=by omega
   have b3:m3 < G.n:=by omega
   obtain⟨z0,hz0⟩:=hid_eq (G.z m0);obtain⟨z1,hz1⟩:=hid_eq (G.z m1);obtain⟨z2,hz2⟩:=hid_eq (G.z m2);obtain⟨z3,hz3⟩:=hid_eq (G.z m3);have p0:=(hE.trans hE2).cell (HZ.out m0 b0);have p1:=(hE.trans hE2).cell (HZ.out m1 b1);have p2:=(hE.trans hE2).cell (HZ.out m2 b2);have p3:=(hE.trans hE2).cell (HZ.out m3 b3);rw [←hz0.out] at p0;rw [←hz1.out] at p1;rw [←hz2.out] at p2;rw [←hz3.out] at p3
   have HQ:Hid (∀ m,m < 2→sqE G n h m=⟨n,h,decide (m=0),z0,if m=0 then z1 else z2,z3⟩):=by
    intro m hm;unfold sqE;have e0:zAt G n h=z0:=by unfold zAt; rw [hz0.out,←hmz]; rfl
    have e1:zAt G (n+1) h=z1:=by unfold zAt; rw [hz1.out,show (h:Int)*G.wd+((n:Int)+1)=(m1:Int) by rw [hm1,←hpr.out]; omega]; rfl
    have e2:zAt G n (h+1)=z2:=by unfold zAt; rw [hz2.out,show ((h:Int)+1)*G.wd+(n:Int)=(m2:Int) by rw [Int.add_mul,Int.one_mul,←hpr.out]; omega]; rfl
    have e3:zAt G (n+1) (h+1)=z3:=by unfold zAt; rw [hz3.out,show ((h:Int)+1)*G.wd+((n:Int)+1)=(m3:Int) by rw [Int.add_mul,Int.one_mul,←hpr.out]; omega]; rfl
    rw [e0,e3]
    congr 1
    unfold thR
    split
    ·exact e1
    ·exact e2
   clear hm0 hwd hmz hmb hpr0 hz0 hz1 hz2 hz3 hpr hm1 hm2 hm3;go_wp2_with fail;obtain⟨w8,hw8⟩:∃ w8,w8=wr:=⟨_,rfl⟩
   subst hw8;have HB0:=Lib.hid B0;clear B0;refine regI [Mn.eq (.int .i64 (n:Int)),Mn.eq (.int .i64 (h:Int)),Mn.eq (.pointer (some ⟨w.heap.size,5,none⟩)),Mn.eq (.slice (some ⟨bz,oz,none⟩) G.n c),Mn.eq (.int .i64 (m0:Int)),Mn.eq (.pointer (some ⟨bz,oz+m0,none⟩)),Mn.eq (.int .i64 z0),Mn.eq (.pointer (some ⟨w.heap.size,5,none⟩)),Mn.eq (.slice (some ⟨bz,oz,none⟩) G.n c),Mn.eq (.int .i64 (m0:Int)),Mn.eq (.int .i64 (m1:Int)),Mn.eq (.pointer (some ⟨bz,oz+m1,none⟩)),Mn.eq (.int .i64 z1),Mn.eq (.pointer (some ⟨w.heap.size,5,none⟩)),Mn.eq (.slice (some ⟨bz,oz,none⟩) G.n c),Mn.eq (.int .i64 (m0:Int)),Mn.eq (.pointer (some ⟨w.heap.size,3,none⟩)),Mn.eq (.int .i64 G.wd),Mn.eq (.int .i64 (m2:Int)),Mn.eq (.int .i64 (m3:Int)),Mn.eq (.pointer (some ⟨bz,oz+m3,none⟩)),Mn.eq (.int .i64 z3),Mn.eq (.agg #[.int .i64 z0,.int .i64 z1,.int .i64 z3]),Mn.eq (.agg #[.int .i64 (n:Int),.int .i64 (h:Int),.bool true,.int .i64 z0,.int .i64 z1,.int .i64 z3]),Mn.eq (.int .i64 (n:Int)),Mn.eq (.int .i64 (h:Int)),Mn.eq (.pointer (some ⟨w.heap.size,5,none⟩)),Mn.eq (.slice (some ⟨bz,oz,none⟩) G.n c),Mn.eq (.int .i64 (m0:Int)),Mn.eq (.pointer (some ⟨bz,oz+m0,none⟩)),Mn.eq (.int .i64 z0),Mn.eq (.pointer (some ⟨w.heap.size,5,none⟩)),Mn.eq (.slice (some ⟨bz,oz,none⟩) G.n c),Mn.eq (.int .i64 (m0:Int)),Mn.eq (.pointer (some ⟨w.heap.size,3,none⟩)),Mn.eq (.int .i64 G.wd),Mn.eq (.int .i64 (m2:Int)),Mn.eq (.pointer (some ⟨bz,oz+m2,none⟩)),Mn.eq (.int .i64 z2),Mn.eq (.pointer (some ⟨w.heap.size,5,none⟩)),Mn.eq (.slice (some ⟨bz,oz,none⟩) G.n c),Mn.eq (.int .i64 (m0:Int)),Mn.eq (.pointer (some ⟨w.heap.size,3,none⟩)),Mn.eq (.int .i64 G.wd),Mn.eq (.int .i64 (m2:Int)),Mn.eq (.int .i64 (m3:Int)),Mn.eq (.pointer (some ⟨bz,oz+m3,none⟩)),Mn.eq (.int .i64 z3),Mn.eq (.agg #[.int .i64 z0,.int .i64 z2,.int .i64 z3]),Mn.eq (.agg #[.int .i64 (n:Int),.int .i64 (h:Int),.bool false,.int .i64 z0,.int .i64 z2,.int .i64 z3]),Mn.bks w8.heap.size 2 (.cells #[.int .i64 (n:Int),.int .i64 (h:Int),.bool true,.int .i64 z0,.int .i64 z1,.int .i64 z3,.int .i64 (n:Int),.int .i64 (h:Int),.bool false,.int .i64 z0,.int .i64 z2,.int .i64 z3] 109 (0,0)),Mn.eq (.int .i64 2),Mn.eq (.int .i64 0)] [some 27,some 28,some 29,some 30,some 31,some 32,some 33,some 34,some 35,some 36,some 37,some 38,some 39,some 40,some 41,some 42,some 43,some 44,some 45,some 46,some 47,some 48,some 49,some 50,some 51,some 52,some 53,some 54,some 55,some 56,some 57,some 58,some 59,some 60,some 61,some 62,some 63,some 64,some 65,some 66,some 67,some 68,some 69,some 70,some 71,some 72,some 73,some 74,some 75,some 76,some 77,some 78,some 79] [] [true,true,true,true,true,true,true,true,true,true,true,true,true,true,true,true,true,true,true,true,true,true,true,true,true,true,true,true,true,true,true,true,true,true,true,true,true,true,true,true,true,true,true,true,true,true,true,true,true,true,true,true,true] 0 (by kernel_rfl) ?_ ?_
   ·show ∀ i,i < 53→_
    iterate 53 refine fs ?_ ?_
    ·exact fz
    all_goals intro hl
    all_goals clear hl
    all_goals refine stp rfl ?_
    all_goals intro ac wi eI hB hA K hK
    have o5:=oOf (hB 5 (by kernel_rfl)) rfl
    rotate_left
    have o4:=oOf (hB 4 (by kernel_rfl)) rfl
    rotate_left
    have o1:=oOf (hB 1 (by kernel_rfl)) rfl
    rotate_left
    obtain⟨_,s29,rfl⟩:=hA 2 (by kernel_rfl) 29 rfl;have cc0:=eI.cell a5
    rotate_left
    have o6:=oOf (hB 6 (by kernel_rfl)) rfl
    rotate_left
    obtain⟨_,s30,rfl⟩:=hA 3 (by kernel_rfl) 30 rfl;obtain⟨_,s31,rfl⟩:=hA 4 (by kernel_rfl) 31 rfl
    rotate_left
    obtain⟨_,s32,rfl⟩:=hA 5 (by kernel_rfl) 32 rfl;have cc0:=eI.cell p0
    rotate_left
    have o1:=oOf (hB 1 (by kernel_rfl)) rfl
    rotate_left
    obtain⟨_,s34,rfl⟩:=hA 7 (by kernel_rfl) 34 rfl;have cc0:=eI.cell a5
    rotate_left
    have o6:=oOf (hB 6 (by kernel_rfl)) rfl
    rotate_left
    obtain⟨_,s36,rfl⟩:=hA 9 (by kernel_rfl) 36 rfl
    rotate_left
    obtain⟨_,s35,rfl⟩:=hA 8 (by kernel_rfl) 35 rfl;obtain⟨_,s37,rfl⟩:=hA 10 (by kernel_rfl) 37 rfl
    rotate_left
    obtain⟨_,s38,rfl⟩:=hA 11 (by kernel_rfl) 38 rfl;have cc0:=eI.cell p1
    rotate_left
    have o1:=oOf (hB 1 (by kernel_rfl)) rfl
    rotate_left
    obtain⟨_,s40,rfl⟩:=hA 13 (by kernel_rfl) 40 rfl;have cc0:=eI.cell a5
    rotate_left
    have o6:=oOf (hB 6 (by kernel_rfl)) rfl
    rotate_left
    have o1:=oOf (hB 1 (by kernel_rfl)) rfl
    rotate_left
    obtain⟨_,s43,rfl⟩:=hA 16 (by kernel_rfl) 43 rfl;have cc0:=eI.cell a3
    rotate_left
    obtain⟨_,s42,rfl⟩:=hA 15 (by kernel_rfl) 42 rfl;obtain⟨_,s44,rfl⟩:=hA 17 (by kernel_rfl) 44 rfl
    rotate_left
    obtain⟨_,s45,rfl⟩:=hA 18 (by kernel_rfl) 45 rfl
    rotate_left
    obtain⟨_,s41,rfl⟩:=hA 14 (by kernel_rfl) 41 rfl;obtain⟨_,s46,rfl⟩:=hA 19 (by kernel_rfl) 46 rfl
    rotate_left
    obtain⟨_,s47,rfl⟩:=hA 20 (by kernel_rfl) 47 rfl;have cc0:=eI.cell p3
    rotate_left
    obtain⟨_,s33,rfl⟩:=hA 6 (by kernel_rfl) 33 rfl;obtain⟨_,s39,rfl⟩:=hA 12 (by kernel_rfl) 39 rfl;obtain⟨_,s48,rfl⟩:=hA 21 (by kernel_rfl) 48 rfl
    rotate_left
    obtain⟨_,s27,rfl⟩:=hA 0 (by kernel_rfl) 27 rfl;obtain⟨_,s28,rfl⟩:=hA 1 (by kernel_rfl) 28 rfl;obtain⟨_,s49,rfl⟩:=hA 22 (by kernel_rfl) 49 rfl
    rotate_left
    have o5:=oOf (hB 5 (by kernel_rfl)) rfl
    rotate_left
    have o4:=oOf (hB 4 (by kernel_rfl)) rfl
    rotate_left
    have o1:=oOf (hB 1 (by kernel_rfl)) rfl
    rotate_left
    obtain⟨_,s53,rfl⟩:=hA 26 (by kernel_rfl) 53 rfl;have cc0:=eI.cell a5
    rotate_left
    have o6:=oOf (hB 6 (by kernel_rfl)) rfl
    rotate_left
    obtain⟨_,s54,rfl⟩:=hA 27 (by kernel_rfl) 54 rfl;obtain⟨_,s55,rfl⟩:=hA 28 (by kernel_rfl) 55 rfl
    rotate_left
    obtain⟨_,s56,rfl⟩:=hA 29 (by kernel_rfl) 56 rfl;have cc0:=eI.cell p0
    rotate_left
    have o1:=oOf (hB 1 (by kernel_rfl)) rfl
    rotate_left
    obtain⟨_,s58,rfl⟩:=hA 31 (by kernel_rfl) 58 rfl;have cc0:=eI.cell a5
    rotate_left
    have o6:=oOf (hB 6 (by kernel_rfl)) rfl
    rotate_left
    have o1:=oOf (hB 1 (by kernel_rfl)) rfl
    rotate_left
    obtain⟨_,s61,rfl⟩:=hA 34 (by kernel_rfl) 61 rfl;have cc0:=eI.cell a3
    rotate_left
    obtain⟨_,s60,rfl⟩:=hA 33 (by kernel_rfl) 60 rfl;obtain⟨_,s62,rfl⟩:=hA 35 (by kernel_rfl) 62 rfl
    rotate_left
    obtain⟨_,s59,rfl⟩:=hA 32 (by kernel_rfl) 59 rfl;obtain⟨_,s63,rfl⟩:=hA 36 (by kernel_rfl) 63 rfl
    rotate_left
    obtain⟨_,s64,rfl⟩:=hA 37 (by kernel_rfl) 64 rfl;have cc0:=eI.cell p2
    rotate_left
    have o1:=oOf (hB 1 (by kernel_rfl)) rfl
    rotate_left
    obtain⟨_,s66,rfl⟩:=hA 39 (by kernel_rfl) 66 rfl;have cc0:=eI.cell a5
    rotate_left
    have o6:=oOf (hB 6 (by kernel_rfl)) rfl
    rotate_left
    have o1:=oOf (hB 1 (by kernel_rfl)) rfl
    rotate_left
    obtain⟨_,s69,rfl⟩:=hA 42 (by kernel_rfl) 69 rfl;have cc0:=eI.cell a3
    rotate_left
    obtain⟨_,s68,rfl⟩:=hA 41 (by kernel_rfl) 68 rfl;obtain⟨_,s70,rfl⟩:=hA 43 (by kernel_rfl) 70 rfl
    rotate_left
    obtain⟨_,s71,rfl⟩:=hA 44 (by kernel_rfl) 71 rfl
    rotate_left
    obtain⟨_,s67,rfl⟩:=hA 40 (by kernel_rfl) 67 rfl;obtain⟨_,s72,rfl⟩:=hA 45 (by kernel_rfl) 72 rfl
    rotate_left
    obtain⟨_,s73,rfl⟩:=hA 46 (by kernel_rfl) 73 rfl;have cc0:=eI.cell p3
    rotate_left
    obtain⟨_,s57,rfl⟩:=hA 30 (by kernel_rfl) 57 rfl;obtain⟨_,s65,rfl⟩:=hA 38 (by kernel_rfl) 65 rfl;obtain⟨_,s74,rfl⟩:=hA 47 (by kernel_rfl) 74 rfl
    rotate_left
    obtain⟨_,s51,rfl⟩:=hA 24 (by kernel_rfl) 51 rfl;obtain⟨_,s52,rfl⟩:=hA 25 (by kernel_rfl) 52 rfl;obtain⟨_,s75,rfl⟩:=hA 48 (by kernel_rfl) 75 rfl
    rotate_left
    obtain⟨_,s50,rfl⟩:=hA 23 (by kernel_rfl) 50 rfl;obtain⟨_,s76,rfl⟩:=hA 49 (by kernel_rfl) 76 rfl;clear hB hA
    ·go_simp;refine boxes1 ?_;intro wj ej hszj BJ;exact hK.out _ _ ej ⟨_,rfl,eI.size,BJ⟩
    obtain⟨x77,s77,j77⟩:=hA 50 (by kernel_rfl) 77 rfl;replace j77:Mn.p (Mn.bks w8.heap.size 2 (.cells #[.int .i64 (n:Int),.int .i64 (h:Int),.bool true,.int .i64 z0,.int .i64 z1,.int .i64 z3,.int .i64 (n:Int),.int .i64 (h:Int),.bool false,.int .i64 z0,.int .i64 z2,.int .i64 z3] 109 (0,0))) x77 wi:=j77;clear hB hA
    ·obtain⟨gj,rfl,hgj,BJ⟩:=j77;go_simp;exact hK.out _ _ (Ext.refl _) rfl
    rotate_left
    all_goals clear hB hA
    all_goals go_simp
    all_goals exact hK.out _ _ (Ext.refl _) rfl
   intro vals wz eZ hJ;have J77:Mn.p (Mn.bks w8.heap.size 2 (.cells #[.int .i64 (n:Int),.int .i64 (h:Int),.bool true,.int .i64 z0,.int .i64 z1,.int .i64 z3,.int .i64 (n:Int),.int .i64 (h:Int),.bool false,.int .i64 z0,.int .i64 z2,.int .i64 z3] 109 (0,0))) (vals 50) wz:=hJ 50 (by decide) (by decide);have J78:vals 51=_:=hJ 51 (by decide) (by decide);have J79:vals 52=_:=hJ 52 (by decide) (by decide);clear hJ;simp only [pr,Nat.reduceAdd,J78,J79];clear J78 J79
   generalize vals 50=z77 at J77 ⊢
   obtain⟨gL,rfl,hgL,BL⟩:=J77;refine stepL_done (by kernel_rfl) ?_ _;have hgl:=blk_lt BL;have hE3:=hE2.trans eZ;have hs8:=hE2.size
   have hN2:∀ k,(Value.slice A2 (triN G h ++ rowN G h n).length c2).ownBlock=some k→k≠gL:=fun k hk=>by
    have:=(HG2'.out.own_lt k hk).2;omega
   have HG3:=Lib.hid (HG2'.out.ext eZ);have HBL:=Lib.hid BL
   have hln:(triN G h ++ rowN G h n).length≤126*h+2*n:=by
    rw [List.length_append];have:=triN_len G g2 h;have:=rowN_len G h n;omega
   clear HG2 HG2' hE2 BL a3 a4 a5 p0 p1 p2 p3 b0 b1 b2 b3 hw0 hw1 hw2 hw3 hw4;go_wp2_with fail
   go_loopw [79,3] (fun mv lv wr=>∃ m:Nat,m≤2∧mv=.int .i64 (m:Int)∧GrowT W.heap.size wr lv (triN G h ++ rowN G h n ++ sqN G n h m)∧(∀ k,lv.ownBlock=some k→k≠gL)∧wr.heap[gL]?=wz.heap[gL]?∧gL < wr.heap.size∧Ext W wr) (fun mv _ _=>2 - (intOf mv).toNat)
   case atStart=>exact⟨0,Nat.zero_le _,rfl,(List.append_nil (triN G h ++ rowN G h n)).symm ▸ HG3.out,hN2,rfl,hgl,hE3⟩
   case round =>
    clear hE3 eZ HG3 hN2;obtain⟨m,hm,rfl,HG4,hN4,hBL,hgl2,hE4⟩:=hrel;obtain⟨A4,c4,rfl⟩:=HG4.form
    by_cases hl3:m < 2
    case neg =>
     have hme:m=2:=by omega
     subst hme;go_wp2;go_roundw
     case rel=>exact⟨n+1,by omega,by go_num,by rw [rowN_succ,←List.append_assoc]; exact HG4,hE4⟩
     case measure=>simp [intOf]; omega
    have hbl:=hBL.trans HBL.out;obtain⟨tl,htl⟩:=hid_eq (decide (m=0));obtain⟨y1,hy1⟩:=hid_eq (if m=0 then z1 else z2);have HTQ:Hid (sqE G n h m=⟨n,h,tl,z0,y1,z3⟩):=by rw [Hid,HQ.out m hl3,htl.out,hy1.out]
    have hm2:m=0∨m=1:=by omega
    have x0:wr.cell? ⟨gL,m*6,none⟩=some (.int .i64 (n:Int)):=by rw [cell_blk hbl]; rcases hm2 with rfl | rfl <;> rfl
    have x1:wr.cell? ⟨gL,m*6+1,none⟩=some (.int .i64 (h:Int)):=by rw [cell_blk hbl]; rcases hm2 with rfl | rfl <;> rfl
    have x2:wr.cell? ⟨gL,m*6+2,none⟩=some (.bool tl):=by rw [cell_blk hbl,htl.out]; rcases hm2 with rfl | rfl <;> rfl
    have x3:wr.cell? ⟨gL,m*6+3,none⟩=some (.int .i64 z0):=by rw [cell_blk hbl]; rcases hm2 with rfl | rfl <;> rfl
    have x4:wr.cell? ⟨gL,m*6+4,none⟩=some (.int .i64 y1):=by rw [cell_blk hbl,hy1.out]; rcases hm2 with rfl | rfl <;> rfl
    have x5:wr.cell? ⟨gL,m*6+5,none⟩=some (.int .i64 z3):=by rw [cell_blk hbl]; rcases hm2 with rfl | rfl <;> rfl
    have HG4':=Lib.hid HG4;clear HG4 hbl htl hy1 hm2 HB0;go_upto_region 12 with (fail);refine boxes1 ?_;intro w9 e9 hsz9 B9;have B9':w9.heap[wr.heap.size]?=some (.cells #[.int .i64 (n:Int),.int .i64 (h:Int),.bool tl,.int .i64 z0,.int .i64 y1,.int .i64 z3] 109 (0,0)):=B9;obtain⟨g9,hg9⟩:∃ g9,g9=wr.heap.size:=⟨_,rfl⟩
    rw [←hg9] at B9' ⊢;have hg9a:wr.heap.size≤g9:=by omega
    clear B9 x0 x1 x2 x3 x4 x5 hg9;obtain⟨-,-,-,b3,b4,b5⟩:=cells_g B9';obtain⟨tf,htf⟩:=hid_eq (sqE G n h m).full
    go_cut [98] (fun v wx=>v=.bool tf∧wx=w9)
    case first =>
     by_cases d1:z0 = -2147483648
     case pos =>
      have HB:Hid (false=tf):=by rw [Hid,htf.out,HTQ.out,tri_not (.inl d1)]
      have q1:(z0 != -2147483648)=false:=by simpa using d1
      clear d1;go_wp2_with fail
      go_meet
      exact⟨by rw [←HB.out],rfl⟩
     have q1:(z0 != -2147483648)=true:=by simpa using d1
     by_cases d2:y1 = -2147483648
     case pos =>
      have HB:Hid (false=tf):=by rw [Hid,htf.out,HTQ.out,tri_not (.inr (.inl d2))]
      have q2:(y1 != -2147483648)=false:=by simpa using d2
      clear d2;go_wp2_with fail
      go_meet
      exact⟨by rw [←HB.out],rfl⟩
     have q2:(y1 != -2147483648)=true:=by simpa using d2
     by_cases d3:z3 = -2147483648
     case pos =>
      have HB:Hid (false=tf):=by rw [Hid,htf.out,HTQ.out,tri_not (.inr (.inr d3))]
      have q3:(z3 != -2147483648)=false:=by simpa using d3
      clear d3;go_wp2_with fail
      go_meet
      exact⟨by rw [←HB.out],rfl⟩
     have q3:(z3 != -2147483648)=true:=by simpa using d3
     have HB:Hid (true=tf):=by rw [Hid,htf.out,HTQ.out,tri_full d1 d2 d3]
     go_wp2_with fail
     go_meet
     exact⟨by rw [←HB.out],rfl⟩
    obtain⟨rfl,rfl⟩:=hcut;obtain⟨w9,hw9⟩:∃ w9,w9=wc:=⟨_,rfl⟩
    subst hw9;have hNX:Hid (sqN G n h (m+1)=sqN G n h m ++ if tf then [⟨n,h,tl,z0,y1,z3⟩] else []):=by rw [Hid,sqN_succ,←htf.out,HTQ.out]
    have hsqn:(sqN G n h m).length≤m:=sqN_len G n h m;have hl4:(triN G h ++ rowN G h n ++ sqN G n h m).length < 1000000000:=by rw [List.length_append]; omega
    have hgl9:gL < w9.heap.size:=Nat.lt_of_lt_of_le hgl2 e9.size;have HL9:=Lib.hid hBL;cases tf with
    | false =>
     have HG9:=Lib.hid (HG4'.out.ext e9);have hNX':sqN G n h (m+1)=sqN G n h m:=by rw [hNX.out]; simp
     go_wp2;go_roundw
     case rel=>exact⟨m+1,by omega,by go_num,by rw [hNX']; exact HG9.out,hN4,(Below.block e9 gL hgl2).trans HL9.out,hgl9,hE4.trans e9⟩
     case measure=>simp [intOf]; omega
    | true =>
     rename (h:Int) < G.ht - 1=>hq1
     rename (n:Int) < G.wd - 1=>hq2
     rename (m:Int) < 2=>hq3
     clear hq1 hq2 hq3 t1 t2;have hNX2:Hid (triN G h ++ rowN G h n ++ sqN G n h m ++ [⟨n,h,tl,z0,y1,z3⟩]=triN G h ++ rowN G h n ++ sqN G n h (m+1)):=by rw [Hid,hNX.out,←List.append_assoc]; rfl
     obtain⟨L,hL⟩:=hid_eq (triN G h ++ rowN G h n ++ sqN G n h m);rw [←hL.out] at hNX2 hN4 hl4 HG4' ⊢;obtain⟨x0,x1,x2,-,-,-⟩:=cells_g B9';go_wp2_with (at_builtin; refine Hid.out ?_);refine boxes1 ?_;intro w10 e10 hsz10 BX;have hg10:g9 < w9.heap.size:=blk_lt B9';refine wpList_append_t rfl _ _ 105 Tryz.underlying105 rfl rfl ((HG4'.out.ext e9).ext e10) rfl (q:=⟨n,h,tl,z0,y1,z3⟩) BX (by omega) ?_;rintro g' cap w11 gp hG11 hlo11 C11 hp11 ho11;have hs9:=e9.size;have hs10:=e10.size
     have hpl:gp≠gL:=by
      rcases hp11 with hp | rfl
      ·exact hN4 _ hp
      ·omega
     have hgl':g'≠gL:=by
      rcases ho11 with hp | rfl
      ·exact hN4 _ hp
      ·omega
     have hbl11:w11.heap[gL]?=wz.heap[gL]?:=by
      rw [C11.block gL (by omega) (by omega),Below.block e10 gL (by omega),Below.block e9 gL hgl2];exact HL9.out
     have hs11:=C11.size;have hE11:=C11.ext ((hE4.trans e9).trans e10) hlo11;have HG11:=Lib.hid hG11;clear hG11 C11 hp11 ho11 BX x0 x1 x2 b3 b4 b5 B9';go_wp2;go_roundw
     case rel =>
      refine⟨m+1,by omega,by go_num,?_,fun k hk=>?_,hbl11,by omega,hE11⟩
      ·rw [←hNX2.out];exact HG11.out
      ·obtain rfl:g'=k:=by simpa [Value.ownBlock] using hk
       exact hgl'
     case measure=>simp [intOf]; omega
def insT (G:Grd) (x y:Rat) (t:Tri) (k:Nat):Rat:=trM t.l (sx G x - (t.i:Rat)) (sy G y - (t.j:Rat)) k
def inT (G:Grd) (x y:Rat) (t:Tri):Bool:=decide (0≤(insT G x y t 0).num.sign) && (decide (0≤(insT G x y t 1).num.sign) && decide (0≤(insT G x y t 2).num.sign))
def hzT (G:Grd) (x y:Rat) (t:Tri):Rat:=plV t.l (sx G x - (t.i:Rat)) (sy G y - (t.j:Rat)) t.z0 t.z1 t.z2
def hgtT (G:Grd) (x y:Rat):Option Rat:=((triL G).find? (inT G x y)).map (hzT G x y)
theorem z_bd {G:Grd} (hG:GOk G) {i j:Int} (hi0:0≤i) (hi1:i < G.wd) (hj0:0≤j) (hj1:j < G.ht) (h:zAt G i j≠noneZ) : -1048576≤zAt G i j∧zAt G i j≤1048576:=by
 rcases hG.z _ (zidx hi0 hi1 hj0 hj1 hG.n).2.1 with h0 | h0
 ·exact absurd h0 h
 ·exact h0
theorem full_parts {t:Tri} (h:t.full=true):t.z0≠noneZ∧t.z1≠noneZ∧t.z2≠noneZ:=by
 unfold Tri.full at h;simp only [Bool.and_eq_true,decide_eq_true_eq] at h;exact h
theorem mem_sq {G:Grd} {i j:Int} {m:Nat} {t:Tri} (h:t∈sqN G i j m):∃ r,r < m∧t=sqE G i j r∧t.full=true:=by
 unfold sqN at h;rw [List.mem_filter] at h;obtain⟨h1,h2⟩:=h;rw [List.mem_map] at h1;obtain⟨r,hr,rfl⟩:=h1;exact⟨r,List.mem_range.1 hr,rfl,h2⟩
theorem mem_tri {G:Grd} {t:Tri} (h:t∈triL G):∃ i j r:Nat,i < (G.wd - 1).toNat∧j < (G.ht - 1).toNat∧r < 2∧t=sqE G i j r∧t.full=true:=by
 unfold triL triN at h;rw [List.mem_flatMap] at h;obtain⟨j,hj,h⟩:=h;unfold rowN at h;rw [List.mem_flatMap] at h;obtain⟨i,hi,h⟩:=h;obtain⟨r,hr,e,hf⟩:=mem_sq h;exact⟨i,j,r,List.mem_range.1 hi,List.mem_range.1 hj,hr,e,hf⟩
theorem tri_ok {G:Grd} (hG:GOk G) {t:Tri} (h:t∈triL G):TOk G t.i t.j t.z0 t.z1 t.z2:=by
 obtain⟨i,j,r,hi,hj,hr,rfl,hf⟩:=mem_tri h;obtain⟨f0,f1,f2⟩:=full_parts hf;have w0:=hG.w0;have w1:=hG.w1;have h0:=hG.h0;have h1:=hG.h1;have a:=z_bd hG (i:=(i:Int)) (j:=(j:Int)) (by omega) (by omega) (by omega) (by omega) f0;have c:=z_bd hG (i:=(i:Int)+1) (j:=(j:Int)+1) (by omega) (by omega) (by omega) (by omega) f2
 have b : -1048576≤thR G i j r∧thR G i j r≤1048576:=by
  have f1':thR G i j r≠noneZ:=f1;unfold thR at f1' ⊢
  split at f1' <;> rename_i hr0
  ·rw [if_pos hr0];exact z_bd hG (by omega) (by omega) (by omega) (by omega) f1'
  ·rw [if_neg hr0];exact z_bd hG (by omega) (by omega) (by omega) (by omega) f1'
 show TOk G (i:Int) (j:Int) (zAt G i j) (thR G i j r) (zAt G (i+1) (j+1))
 exact⟨by omega,by omega,by omega,by omega,a.1,a.2,b.1,b.2,c.1,c.2⟩
theorem triL_len {G:Grd} (hG:GOk G):(triL G).length≤10000:=by
 have:=triN_len G hG.w1 (G.ht - 1).toNat;have:=hG.h1;unfold triL;omega
theorem GrowT.cell {base:Nat} {w:World} {A:Option Addr} {n c:Nat} {ts:List Tri} (h:GrowT base w (.slice A n c) ts) {k:Nat} {t:Tri} (ht:ts[k]?=some t):∃ g,A=some ⟨g,0,none⟩∧∀ r,r < 6→w.cell? ⟨g,k*6+r,none⟩=t.cells[r]?:=by
 have hk:=(List.getElem?_eq_some_iff.1 ht).1
 rcases h.2.2 with ⟨-,h⟩ | ⟨g,cap,cur,hv,hb,hg,hnc,hcm,hcs,htk⟩
 ·omega
 ·injection hv with e1 e2 e3
  refine⟨g,e1,fun r hr=>?_⟩;rw [cell_blk hg,←flat_get ts k t r ht hr,←htk];rw [List.getElem?_take,if_pos (by omega)]
  simp
set_option maxRecDepth 100000 in
theorem l49_height {N lo hi:Nat} {w:World} {vg vx vy:Value} {G:Grd} {x y:Rat} {K:Nat} (h:GrdV N lo hi w vg G) (hG:GOk G) (hx:RatV N w vx x) (hy:RatV N w vy y) (hkx:Ht K x) (hky:Ht K y) (hK:K≤1000000) :
  Calls Tryz.prog 14 #[vg,vx,vy] w (RetHgt N w (hgtT G x y)):=by
 have hN:=hx.le;have HG:=Lib.hid h;have HO:=Lib.hid hG;have HX:=Lib.hid hx;have HY:=Lib.hid hy;have HKX:=Lib.hid hkx;have HKY:=Lib.hid hky;obtain⟨A,c,rfl,-,-,-⟩:=h.parts;obtain⟨m1,X1,i1,d1,X2,i2,d2,rfl,-,-,-⟩:=hx.parts;obtain⟨m2,Y1,i3,d3,Y2,i4,d4,rfl,-,-,-⟩:=hy.parts;have hll:=triL_len hG;obtain⟨L,hL⟩:=hid_eq (triL G);obtain⟨res,hres⟩:=hid_eq (hgtT G x y);have HRES:Hid (res=(L.find? (inT G x y)).map (hzT G x y)):=by rw [Hid,hres.out,hL.out]; rfl
 rw [←hres.out];rw [←hL.out] at hll;have HTOK:Hid (∀ t∈L,TOk G t.i t.j t.z0 t.z1 t.z2):=by rw [hL.out]; exact fun t=>tri_ok hG
 clear h hG hx hy hkx hky hres;go_enter Tryz.func14,Tryz.ntmps14;go_wp2_with (go_at_call 52; refine Hid.out ?_);refine boxesC4 ?_;intro W hE hsz B0 B1 B2 B3;refine (l49_triangles (HG.out.ext hE) HO.out).mono ?_;rw [←hL.out];rintro e w1 ⟨AT,cT,rfl,hT,e1⟩;replace B0:=e1.block B0;replace B1:=e1.block B1;replace B2:=e1.block B2;replace B3:=e1.block B3;replace hE:=hE.trans e1;have hs1:=e1.size;have HT:=Lib.hid hT;have HB0:=Lib.hid B0;have HB1:=Lib.hid B1;have HB2:=Lib.hid B2;have HB3:=Lib.hid B3;clear e1 hT B0 B1 B2 B3;go_wp2_with fail
 go_loopw [14] (fun iv wr=>∃ k:Nat,k≤L.length∧iv=.int .i64 (k:Int)∧Hid (∀ s t,s < k→L[s]?=some t→inT G x y t=false)∧Ext w1 wr) (fun iv _=>L.length - (intOf iv).toNat)
 case atStart=>exact⟨0,Nat.zero_le _,rfl,fun s t h=>absurd h (by omega),Ext.refl _⟩
 case round =>
  obtain⟨k,hk,rfl,HNO,hEr⟩:=hrel
  by_cases hlt:k < L.length
  case neg =>
   have hR:Hid (res=none):=by
    rw [Hid,HRES.out,Option.map_eq_none_iff,List.find?_eq_none];intro t ht;obtain⟨s,hs,e⟩:=List.getElem_of_mem ht;rw [HNO.out s t (by omega) (by rw [List.getElem?_eq_getElem hs,e])]
    simp
   have hBRH:=hEr.block HB3.out;obtain⟨u0,u1,u2,u3,u4,u5,u6,u7⟩:=cells4 hBRH;have hEr0:=hE.trans hEr;clear hEr;go_wp2;obtain⟨wR,ER,FR,UR⟩:=ex4 hBRH (.bool false) (.slice none 0 0) (.bool false) (.slice none 0 0);rw [ER];obtain⟨v0,v1,v2,v3,-⟩:=cells4 FR;refine bodyPost_ret (v:=.tuple #[.agg #[.bool false,.slice none 0 0,.bool false,.slice none 0 0],.bool false]) ?_ rfl ?_
   ·simp [results,Tryz.results14,v0,v1,v2,v3,go_sem]
   rw [hR.out];exact⟨rfl,UR.ext hEr0 (by omega)⟩
  obtain⟨t,ht⟩:∃ t,L[k]?=some t:=⟨_,List.getElem?_eq_getElem hlt⟩
  obtain⟨gT,rfl,hc⟩:=(HT.out.ext hEr).cell ht;have HTK:Hid (TOk G t.i t.j t.z0 t.z1 t.z2):=HTOK.out t (List.mem_of_getElem? ht);obtain⟨tt,htt⟩:=hid_eq t;obtain⟨ti,tj,tl,z0,z1,z2⟩:=t;have x0:wr.cell? ⟨gT,k*6,none⟩=some (.int .i64 ti):=hc 0 (by omega);have x1:wr.cell? ⟨gT,k*6+1,none⟩=some (.int .i64 tj):=hc 1 (by omega);have x2:wr.cell? ⟨gT,k*6+2,none⟩=some (.bool tl):=hc 2 (by omega);have x3:wr.cell? ⟨gT,k*6+3,none⟩=some (.int .i64 z0):=hc 3 (by omega);have x4:wr.cell? ⟨gT,k*6+4,none⟩=some (.int .i64 z1):=hc 4 (by omega);have x5:wr.cell? ⟨gT,k*6+5,none⟩=some (.int .i64 z2):=hc 5 (by omega);replace HTK:Hid (TOk G ti tj z0 z1 z2):=HTK;have HAT:Hid (L[k]?=some tt):=by rw [Hid,htt.out]; exact ht
  have t1:decide ((k:Int) < (L.length:Int))=true:=decide_eq_true (by omega);clear hc ht;go_upto_region 4 with (fail);refine boxes1 ?_;intro w4 e4 hsz4 B9;obtain⟨mg,hmg⟩:=hid_eq (trM tl (sx G x - (ti:Rat)) (sy G y - (tj:Rat)));have hpk:Ht (K+48) (sx G x - (ti:Rat)):=((sx_ht HO.out HKX.out).sub (ht_int (m:=8) (by have:=HTK.out.i0; have:=HTK.out.i1; omega) (by omega))).mono (by omega);have hqk:Ht (K+48) (sy G y - (tj:Rat)):=((sy_ht HO.out HKY.out).sub (ht_int (m:=8) (by have:=HTK.out.j0; have:=HTK.out.j1; omega) (by omega))).mono (by omega);have HSZ:Hid (∀ k,Sz (mg k)):=fun k=>by rw [hmg.out]; exact (trM_ht hpk hqk k).sz (by omega)
  have HIN:Hid (inT G x y tt=(decide (0≤(mg 0).num.sign) && (decide (0≤(mg 1).num.sign) && decide (0≤(mg 2).num.sign)))):=by rw [Hid,hmg.out,htt.out]; rfl
  have HZT:Hid (hzT G x y tt=plV tl (sx G x - (ti:Rat)) (sy G y - (tj:Rat)) z0 z1 z2):=by rw [Hid,htt.out]; rfl
  clear hpk hqk htt;have B9':w4.heap[wr.heap.size]?=some (.cells #[.int .i64 ti,.int .i64 tj,.bool tl,.int .i64 z0,.int .i64 z1,.int .i64 z2] 109 (0,0)):=B9;obtain⟨g9,hg9⟩:∃ g9,g9=wr.heap.size:=⟨_,rfl⟩
  rw [←hg9] at B9' ⊢;have hg9a:wr.heap.size≤g9:=by omega
  have hg9b:g9 < w4.heap.size:=blk_lt B9';have hsr:=hEr.size;have hE4:Ext w1 w4:=hEr.trans e4;have B0:=hE4.block HB0.out;have B1:=hE4.block HB1.out;have B2:=hE4.block HB2.out;obtain⟨a0,a1,a2,a3,a4,a5⟩:=cells_g B0;obtain⟨p0,p1,p2,p3,-⟩:=cells4 B1;obtain⟨q0,q1,q2,q3,-⟩:=cells4 B2;obtain⟨y0,y1,y2,y3,y4,y5⟩:=cells_g B9';have hW4:=hE.trans hE4;have HM0:=l49_margins (l:=tl) (HG.out.ext hW4) HO.out HTK.out (HX.out.ext hW4) (HY.out.ext hW4) HKX.out HKY.out hK;rw [←hmg.out] at HM0;have HM:=Lib.hid HM0;clear HM0;unfold triV at HM;clear x0 x1 x2 x3 x4 x5 B9 hg9 hEr e4 hsz4;refine wp_region_lit ?_;go_wp2_with (go_at_call 53; refine Hid.out ?_);refine (HM.out).mono ?_;rintro e w5 ⟨ca,rfl,hcp,hco,hpt,e5⟩
  rename_i K9 hK9
  refine hK9 _ _ ?_;clear hK9 K9;try simp only [nr]
  have HCP:=Lib.hid hcp;clear hcp a0 a1 a2 a3 a4 a5 p0 p1 p2 p3 q0 q1 q2 q3 y0 y1 y2 y3 y4 y5;refine wpList_plain rfl (fun K hK=>?_);go_simp;refine hK _ _ ?_;clear hK K;try simp only [nr]
  refine boxes1 ?_;intro w6 e6 hsz6 B10;refine wpList_store_blk' rfl 43 _ _ rfl (by rfl) (by rfl) B10 info_pt HCP.out (Eq.trans ((by rfl:Array.size _=12)) (Eq.symm (HCP.out))) hco ?_;try simp only [nr]
  intro w7 B10' U7;obtain⟨g10,hg10⟩:∃ g10,g10=w5.heap.size:=⟨_,rfl⟩
  rw [←hg10] at B10' U7 hsz6 ⊢;have C7:=U7.chg (NoU.mk (hg10 ▸ B10) (by decide));have hs5:=e5.size;have hE57:Ext w5 w7:=C7.ext e6 (by omega);have hE47:=e5.trans hE57;replace hpt:=hpt.ext hE57;replace B9':=hE47.block B9';have hE7:=hE4.trans hE47;have hg10b:g10 < w7.heap.size:=blk_lt B10';have hg10a:w5.heap.size≤g10:=by omega
  clear B10 U7 C7 e6 hg10 hsz6 hE57 B0 B1 B2 hE47 hE4 e5 HM hW4;refine wpList_nil ?_;go_upto_region 5 with (fail);obtain⟨np,Ap,kp,cp,A'p,k'p,c'p,p0,p1,p2,p3,hbp,yp,zp⟩:=((hpt 0 (by omega)).at4 B10').open;have hRp:RatV N w7 (.agg #[.bool np,.slice Ap kp cp,.bool false,.slice A'p k'p c'p]) (mg 0):=RatV.mk hbp yp zp;clear hbp yp zp;obtain⟨nq,Aq,kq,cq,A'q,k'q,c'q,q0,q1,q2,q3,hbq,yq,zq⟩:=((hpt 1 (by omega)).at4 B10').open;have hRq:RatV N w7 (.agg #[.bool nq,.slice Aq kq cq,.bool false,.slice A'q k'q c'q]) (mg 1):=RatV.mk hbq yq zq;clear hbq yq zq;obtain⟨nr,Ar,kr,cr,A'r,k'r,c'r,r0,r1,r2,r3,hbr,yr,zr⟩:=((hpt 2 (by omega)).at4 B10').open;have hRr:RatV N w7 (.agg #[.bool nr,.slice Ar kr cr,.bool false,.slice A'r k'r c'r]) (mg 2):=RatV.mk hbr yr zr;clear hbr yr zr;simp only [Nat.zero_mul,Nat.one_mul,Nat.reduceMul,Nat.reduceAdd,Nat.add_zero,Nat.zero_add] at p0 p1 p2 p3 q0 q1 q2 q3 r0 r1 r2 r3;obtain⟨s0,hs0⟩:=hid_eq (mg 0).num.sign;obtain⟨s1,hs1⟩:=hid_eq (mg 1).num.sign;obtain⟨s2,hs2⟩:=hid_eq (mg 2).num.sign;rw [←hs0.out,←hs1.out,←hs2.out] at HIN;obtain⟨tb,htb⟩:=hid_eq (inT G x y tt)
  go_cut [38] (fun v wx=>v=.bool tb∧Ext w7 wx)
  case first =>
   go_wp2_with (go_at_call 54; refine Hid.out ?_);refine (r2_sign hRp (HSZ.out 0)).mono ?_;rintro e wA ⟨rfl,eA⟩;rw [←hs0.out]
   by_cases d0:0≤s0
   case neg =>
    have HB:Hid (false=tb):=by rw [Hid,htb.out,HIN.out,decide_eq_false d0]; rfl
    have u0:decide (0≤s0)=false:=decide_eq_false d0;clear p0 p1 p2 p3 q0 q1 q2 q3 r0 r1 r2 r3;go_wp2_with fail
    go_meet
    exact⟨by rw [←HB.out],eA⟩
   have c0:decide (0≤s0)=true:=decide_eq_true d0;replace q0:=eA.cell q0;replace q1:=eA.cell q1;replace q2:=eA.cell q2;replace q3:=eA.cell q3;go_wp2_with (go_at_call 54; refine Hid.out ?_);refine (r2_sign (hRq.ext eA) (HSZ.out 1)).mono ?_;rintro e wB ⟨rfl,eB⟩;rw [←hs1.out]
   by_cases d1:0≤s1
   case neg =>
    have HB:Hid (false=tb):=by rw [Hid,htb.out,HIN.out,decide_eq_false d1,c0]; rfl
    have v0:decide (0≤s1)=false:=decide_eq_false d1;clear p0 p1 p2 p3 q0 q1 q2 q3 r0 r1 r2 r3;go_wp2_with fail
    go_meet
    exact⟨by rw [←HB.out],eA.trans eB⟩
   have c1:decide (0≤s1)=true:=decide_eq_true d1;replace r0:=(eA.trans eB).cell r0;replace r1:=(eA.trans eB).cell r1;replace r2:=(eA.trans eB).cell r2;replace r3:=(eA.trans eB).cell r3;clear p0 p1 p2 p3 q0 q1 q2 q3;go_wp2_with (go_at_call 54; refine Hid.out ?_);refine (r2_sign (hRr.ext (eA.trans eB)) (HSZ.out 2)).mono ?_;rintro e wC ⟨rfl,eC⟩;rw [←hs2.out];clear r0 r1 r2 r3
   by_cases d2:0≤s2
   case neg =>
    have HB:Hid (false=tb):=by rw [Hid,htb.out,HIN.out,decide_eq_false d2,c0,c1]; rfl
    have v0:decide (0≤s2)=false:=decide_eq_false d2;go_wp2_with fail
    go_meet
    exact⟨by rw [←HB.out],(eA.trans eB).trans eC⟩
   have c2:decide (0≤s2)=true:=decide_eq_true d2;have HB:Hid (true=tb):=by rw [Hid,htb.out,HIN.out,c0,c1,c2]; rfl
   go_wp2_with fail
   go_meet
   exact⟨by rw [←HB.out],(eA.trans eB).trans eC⟩
  obtain⟨rfl,hEc⟩:=hcut;obtain⟨w8,hw8⟩:∃ w8,w8=wc:=⟨_,rfl⟩
  subst hw8;have hE8:=hE7.trans hEc;cases tb with
  | false =>
   clear p0 p1 p2 p3 q0 q1 q2 q3 r0 r1 r2 r3 B9' B10' hpt hRp hRq hRr hEc hE7;go_wp2;go_roundw
   case rel =>
    refine⟨k+1,by omega,by go_num,fun s t hs e=>?_,hE8⟩
    by_cases hsk:s < k
    ·exact HNO.out s t hsk e
    ·have h9:s=k:=by omega
     subst h9;have h8:tt=t:=Option.some.inj (HAT.out.symm.trans e);rw [←h8];exact htb.out.symm
   case measure=>simp [intOf]; omega
  | true =>
   have HR:Hid (res=some (plV tl (sx G x - (ti:Rat)) (sy G y - (tj:Rat)) z0 z1 z2)):=by
    rw [Hid,HRES.out,←HZT.out]
    have hf:L.find? (inT G x y)=some tt:=by
     rw [List.find?_eq_some_iff_getElem];refine⟨htb.out.symm,k,hlt,?_,fun s hs=>?_⟩
     ·exact Option.some.inj ((List.getElem?_eq_getElem hlt).symm.trans HAT.out)
     ·rw [HNO.out s _ hs (List.getElem?_eq_getElem (by omega))]
      rfl
    rw [hf]
    rfl
   have hW8:=hE.trans hE8;have HM0:=l49_plane (l:=tl) (HG.out.ext hW8) HO.out HTK.out (HX.out.ext hW8) (HY.out.ext hW8) HKX.out HKY.out hK;obtain⟨pv,hpv⟩:=hid_eq (plV tl (sx G x - (ti:Rat)) (sy G y - (tj:Rat)) z0 z1 z2);rw [←hpv.out] at HM0 HR;have HM:=Lib.hid HM0;clear HM0;unfold triV at HM;have B0:=hE8.block HB0.out;have B1:=hE8.block HB1.out;have B2:=hE8.block HB2.out;have B3:=hE8.block HB3.out;have D9:=hEc.block B9';clear p0 p1 p2 p3 q0 q1 q2 q3 r0 r1 r2 r3 B9' B10' hpt hRp hRq hRr hEc hE7;obtain⟨a0,a1,a2,a3,a4,a5⟩:=cells_g B0;obtain⟨p0,p1,p2,p3,-⟩:=cells4 B1;obtain⟨q0,q1,q2,q3,-⟩:=cells4 B2;obtain⟨y0,y1,y2,y3,y4,y5⟩:=cells_g D9;go_wp2_with (go_at_call 55; refine Hid.out ?_);refine (HM.out).mono ?_;rintro e w9 ⟨v,rfl,hv,e9⟩;obtain⟨bz,Az,kz,cz,Az',kz',cz',rfl,hbz,gz1,gz2⟩:=hv.parts;replace B3:=e9.block B3;obtain⟨z4,z5,z6,z7,z8,z9,za,zb⟩:=cells4 B3;clear a0 a1 a2 a3 a4 a5 p0 p1 p2 p3 q0 q1 q2 q3 y0 y1 y2 y3 y4 y5 B0 B1 B2 D9;go_wp2;obtain⟨wR,ER,FR,UR⟩:=ex4 B3 (.bool bz) (.slice Az kz cz) (.bool false) (.slice Az' kz' cz');rw [ER];obtain⟨v0,v1,v2,v3,-⟩:=cells4 FR;have CR:=UR.chg (NoU.mk B3 (by decide));refine bodyPost_ret (v:=.tuple #[.agg #[.bool bz,.slice Az kz cz,.bool false,.slice Az' kz' cz'],.bool true]) ?_ rfl ?_
   ·simp [results,Tryz.results14,v0,v1,v2,v3,go_sem]
   rw [HR.out];exact⟨_,rfl,RatV.mk hbz (gz1.chg CR (by omega)) (gz2.chg CR (by omega)),UR.ext (hW8.trans e9) (by omega)⟩
theorem sgn_nn {x:Rat}:0≤x.num.sign↔0≤x:=by
 rw [←Rat.num_nonneg]
 constructor
 ·intro h
  rcases Int.lt_trichotomy x.num 0 with h1 | h1 | h1
  ·rw [Int.sign_eq_neg_one_of_neg h1] at h; omega
  ·omega
  ·omega
 ·intro h
  rcases Int.lt_trichotomy x.num 0 with h1 | h1 | h1
  ·omega
  ·rw [h1]; decide
  ·rw [Int.sign_eq_one_of_pos h1]; omega
theorem inT_iff {G:Grd} {x y:Rat} {i j:Int} {r:Nat} (hr:r < 2) (i0:0≤i) (i1:i < G.wd - 1) (j0:0≤j) (j1:j < G.ht - 1) (hf:(sqE G i j r).full=true):inT G x y (sqE G i j r)=true↔InT G (sx G x) (sy G y) i j r:=by
 obtain⟨f0,f1,f2⟩:=full_parts hf;unfold inT;simp only [Bool.and_eq_true,decide_eq_true_eq,sgn_nn];have hr':r=0∨r=1:=by omega
 unfold insT trM
 rcases hr' with rfl | rfl
 ·simp only [sqE,decide_true,if_true,Nat.one_ne_zero,if_false,show ((2:Nat)=0)=False by simp,show ((2:Nat)=1)=False by simp]
  constructor
  ·rintro⟨a,b,c⟩;exact⟨i0,i1,j0,j1,by grind,by grind,by grind,by grind,fun _=>by grind,fun h=>absurd h (by decide),f0,f1,f2⟩
  ·intro h;have h1:=h.a1;have h2:=h.b0;have h3:=h.d0 rfl;exact⟨by grind,by grind,by grind⟩
 ·simp only [sqE,Nat.one_ne_zero,decide_false,if_true,if_false,show ((2:Nat)=0)=False by simp,show ((2:Nat)=1)=False by simp,Bool.false_eq_true]
  constructor
  ·rintro⟨a,b,c⟩;exact⟨i0,i1,j0,j1,by grind,by grind,by grind,by grind,fun h=>absurd h (by decide),fun _=>by grind,f0,f1,f2⟩
  ·intro h;have h1:=h.a0;have h2:=h.b1;have h3:=h.d1 rfl;exact⟨by grind,by grind,by grind⟩
theorem hzT_eq {G:Grd} {x y:Rat} {i j:Int} {r:Nat} (hr:r < 2):hzT G x y (sqE G i j r)=plT G (sx G x) (sy G y) i j r:=by
 have hr':r=0∨r=1:=by omega
 rcases hr' with rfl | rfl <;> rfl
theorem sq_mem {G:Grd} {i j:Int} {r:Nat} (hr:r < 2) (i0:0≤i) (i1:i < G.wd - 1) (j0:0≤j) (j1:j < G.ht - 1) (hf:(sqE G i j r).full=true):sqE G i j r∈triL G:=by
 obtain⟨a,rfl⟩:∃ a:Nat,i=(a:Int):=⟨i.toNat,by omega⟩
 obtain⟨b,rfl⟩:∃ b:Nat,j=(b:Int):=⟨j.toNat,by omega⟩
 unfold triL triN;rw [List.mem_flatMap];refine⟨b,List.mem_range.2 (by omega),?_⟩;unfold rowN;rw [List.mem_flatMap];refine⟨a,List.mem_range.2 (by omega),?_⟩;unfold sqN;rw [List.mem_filter,List.mem_map];exact⟨⟨r,List.mem_range.2 hr,rfl⟩,hf⟩
theorem full_of {G:Grd} {i j:Int} {r:Nat} (h0:zAt G i j≠noneZ) (h1:thR G i j r≠noneZ) (h2:zAt G (i+1) (j+1)≠noneZ):(sqE G i j r).full=true:=by
 unfold Tri.full sqE;simp only [Bool.and_eq_true,decide_eq_true_eq];exact⟨h0,h1,h2⟩
theorem find_surf {G:Grd} {x y:Rat} {t:Tri} (h:(triL G).find? (inT G x y)=some t):Surf G (sx G x) (sy G y) (hzT G x y t):=by
 obtain⟨i,j,r,hi,hj,hr,rfl,hf⟩:=mem_tri (List.mem_of_find?_eq_some h);exact⟨i,j,r,hr,(inT_iff hr (by omega) (by omega) (by omega) (by omega) hf).1 (List.find?_some h),(hzT_eq hr).symm⟩
theorem hgt_eq (G:Grd) (x y:Rat):hgtT G x y=hgtF G x y:=by
 unfold hgtT;cases hh:hgtF G x y with
 | none =>
  rw [Option.map_eq_none_iff];cases hf:(triL G).find? (inT G x y) with
  | none=>rfl
  | some t=>exact absurd (find_surf hf) (hgt_none.1 hh _)
 | some h =>
  have hs:=hgt_surf hh;obtain⟨i,j,r,hr,hI,hp⟩:=hs;have hm:=sq_mem hr hI.i0 hI.i1 hI.j0 hI.j1 (full_of hI.z0 hI.z1 hI.z2);cases hf:(triL G).find? (inT G x y) with
  | none =>
   rw [List.find?_eq_none] at hf;exact absurd ((inT_iff hr hI.i0 hI.i1 hI.j0 hI.j1 (full_of hI.z0 hI.z1 hI.z2)).2 hI) (hf _ hm)
  | some t =>
   show some (hzT G x y t)=some h
   rw [surf_unique (find_surf hf) (hgt_surf hh)]
def G49:Grd:=⟨0,0,2,3,2,6,fun k=>if k=1∨k=4 then 6 else 0⟩
def sp3 (x y z:Int) (i:Nat):Rat:=if i=0 then (x:Rat) else if i=1 then (y:Rat) else (z:Rat)
theorem g49_code:grdCode G49=0:=by decide
theorem g49_step (x:Rat):sx G49 x=x / 2:=by
 show (x - ((0:Int):Rat)) / ((2:Int):Rat)=x / 2
 have h0:((0:Int):Rat)=0:=rfl;have h2:((2:Int):Rat)=2:=rfl;rw [h0,h2]
 grind
theorem g49_stepy:sy G49 0=0:=by decide +kernel
theorem g49_a:hgtF G49 1 0=some 3:=by
 refine surf_hgt ⟨0,0,0,by omega,⟨by decide,by decide,by decide,by decide,?_,?_,?_,?_,?_,?_,by decide,by decide,by decide⟩,?_⟩ <;> decide +kernel
theorem g49_b:hgtF G49 2 0=some 6:=by
 refine surf_hgt ⟨0,0,0,by omega,⟨by decide,by decide,by decide,by decide,?_,?_,?_,?_,?_,?_,by decide,by decide,by decide⟩,?_⟩ <;> decide +kernel
theorem g49_not:¬ clrF G49 (sp3 0 0 0) (sp3 4 0 8):=by
 intro h
 have h1:=h (1 / 2) (by decide +kernel) (by decide +kernel) 2 (by
  unfold exF;rw [show lin (sp3 0 0 0 0) (sp3 4 0 8 0) (1 / 2)=2 by decide +kernel,show lin (sp3 0 0 0 1) (sp3 4 0 8 1) (1 / 2)=0 by decide +kernel,g49_b]
  decide +kernel)
 exact absurd h1 (by decide +kernel)
theorem g49_up {X h:Rat} (hs:Surf G49 X 0 h) (h0:0≤X):h≤6*X:=by
 obtain⟨i,j,r,hr,hI,hp⟩:=hs;have i0:=hI.i0;have i1:=hI.i1;have j0:=hI.j0;have j1:=hI.j1;replace i1:i < 2:=i1;replace j1:j < 1:=j1;obtain rfl:j=0:=by omega
 have hi:i=0∨i=1:=by omega
 have hr':r=0∨r=1:=by omega
 have c0:((0:Int):Rat)=0:=rfl;have c1:((1:Int):Rat)=1:=rfl;have c6:((6:Int):Rat)=6:=rfl;have e00:zAt G49 0 0=0:=by decide
 have e10:zAt G49 1 0=6:=by decide
 have e20:zAt G49 2 0=0:=by decide
 have a0:=hI.a0;have d1:=hI.d1
 rcases hr' with rfl | rfl
 ·rw [pl0] at hp
  rcases hi with rfl | rfl
  ·rw [show (0:Int)+1=1 from rfl,e00,e10] at hp
   grind
  ·rw [show (1:Int)+1=2 from rfl,e10,e20] at hp
   grind
 ·rw [pl1] at hp;have d:=d1 rfl
  rcases hi with rfl | rfl
  ·rw [e00] at hp;have:X=0:=by grind
   grind
  ·rw [e10] at hp;have:X=1:=by grind
   rw [this,c1,show (1:Rat) - 1=0 by decide +kernel,show (0:Rat) - ((0:Int):Rat)=0 by decide +kernel,Rat.zero_mul,Rat.zero_mul] at hp
   grind
theorem g49_clr (t:Rat):¬ blkF G49 (sp3 0 0 0) (sp3 4 0 12) t:=by
 rintro⟨h0,h1,x,hx,h2⟩;unfold exF at hx;rw [Option.map_eq_some_iff] at hx;obtain⟨h,hh,rfl⟩:=hx;have e0:lin (sp3 0 0 0 0) (sp3 4 0 12 0) t=4*t:=by show (0:Rat)+t*(4 - 0)=_; grind
 have e1:lin (sp3 0 0 0 1) (sp3 4 0 12 1) t=0:=by show (0:Rat)+t*(0 - 0)=_; grind
 have e2:lin (sp3 0 0 0 2) (sp3 4 0 12 2) t=12*t:=by show (0:Rat)+t*(12 - 0)=_; grind
 rw [e0,e1] at hh;rw [e2] at h2;have hs:=hgt_surf hh
 have hs':Surf G49 (2*t) 0 h:=by
  have:=hs;rw [show stepF (4*t) G49.x0 G49.st=2*t by have:=g49_step (4*t); unfold sx at this; rw [this]; grind,show stepF 0 G49.y0 G49.st=0 from g49_stepy] at this;exact this
 have:=g49_up hs' (by grind)
 grind
theorem sp3_ht {K:Nat} {x y z:Int} (h:4≤K) (hx:0≤x∧x≤15) (hy:0≤y∧y≤15) (hz:0≤z∧z≤15) (i:Nat):Ht K (sp3 x y z i):=by
 unfold sp3
 split
 ·exact (ht_int (m:=4) (by omega) (by omega)).mono (by omega)
 ·split
  ·exact (ht_int (m:=4) (by omega) (by omega)).mono (by omega)
  ·exact (ht_int (m:=4) (by omega) (by omega)).mono (by omega)
theorem sp3_bd {x y z:Int} (hx:0≤x∧x≤15) (hy:0≤y∧y≤15) (hz:0≤z∧z≤15) (i:Nat) : -100000000≤sp3 x y z i∧sp3 x y z i≤100000000:=by
 have h:∀ n:Int,0≤n∧n≤15→-100000000≤(n:Rat)∧(n:Rat)≤100000000:=fun n hn=>by
  have h1:((-100000000:Int):Rat)≤(n:Rat):=Rat.intCast_le_intCast.2 (by omega);have h2:(n:Rat)≤((100000000:Int):Rat):=Rat.intCast_le_intCast.2 (by omega);exact⟨h1,h2⟩
 unfold sp3
 split
 ·exact h x hx
 ·split
  ·exact h y hy
  ·exact h z hz
theorem g49_sok {c:Int} (hc:0≤c∧c≤15):SOk G49 4 (sp3 0 0 0) (sp3 4 0 c) :=
 ⟨grd_ok g49_code,fun i _=>sp3_ht (by omega) (by omega) (by omega) (by omega) i,fun i _=>sp3_ht (by omega) (by omega) (by omega) hc i,fun i _=>sp3_bd (by omega) (by omega) (by omega) i,fun i _=>sp3_bd (by omega) (by omega) hc i⟩
theorem blk_code {G:Grd} {a b:Nat→Rat} {t:Rat} (h:blkF G a b t):blkCode G a b t=0:=by
 obtain⟨h0,h1,x,hx,h2⟩:=h;unfold blkCode;rw [if_pos ⟨h0,h1⟩,hx]
 show (if 0 < x then (0:Int) else 12)=0
 rw [if_pos h2]
theorem sp3_pt {N:Nat} {w:World} {x y z:Int} {x0 x1 x2 x3 y0 y1 y2 y3 z0 z1 z2 z3:Value} (h0:RatV N w (.agg #[x0,x1,x2,x3]) (x:Rat)) (h1:RatV N w (.agg #[y0,y1,y2,y3]) (y:Rat)) (h2:RatV N w (.agg #[z0,z1,z2,z3]) (z:Rat)):PtV N w #[x0,x1,x2,x3,y0,y1,y2,y3,z0,z1,z2,z3] 0 (sp3 x y z):=ptv_lit h0 h1 h2
set_option maxRecDepth 100000 in
theorem l49_spot {N:Nat} {w:World} (hN:N≤w.heap.size) (x y z:Int) (hx : -1000000000≤x∧x≤1000000000) (hy : -1000000000≤y∧y≤1000000000) (hz : -1000000000≤z∧z≤1000000000) :
  Calls Tryz.prog 25 #[.int .i64 x,.int .i64 y,.int .i64 z] w (RetPt N w (sp3 x y z)):=by
 go_enter Tryz.func25,Tryz.ntmps25;go_upto_region 1 with (fail);refine boxes1 ?_;intro W hE hsz B0;refine wp_region_lit ?_;go_wp2_with (go_at_call 45; refine Hid.out ?_);refine (l49_whole (N:=N) (by omega) x (by omega) (by omega)).mono ?_;rintro e w1 ⟨v,rfl,hv,e1⟩;obtain⟨ba,Aa,ka,ca,A'a,k'a,c'a,rfl,-,-,-⟩:=hv.parts;have hs1:=e1.size;go_wp2_with (go_at_call 45; refine Hid.out ?_);refine (l49_whole (N:=N) (by omega) y (by omega) (by omega)).mono ?_;rintro e w2 ⟨v,rfl,hv2,e2⟩;obtain⟨bb,Ab,kb,cb,A'b,k'b,c'b,rfl,-,-,-⟩:=hv2.parts;have hs2:=e2.size;go_wp2_with (go_at_call 45; refine Hid.out ?_);refine (l49_whole (N:=N) (by omega) z (by omega) (by omega)).mono ?_;rintro e w3 ⟨v,rfl,hv3,e3⟩;obtain⟨bd,Ad,kd,cd,A'd,k'd,c'd,rfl,-,-,-⟩:=hv3.parts
 rename_i K9 hK9
 refine hK9 _ _ ?_;clear hK9 K9;try simp only [nr]
 replace hE:=((hE.trans e1).trans e2).trans e3;replace B0:=e3.block (e2.block (e1.block B0));have hPT:=sp3_pt ((hv.ext e2).ext e3) (hv2.ext e3) hv3;clear hv hv2 hv3 e1 e2 e3;refine wpList_build_eq rfl _ _ rfl (l:=[(0,.agg #[.bool ba,.slice Aa ka ca,.bool false,.slice A'a k'a c'a]),(1,.agg #[.bool bb,.slice Ab kb cb,.bool false,.slice A'b k'b c'b]),(2,.agg #[.bool bd,.slice Ad kd cd,.bool false,.slice A'd k'd c'd])]) (by simp only [List.map_toArray,List.map_cons,List.map_nil]; rfl) (built_pt _ _ _ _ _ _ _ _ _ _ _ _) ?_;obtain⟨cs,hcs⟩:=hid_eq (#[.bool ba,.slice Aa ka ca,.bool false,.slice A'a k'a c'a,.bool bb,.slice Ab kb cb,.bool false,.slice A'b k'b c'b,.bool bd,.slice Ad kd cd,.bool false,.slice A'd k'd c'd]:Array Value);have k1:cs.size=12:=by rw [hcs.out]; rfl
 have k2:cs.toList.all (·.oneCell')=true:=by rw [hcs.out]; rfl
 rw [←hcs.out] at hPT ⊢;have KK:=Lib.hid k1;clear hcs k1;refine wpList_store_blk' rfl 43 _ _ rfl (by rfl) (by rfl) B0 info_pt KK.out (Eq.trans ((by rfl:Array.size _=12)) (Eq.symm (KK.out))) k2 ?_;try simp only [nr]
 intro w4 D4 U4;have C4:=U4.chg (NoU.mk B0 (by decide));have HF:Hid (RetPt N w (sp3 x y z) (.returned (.agg cs)) w4):=⟨cs,rfl,KK.out,k2,fun i hi=>(hPT i hi).chg C4 (by omega),U4.ext hE (by omega)⟩
 have hz:(Tryz.prog.info? 43).map (·.size)=some cs.size:=by rw [KK.out]; exact info_pt
 clear hPT U4 C4 B0 k2;refine wpList_nil ?_;go_wp2;exact bodyPost_ret (results_cell_row rfl _ _ _ _ _ _ _ rfl D4 Tryz.underlying43 rfl hz) rfl HF.out
def Mn.pl (N:Nat) (x y:Rat):Mn:=⟨fun v w=>PlV N w v (raw x) (raw y),fun e h=>by
 obtain⟨x0,x1,x2,x3,y0,y1,y2,y3,h0,h1,h2⟩:=h
 exact⟨x0,x1,x2,x3,y0,y1,y2,y3,h0,h1.ext e,h2.ext e⟩⟩
def Mn.bl (N:Nat) (G:Grd) (a b:Nat→Rat) (K:Nat):Mn:=⟨fun v w=>∃ u t,v=.tuple #[.bool false,u,.int .i64 0]∧RatV N w u t∧Ht K t∧blkF G a b t,fun e h=>by
 obtain⟨u,t,h0,h1,h2⟩:=h
 exact⟨u,t,h0,h1.ext e,h2⟩⟩
def Mn.blt (N:Nat) (G:Grd) (a b:Nat→Rat) (K:Nat):Mn:=⟨fun v w=>∃ t,RatV N w v t∧Ht K t∧blkF G a b t,fun e h=>by
 obtain⟨t,h1,h2⟩:=h
 exact⟨t,h1.ext e,h2⟩⟩
def Mn.cl (N:Nat):Mn:=⟨fun v w=>∃ u,v=.tuple #[.bool true,u,.int .i64 0]∧RatV N w u 0,fun e h=>by
 obtain⟨u,h0,h1⟩:=h
 exact⟨u,h0,h1.ext e⟩⟩
theorem k49_height {N lo hi:Nat} {w:World} {vg vp:Value} (h:GrdV N lo hi w vg G49) (hp:PlV N w vp (raw ((1:Int):Rat)) (raw ((0:Int):Rat))) (hN:N≤w.heap.size) :
  Calls Tryz.prog 12 #[vg,vp] w (fun e w'=>∃ v,e=.returned (.tuple #[v,.int .i64 0])∧RatV N w' v ((3:Int):Rat)∧Ext w w'):=by
 have hh:=o_Height (K:=4) h g49_code hp hN (ht_int (m:=1) (by decide) (by decide) |>.mono (by omega)) (ht_int (m:=1) (by decide) (by decide) |>.mono (by omega)) (by omega) (by decide +kernel) (by decide +kernel);have e:hgtF G49 ((1:Int):Rat) ((0:Int):Rat)=some ((3:Int):Rat):=g49_a;rw [e] at hh;exact hh
theorem k49_bl {N lo hi:Nat} {w:World} {vg:Value} {ca cb:Array Value} (h:GrdV N lo hi w vg G49) (hN:N≤w.heap.size) (a2:ca.size=12) (a3:ca.toList.all (·.oneCell')=true) (a4:PtV N w ca 0 (sp3 0 0 0)) (b2:cb.size=12) (b3:cb.toList.all (·.oneCell')=true) (b4:PtV N w cb 0 (sp3 4 0 8)) :
  Calls Tryz.prog 20 #[vg,.agg ca,.agg cb] w (fun e w'=>∃ u t,e=.returned (.tuple #[.bool false,u,.int .i64 0])∧RatV N w' u t∧Ht (456*4+24000) t∧blkF G49 (sp3 0 0 0) (sp3 4 0 8) t∧Ext w w'):=by
 refine (o_Clear h g49_code (g49_sok (c:=8) (by omega)) (by omega) hN ⟨a4,a2,a3⟩ ⟨b4,b2,b3⟩).mono ?_;rintro e w' ⟨is,v,t,rfl,hv,hk,h1,h2,e'⟩;cases is with
 | true=>exact absurd (h1 rfl).1 g49_not
 | false=>exact⟨v,t,rfl,hv,hk,h2 rfl,e'⟩
theorem k49_cl {N lo hi:Nat} {w:World} {vg:Value} {ca cb:Array Value} (h:GrdV N lo hi w vg G49) (hN:N≤w.heap.size) (a2:ca.size=12) (a3:ca.toList.all (·.oneCell')=true) (a4:PtV N w ca 0 (sp3 0 0 0)) (b2:cb.size=12) (b3:cb.toList.all (·.oneCell')=true) (b4:PtV N w cb 0 (sp3 4 0 12)) :
  Calls Tryz.prog 20 #[vg,.agg ca,.agg cb] w (fun e w'=>∃ u,e=.returned (.tuple #[.bool true,u,.int .i64 0])∧RatV N w' u 0∧Ext w w'):=by
 refine (o_Clear h g49_code (g49_sok (c:=12) (by omega)) (by omega) hN ⟨a4,a2,a3⟩ ⟨b4,b2,b3⟩).mono ?_;rintro e w' ⟨is,v,t,rfl,hv,hk,h1,h2,e'⟩;cases is with
 | true =>
  have:=(h1 rfl).2;subst this;exact⟨v,rfl,hv,e'⟩
 | false=>exact absurd (h2 rfl) (g49_clr t)
theorem k49_blocked {N lo hi:Nat} {w:World} {vg vt:Value} {ca cb:Array Value} {t:Rat} (h:GrdV N lo hi w vg G49) (a2:ca.size=12) (a3:ca.toList.all (·.oneCell')=true) (a4:PtV N w ca 0 (sp3 0 0 0)) (b2:cb.size=12) (b3:cb.toList.all (·.oneCell')=true) (b4:PtV N w cb 0 (sp3 4 0 8)) (ht:RatV N w vt t) (hk:Ht (456*4+24000) t) (hb:blkF G49 (sp3 0 0 0) (sp3 4 0 8) t) :
  Calls Tryz.prog 18 #[vg,.agg ca,.agg cb,vt] w (RetV w (.int .i64 0)):=by
 have h0:=o_Blocked h g49_code ((g49_sok (c:=8) (by omega)).mono (K':=456*4+24000) (by omega)) hk (by omega) ⟨a4,a2,a3⟩ ⟨b4,b2,b3⟩ ht;rw [blk_code hb] at h0;exact h0
theorem g49_iz {w:World} {g N:Nat} {t:TypeId} (h:w.heap[g]?=some (.cells #[.int .i64 0,.int .i64 6,.int .i64 0,.int .i64 0,.int .i64 6,.int .i64 0] t (0,0))):IzV N 0 0 w (.slice (some ⟨g,0,none⟩) 6 6) 6 G49.z:=by
 refine⟨rfl,some ⟨g,0,none⟩,6,rfl,Nat.le_refl _,by unfold maxLen; omega,fun _=>⟨g,0,rfl,fun i hi=>?_⟩⟩;rw [cell_blk h];have hi':i=0∨i=1∨i=2∨i=3∨i=4∨i=5:=by omega
 rcases hi' with rfl | rfl | rfl | rfl | rfl | rfl <;> rfl
theorem g49_grd {w:World} {g N:Nat} {t:TypeId} (h:w.heap[g]?=some (.cells #[.int .i64 0,.int .i64 6,.int .i64 0,.int .i64 0,.int .i64 6,.int .i64 0] t (0,0))):GrdV N 0 0 w (.agg #[.int .i64 0,.int .i64 0,.int .i64 2,.int .i64 3,.int .i64 2,.slice (some ⟨g,0,none⟩) 6 6]) G49:=⟨_,rfl,g49_iz h⟩
theorem pl_of {N:Nat} {w:World} {x y:Rat} {x0 x1 x2 x3 y0 y1 y2 y3:Value} (h:RatV N w (.agg #[x0,x1,x2,x3]) x) (h':RatV N w (.agg #[y0,y1,y2,y3]) y):PlV N w (.agg #[x0,x1,x2,x3,y0,y1,y2,y3]) (raw x) (raw y):=⟨_,_,_,_,_,_,_,_,rfl,h,h'⟩
set_option maxRecDepth 100000 in
theorem l49_known {w:World}:Calls Tryz.prog 10 #[] w (RetV w (.bool true)):=by
 obtain⟨N,hN⟩:∃ N,N=w.heap.size:=⟨_,rfl⟩
 go_enter Tryz.func10,Tryz.ntmps10;go_upto_region 2 with (fail);refine boxes2 ?_;intro W hE hsz BZ BG;have BZ':W.heap[w.heap.size]?=some (.cells #[.int .i64 0,.int .i64 6,.int .i64 0,.int .i64 0,.int .i64 6,.int .i64 0] 3 (0,0)):=BZ;have BG':W.heap[w.heap.size+1]?=some (.cells #[.int .i64 0,.int .i64 0,.int .i64 2,.int .i64 3,.int .i64 2,.slice (some ⟨w.heap.size,0,none⟩) 6 6] 24 (0,0)):=BG;have HGR:Hid (GrdV N 0 0 W _ G49):=g49_grd BZ';have HBG:=Lib.hid BG';clear BZ BG BZ';have hNW:N≤W.heap.size:=by omega
 obtain⟨a0,a1,a2,a3,a4,a5⟩:=cells_g BG';clear BG';refine regS [Mn.eq (.agg #[.int .i64 0,.int .i64 0,.int .i64 2,.int .i64 3,.int .i64 2,.slice (some ⟨w.heap.size,0,none⟩) 6 6]),Mn.rat N ((1:Int):Rat),Mn.rat N ((0:Int):Rat),Mn.pl N ((1:Int):Rat) ((0:Int):Rat),Mn.rc N ((3:Int):Rat),Mn.rc N ((3:Int):Rat),Mn.rat N ((3:Int):Rat),Mn.eq (.int .i64 0),Mn.blk W.heap.size (.cells #[.bool false,.slice none 0 0,.bool false,.slice none 0 0] 29 (0,0)),Mn.any,Mn.any] [some 13,some 14,some 15,some 16,some 17,some 12,some 18,some 19,some 2,none,some 3] [9,10] [7] [true,true,true,true,true,true,true,true,true,false,false] 2 (by kernel_rfl) ?_ ?_ ?_
 ·show ∀ i,i < 11→_
  iterate 11 refine fs ?_ ?_
  ·exact fz
  all_goals intro hl hs
  all_goals first | exact absurd hl (by decide) | exact absurd hs (by decide) | skip
  all_goals clear hl hs
  all_goals refine stp rfl ?_
  all_goals intro ac wi eI hB hA K hK
  have o1:=oOf (hB 1 (by kernel_rfl)) rfl;have cc0:=eI.cell a0;have cc1:=eI.cell a1;have cc2:=eI.cell a2;have cc3:=eI.cell a3;have cc4:=eI.cell a4;have cc5:=eI.cell a5
  rotate_left
  clear hB hA
  ·go_simp;refine (l49_whole (Nat.le_trans hNW eI.size) 1 (by omega) (by omega)).mono ?_;rintro e wj ⟨vj,rfl,hj,ej⟩;go_wp2_with fail;exact hK.out _ _ ej hj
  clear hB hA
  ·go_simp;refine (l49_whole (Nat.le_trans hNW eI.size) 0 (by omega) (by omega)).mono ?_;rintro e wj ⟨vj,rfl,hj,ej⟩;go_wp2_with fail;exact hK.out _ _ ej hj
  obtain⟨x14,s14,j14⟩:=hA 1 (by kernel_rfl) 14 rfl;replace j14:Mn.p (Mn.rat N ((1:Int):Rat)) x14 wi:=j14;obtain⟨x15,s15,j15⟩:=hA 2 (by kernel_rfl) 15 rfl;replace j15:Mn.p (Mn.rat N ((0:Int):Rat)) x15 wi:=j15;clear hB hA
  ·obtain⟨ba,Aa,ka,ca,A'a,k'a,c'a,rfl,-,-,-⟩:=RatV.parts j14;obtain⟨bb,Ab,kb,cb,A'b,k'b,c'b,rfl,-,-,-⟩:=RatV.parts j15;go_simp;exact hK.out _ _ (Ext.refl _) (pl_of j14 j15)
  obtain⟨_,s13,rfl⟩:=hA 0 (by kernel_rfl) 13 rfl;obtain⟨x16,s16,j16⟩:=hA 3 (by kernel_rfl) 16 rfl;replace j16:Mn.p (Mn.pl N ((1:Int):Rat) ((0:Int):Rat)) x16 wi:=j16;clear hB hA
  ·have hp:PlV N wi x16 _ _:=j16;obtain⟨y0,y1,y2,y3,y4,y5,y6,y7,rfl,-,-⟩:=hp;go_simp;refine (k49_height (HGR.out.ext eI) j16 (Nat.le_trans hNW eI.size)).mono ?_;rintro e wj ⟨vj,rfl,hj,ej⟩;go_wp2_with fail;exact hK.out _ _ ej ⟨vj,rfl,hj⟩
  obtain⟨x17,s17,j17⟩:=hA 4 (by kernel_rfl) 17 rfl;replace j17:Mn.p (Mn.rc N ((3:Int):Rat)) x17 wi:=j17;clear hB hA
  ·go_simp;exact hK.out _ _ (Ext.refl _) j17
  obtain⟨x12,s12,j12⟩:=hA 5 (by kernel_rfl) 12 rfl;replace j12:Mn.p (Mn.rc N ((3:Int):Rat)) x12 wi:=j12;clear hB hA
  ·obtain⟨vj,rfl,hj⟩:=j12;go_simp;exact hK.out _ _ (Ext.refl _) hj
  clear hB hA
  ·go_simp;refine boxes1 ?_;intro wj ej hszj BJ;exact hK.out _ _ ej ⟨_,rfl,eI.size,BJ⟩
  all_goals clear hB hA
  all_goals go_simp
  all_goals exact hK.out _ _ (Ext.refl _) rfl
 ·intro i hs;have hi':i=7:=by simpa using hs
  clear hs
  rcases hi' with rfl
  ·refine sft rfl (fun _ _ _ _ h=>h) ?_;intro ac wi eI hB hA;obtain⟨x12,s12,j12⟩:=hA 5 (by kernel_rfl) 12 rfl;replace j12:Mn.p (Mn.rc N ((3:Int):Rat)) x12 wi:=j12;clear hB hA;obtain⟨vj,rfl,hj⟩:=j12;refine⟨(.int .i64 0),.inl ⟨rfl,fun w9 _=>?_⟩,rfl⟩;go_simp
 intro vals wz eZ hJ;have J18:Mn.p (Mn.rat N ((3:Int):Rat)) (vals 6) wz:=hJ 6 (by decide) (by decide);have J19:vals 7=_:=hJ 7 (by decide) (by decide);have J2:Mn.p (Mn.blk W.heap.size (.cells #[.bool false,.slice none 0 0,.bool false,.slice none 0 0] 29 (0,0))) (vals 8) wz:=hJ 8 (by decide) (by decide);clear hJ;simp only [pr,Nat.reduceAdd,J19];clear J19
 generalize vals 6=z18 at J18 ⊢
 generalize vals 8=z2 at J2 ⊢
 obtain⟨gH,rfl,hgH,BH⟩:=J2;obtain⟨bz,Az,kz,cz,Az',kz',cz',rfl,hbz,gz1,gz2⟩:=RatV.parts J18;obtain⟨y0,y1,y2,y3,y4,y5,y6,y7⟩:=cells4 BH;refine stepL_late (i:=9) rfl (by kernel_rfl) (by kernel_rfl) (fun K hK=>?_);go_simp;refine hK.out _ _ ?_;clear hK K;try simp only [nr]
 refine stepL_late (i:=10) rfl (by kernel_rfl) (by kernel_rfl) (fun K hK=>?_);go_simp;refine hK.out _ _ ?_;clear hK K;try simp only [nr]
 refine stepL_done (by kernel_rfl) ?_ _;obtain⟨w2,E2,hB2,K2,hs2⟩:=boxSet (q:=((3:Int):Rat)) BH (by omega) hbz gz1 gz2;rw [E2];have hE2:Ext W w2:=K2.ext eZ hgH;have hN2:N≤w2.heap.size:=Nat.le_trans hNW hE2.size;replace a0:=hE2.cell a0;replace a1:=hE2.cell a1;replace a2:=hE2.cell a2;replace a3:=hE2.cell a3;replace a4:=hE2.cell a4;replace a5:=hE2.cell a5;clear y0 y1 y2 y3 y4 y5 y6 y7 E2 K2 BH hs2 hbz gz1 gz2 eZ;go_upto_region 3 with (fail);refine regS [Mn.eq (.agg #[.int .i64 0,.int .i64 0,.int .i64 2,.int .i64 3,.int .i64 2,.slice (some ⟨w.heap.size,0,none⟩) 6 6]),Mn.pt N (sp3 0 0 0),Mn.pt N (sp3 4 0 8),Mn.bl N G49 (sp3 0 0 0) (sp3 4 0 8) (456*4+24000),Mn.bl N G49 (sp3 0 0 0) (sp3 4 0 8) (456*4+24000),Mn.eq (.bool false),Mn.blt N G49 (sp3 0 0 0) (sp3 4 0 8) (456*4+24000),Mn.eq (.int .i64 0),Mn.blk w2.heap.size (.cells #[.bool false,.slice none 0 0,.bool false,.slice none 0 0] 29 (0,0)),Mn.eq (.bool false),Mn.any,Mn.any] [some 21,some 22,some 23,some 24,some 20,some 25,some 26,some 27,some 5,some 4,none,some 6] [10,11] [7] [true,true,true,true,true,true,true,true,true,true,false,false] 2 (by kernel_rfl) ?_ ?_ ?_
 ·show ∀ i,i < 12→_
  iterate 12 refine fs ?_ ?_
  ·exact fz
  all_goals intro hl hs
  all_goals first | exact absurd hl (by decide) | exact absurd hs (by decide) | skip
  all_goals clear hl hs
  all_goals refine stp rfl ?_
  all_goals intro ac wi eI hB hA K hK
  have o1:=oOf (hB 1 (by kernel_rfl)) rfl;have cc0:=eI.cell a0;have cc1:=eI.cell a1;have cc2:=eI.cell a2;have cc3:=eI.cell a3;have cc4:=eI.cell a4;have cc5:=eI.cell a5
  rotate_left
  clear hB hA
  ·go_simp;refine (l49_spot (Nat.le_trans hN2 eI.size) 0 0 0 (by omega) (by omega) (by omega)).mono ?_;rintro e wj ⟨cs,rfl,h1,h2,h3,ej⟩;go_wp2_with fail;exact hK.out _ _ ej ⟨cs,rfl,h1,h2,h3⟩
  clear hB hA
  ·go_simp;refine (l49_spot (Nat.le_trans hN2 eI.size) 4 0 8 (by omega) (by omega) (by omega)).mono ?_;rintro e wj ⟨cs,rfl,h1,h2,h3,ej⟩;go_wp2_with fail;exact hK.out _ _ ej ⟨cs,rfl,h1,h2,h3⟩
  obtain⟨_,s21,rfl⟩:=hA 0 (by kernel_rfl) 21 rfl;obtain⟨x22,s22,j22⟩:=hA 1 (by kernel_rfl) 22 rfl;replace j22:Mn.p (Mn.pt N (sp3 0 0 0)) x22 wi:=j22;obtain⟨x23,s23,j23⟩:=hA 2 (by kernel_rfl) 23 rfl;replace j23:Mn.p (Mn.pt N (sp3 4 0 8)) x23 wi:=j23;clear hB hA
  ·obtain⟨ca,rfl,k1,k2,k3⟩:=j22;obtain⟨cb,rfl,k4,k5,k6⟩:=j23;go_simp;refine (k49_bl (HGR.out.ext ((hE2).trans eI)) (Nat.le_trans hN2 eI.size) k1 k2 k3 k4 k5 k6).mono ?_;rintro e wj ⟨vj,tj,rfl,hj,hk,hb,ej⟩;go_wp2_with fail;exact hK.out _ _ ej ⟨vj,tj,rfl,hj,hk,hb⟩
  obtain⟨x24,s24,j24⟩:=hA 3 (by kernel_rfl) 24 rfl;replace j24:Mn.p (Mn.bl N G49 (sp3 0 0 0) (sp3 4 0 8) (456*4+24000)) x24 wi:=j24;clear hB hA
  ·go_simp;exact hK.out _ _ (Ext.refl _) j24
  obtain⟨x20,s20,j20⟩:=hA 4 (by kernel_rfl) 20 rfl;replace j20:Mn.p (Mn.bl N G49 (sp3 0 0 0) (sp3 4 0 8) (456*4+24000)) x20 wi:=j20;clear hB hA
  ·obtain⟨vj,tj,rfl,-⟩:=j20;go_simp;exact hK.out _ _ (Ext.refl _) rfl
  obtain⟨x20,s20,j20⟩:=hA 4 (by kernel_rfl) 20 rfl;replace j20:Mn.p (Mn.bl N G49 (sp3 0 0 0) (sp3 4 0 8) (456*4+24000)) x20 wi:=j20;clear hB hA
  ·obtain⟨vj,tj,rfl,hj⟩:=j20;go_simp;exact hK.out _ _ (Ext.refl _) ⟨tj,hj⟩
  clear hB hA
  ·go_simp;refine boxes1 ?_;intro wj ej hszj BJ;exact hK.out _ _ ej ⟨_,rfl,eI.size,BJ⟩
  obtain⟨_,s25,rfl⟩:=hA 5 (by kernel_rfl) 25 rfl
  rotate_left
  all_goals clear hB hA
  all_goals go_simp
  all_goals exact hK.out _ _ (Ext.refl _) rfl
 ·intro i hs;have hi':i=7:=by simpa using hs
  clear hs
  rcases hi' with rfl
  ·refine sft rfl (fun _ _ _ _ h=>h) ?_;intro ac wi eI hB hA;obtain⟨x20,s20,j20⟩:=hA 4 (by kernel_rfl) 20 rfl;replace j20:Mn.p (Mn.bl N G49 (sp3 0 0 0) (sp3 4 0 8) (456*4+24000)) x20 wi:=j20;clear hB hA;obtain⟨vj,tj,rfl,-⟩:=j20;refine⟨(.int .i64 0),.inl ⟨rfl,fun w9 _=>?_⟩,rfl⟩;go_simp
 intro vals wz eZ hJ;have J26:Mn.p (Mn.blt N G49 (sp3 0 0 0) (sp3 4 0 8) (456*4+24000)) (vals 6) wz:=hJ 6 (by decide) (by decide);have J27:vals 7=_:=hJ 7 (by decide) (by decide);have J5:Mn.p (Mn.blk w2.heap.size (.cells #[.bool false,.slice none 0 0,.bool false,.slice none 0 0] 29 (0,0))) (vals 8) wz:=hJ 8 (by decide) (by decide);have J4:vals 9=_:=hJ 9 (by decide) (by decide);clear hJ;simp only [pr,Nat.reduceAdd,J27,J4];clear J27 J4
 generalize vals 6=z26 at J26 ⊢
 generalize vals 8=z5 at J5 ⊢
 obtain⟨t,JT,hkt,hbt⟩:=J26;obtain⟨gT,rfl,hgT,BB⟩:=J5;obtain⟨bz,Az,kz,cz,Az',kz',cz',rfl,hbz,gz1,gz2⟩:=RatV.parts JT;obtain⟨y0,y1,y2,y3,y4,y5,y6,y7⟩:=cells4 BB;refine stepL_late (i:=10) rfl (by kernel_rfl) (by kernel_rfl) (fun K hK=>?_);go_simp;refine hK.out _ _ ?_;clear hK K;try simp only [nr]
 refine stepL_late (i:=11) rfl (by kernel_rfl) (by kernel_rfl) (fun K hK=>?_);go_simp;refine hK.out _ _ ?_;clear hK K;try simp only [nr]
 refine stepL_done (by kernel_rfl) ?_ _;obtain⟨w3,E3,hB3,K3,hs3⟩:=boxSet (q:=t) BB (by omega) hbz gz1 gz2;rw [E3];have ew3:Ext w2 w3:=K3.ext eZ hgT;have hE3:Ext W w3:=hE2.trans ew3;have hN3:N≤w3.heap.size:=Nat.le_trans hNW hE3.size;replace a0:=ew3.cell a0;replace a1:=ew3.cell a1;replace a2:=ew3.cell a2;replace a3:=ew3.cell a3;replace a4:=ew3.cell a4;replace a5:=ew3.cell a5;clear y0 y1 y2 y3 y4 y5 y6 y7 E3 K3 BB hs3 hbz gz1 gz2 eZ;have HB2:=Lib.hid (hB2.ext ew3);clear hB2;go_upto_region 4 with (fail);refine regS [Mn.eq (.agg #[.int .i64 0,.int .i64 0,.int .i64 2,.int .i64 3,.int .i64 2,.slice (some ⟨w.heap.size,0,none⟩) 6 6]),Mn.pt N (sp3 0 0 0),Mn.pt N (sp3 4 0 12),Mn.cl N,Mn.cl N,Mn.eq (.bool true),Mn.rat N 0,Mn.eq (.int .i64 0),Mn.blk w3.heap.size (.cells #[.bool false,.slice none 0 0,.bool false,.slice none 0 0] 29 (0,0)),Mn.eq (.bool true),Mn.any,Mn.any] [some 29,some 30,some 31,some 32,some 28,some 33,some 34,some 35,some 8,some 7,none,some 9] [10,11] [7] [true,true,true,true,true,true,true,true,true,true,false,false] 2 (by kernel_rfl) ?_ ?_ ?_
 ·show ∀ i,i < 12→_
  iterate 12 refine fs ?_ ?_
  ·exact fz
  all_goals intro hl hs
  all_goals first | exact absurd hl (by decide) | exact absurd hs (by decide) | skip
  all_goals clear hl hs
  all_goals refine stp rfl ?_
  all_goals intro ac wi eI hB hA K hK
  have o1:=oOf (hB 1 (by kernel_rfl)) rfl;have cc0:=eI.cell a0;have cc1:=eI.cell a1;have cc2:=eI.cell a2;have cc3:=eI.cell a3;have cc4:=eI.cell a4;have cc5:=eI.cell a5
  rotate_left
  clear hB hA
  ·go_simp;refine (l49_spot (Nat.le_trans hN3 eI.size) 0 0 0 (by omega) (by omega) (by omega)).mono ?_;rintro e wj ⟨cs,rfl,h1,h2,h3,ej⟩;go_wp2_with fail;exact hK.out _ _ ej ⟨cs,rfl,h1,h2,h3⟩
  clear hB hA
  ·go_simp;refine (l49_spot (Nat.le_trans hN3 eI.size) 4 0 12 (by omega) (by omega) (by omega)).mono ?_;rintro e wj ⟨cs,rfl,h1,h2,h3,ej⟩;go_wp2_with fail;exact hK.out _ _ ej ⟨cs,rfl,h1,h2,h3⟩
  obtain⟨_,s29,rfl⟩:=hA 0 (by kernel_rfl) 29 rfl;obtain⟨x30,s30,j30⟩:=hA 1 (by kernel_rfl) 30 rfl;replace j30:Mn.p (Mn.pt N (sp3 0 0 0)) x30 wi:=j30;obtain⟨x31,s31,j31⟩:=hA 2 (by kernel_rfl) 31 rfl;replace j31:Mn.p (Mn.pt N (sp3 4 0 12)) x31 wi:=j31;clear hB hA
  ·obtain⟨ca,rfl,k1,k2,k3⟩:=j30;obtain⟨cb,rfl,k4,k5,k6⟩:=j31;go_simp;refine (k49_cl (HGR.out.ext ((hE3).trans eI)) (Nat.le_trans hN3 eI.size) k1 k2 k3 k4 k5 k6).mono ?_;rintro e wj ⟨vj,rfl,hj,ej⟩;go_wp2_with fail;exact hK.out _ _ ej ⟨vj,rfl,hj⟩
  obtain⟨x32,s32,j32⟩:=hA 3 (by kernel_rfl) 32 rfl;replace j32:Mn.p (Mn.cl N) x32 wi:=j32;clear hB hA
  ·go_simp;exact hK.out _ _ (Ext.refl _) j32
  obtain⟨x28,s28,j28⟩:=hA 4 (by kernel_rfl) 28 rfl;replace j28:Mn.p (Mn.cl N) x28 wi:=j28;clear hB hA
  ·obtain⟨vj,rfl,-⟩:=j28;go_simp;exact hK.out _ _ (Ext.refl _) rfl
  obtain⟨x28,s28,j28⟩:=hA 4 (by kernel_rfl) 28 rfl;replace j28:Mn.p (Mn.cl N) x28 wi:=j28;clear hB hA
  ·obtain⟨vj,rfl,hj⟩:=j28;go_simp;exact hK.out _ _ (Ext.refl _) hj
  clear hB hA
  ·go_simp;refine boxes1 ?_;intro wj ej hszj BJ;exact hK.out _ _ ej ⟨_,rfl,eI.size,BJ⟩
  obtain⟨_,s33,rfl⟩:=hA 5 (by kernel_rfl) 33 rfl
  rotate_left
  all_goals clear hB hA
  all_goals go_simp
  all_goals exact hK.out _ _ (Ext.refl _) rfl
 ·intro i hs;have hi':i=7:=by simpa using hs
  clear hs
  rcases hi' with rfl
  ·refine sft rfl (fun _ _ _ _ h=>h) ?_;intro ac wi eI hB hA;obtain⟨x28,s28,j28⟩:=hA 4 (by kernel_rfl) 28 rfl;replace j28:Mn.p (Mn.cl N) x28 wi:=j28;clear hB hA;obtain⟨vj,rfl,-⟩:=j28;refine⟨(.int .i64 0),.inl ⟨rfl,fun w9 _=>?_⟩,rfl⟩;go_simp
 intro vals wz eZ hJ;have J34:Mn.p (Mn.rat N 0) (vals 6) wz:=hJ 6 (by decide) (by decide);have J35:vals 7=_:=hJ 7 (by decide) (by decide);have J8:Mn.p (Mn.blk w3.heap.size (.cells #[.bool false,.slice none 0 0,.bool false,.slice none 0 0] 29 (0,0))) (vals 8) wz:=hJ 8 (by decide) (by decide);have J7:vals 9=_:=hJ 9 (by decide) (by decide);clear hJ;simp only [pr,Nat.reduceAdd,J35,J7];clear J35 J7
 generalize vals 6=z34 at J34 ⊢
 generalize vals 8=z8 at J8 ⊢
 obtain⟨gB,rfl,hgB,BB⟩:=J8;obtain⟨bz,Az,kz,cz,Az',kz',cz',rfl,hbz,gz1,gz2⟩:=RatV.parts J34;obtain⟨y0,y1,y2,y3,y4,y5,y6,y7⟩:=cells4 BB;refine stepL_late (i:=10) rfl (by kernel_rfl) (by kernel_rfl) (fun K hK=>?_);go_simp;refine hK.out _ _ ?_;clear hK K;try simp only [nr]
 refine stepL_late (i:=11) rfl (by kernel_rfl) (by kernel_rfl) (fun K hK=>?_);go_simp;refine hK.out _ _ ?_;clear hK K;try simp only [nr]
 refine stepL_done (by kernel_rfl) ?_ _;obtain⟨w4,E3,hB4,K3,hs3⟩:=boxSet (q:=(0:Rat)) BB (by omega) hbz gz1 gz2;rw [E3];have ew4:Ext w3 w4:=K3.ext eZ hgB;have hE4:Ext W w4:=hE3.trans ew4;have hN4:N≤w4.heap.size:=Nat.le_trans hNW hE4.size;replace a0:=ew4.cell a0;replace a1:=ew4.cell a1;replace a2:=ew4.cell a2;replace a3:=ew4.cell a3;replace a4:=ew4.cell a4;replace a5:=ew4.cell a5;clear y0 y1 y2 y3 y4 y5 y6 y7 E3 K3 BB hs3 hbz gz1 gz2 eZ;have hBH:=HB2.out.ext ew4;have hBT:=hB3.ext ew4;clear HB2 hB3 hB4 ew3 ew4;go_upto_region 5 with (fail);obtain⟨nx,Ax,kx,cx,A'x,k'x,c'x,Bx,hbx,yx,zx⟩:=hBH;obtain⟨x0,x1,x2,x3,-⟩:=cells4 Bx;have hRx:RatV N w4 (.agg #[.bool nx,.slice Ax kx cx,.bool false,.slice A'x k'x c'x]) (((3:Int):Rat)):=RatV.mk hbx yx zx;obtain⟨ns,As,ks,cs,A's,k's,c's,Bs,hbs,ys,zs⟩:=hBT;obtain⟨s0,s1,s2,s3,-⟩:=cells4 Bs;have hRs:RatV N w4 (.agg #[.bool ns,.slice As ks cs,.bool false,.slice A's k's c's]) (t):=RatV.mk hbs ys zs;refine regI [Mn.eq (.int .i64 0),Mn.eq (.bool true),Mn.eq (.bool true),Mn.rat N (((3:Int):Rat)),Mn.rat N ((3:Int):Rat),Mn.eq (.bool true),Mn.eq (.bool true),Mn.eq (.bool true),Mn.eq (.int .i64 0),Mn.eq (.bool true),Mn.eq (.bool true),Mn.eq (.bool true),Mn.eq (.bool false),Mn.eq (.bool true),Mn.eq (.bool true),Mn.eq (.bool true),Mn.eq (.agg #[.int .i64 0,.int .i64 0,.int .i64 2,.int .i64 3,.int .i64 2,.slice (some ⟨w.heap.size,0,none⟩) 6 6]),Mn.pt N (sp3 0 0 0),Mn.pt N (sp3 4 0 8),Mn.rat N (t),Mn.eq (.int .i64 0),Mn.eq (.bool true),Mn.eq (.bool true),Mn.eq (.bool true),Mn.eq (.int .i64 0),Mn.eq (.bool true),Mn.eq (.bool true),Mn.eq (.bool true),Mn.eq (.bool true),Mn.eq (.bool true),Mn.eq (.bool true)] [some 36,some 37,some 38,some 39,some 40,some 41,some 42,some 43,some 44,some 45,some 46,some 47,some 48,some 49,some 50,some 51,some 52,some 53,some 54,some 55,some 56,some 57,some 58,some 59,some 60,some 61,some 62,some 63,some 64,some 65,some 0] [] [true,true,true,true,true,true,true,true,true,true,true,true,true,true,true,true,true,true,true,true,true,true,true,true,true,true,true,true,true,true,true] 0 (by kernel_rfl) ?_ ?_
 ·show ∀ i,i < 31→_
  iterate 31 refine fs ?_ ?_
  ·exact fz
  all_goals intro hl
  all_goals clear hl
  all_goals refine stp rfl ?_
  all_goals intro ac wi eI hB hA K hK
  have o3:=oOf (hB 3 (by kernel_rfl)) rfl
  rotate_left
  obtain⟨_,s36,rfl⟩:=hA 0 (by kernel_rfl) 36 rfl
  rotate_left
  obtain⟨_,s37,rfl⟩:=hA 1 (by kernel_rfl) 37 rfl
  rotate_left
  obtain⟨_,s38,rfl⟩:=hA 2 (by kernel_rfl) 38 rfl;have o2:=oOf (hB 2 (by kernel_rfl)) rfl;clear hB hA;rw [if_pos (by simp [Region.wanted,yielded,s38])];have cc0:=eI.cell x0;have cc1:=eI.cell x1;have cc2:=eI.cell x2;have cc3:=eI.cell x3
  ·go_simp;exact hK.out _ _ (Ext.refl _) (hRx.ext eI)
  obtain⟨_,s38,rfl⟩:=hA 2 (by kernel_rfl) 38 rfl;clear hB hA;rw [if_pos (by simp [Region.wanted,yielded,s38])]
  ·go_simp;refine (l49_whole (Nat.le_trans hN4 eI.size) 3 (by omega) (by omega)).mono ?_;rintro e wj ⟨vj,rfl,hj,ej⟩;go_wp2_with fail;exact hK.out _ _ ej hj
  obtain⟨_,s38,rfl⟩:=hA 2 (by kernel_rfl) 38 rfl;obtain⟨x39,s39,j39⟩:=hA 3 (by kernel_rfl) 39 rfl;replace j39:Mn.p (Mn.rat N (((3:Int):Rat))) x39 wi:=j39;obtain⟨x40,s40,j40⟩:=hA 4 (by kernel_rfl) 40 rfl;replace j40:Mn.p (Mn.rat N ((3:Int):Rat)) x40 wi:=j40;clear hB hA;rw [if_pos (by simp [Region.wanted,yielded,s38])]
  ·go_simp;refine (r2_same j39 j40 (sz_int (by omega)) rfl).mono ?_;rintro e wj ⟨rfl,ej⟩;go_wp2_with fail;exact hK.out _ _ ej rfl
  obtain⟨_,s38,rfl⟩:=hA 2 (by kernel_rfl) 38 rfl;obtain⟨_,s41,rfl⟩:=hA 5 (by kernel_rfl) 41 rfl
  rotate_left
  obtain⟨_,s42,rfl⟩:=hA 6 (by kernel_rfl) 42 rfl
  rotate_left
  obtain⟨_,s43,rfl⟩:=hA 7 (by kernel_rfl) 43 rfl;have o6:=oOf (hB 6 (by kernel_rfl)) rfl;rw [if_pos (by simp [Region.wanted,yielded,s43])]
  rotate_left
  obtain⟨_,s43,rfl⟩:=hA 7 (by kernel_rfl) 43 rfl;obtain⟨_,s44,rfl⟩:=hA 8 (by kernel_rfl) 44 rfl;rw [if_pos (by simp [Region.wanted,yielded,s43])]
  rotate_left
  obtain⟨_,s43,rfl⟩:=hA 7 (by kernel_rfl) 43 rfl;obtain⟨_,s45,rfl⟩:=hA 9 (by kernel_rfl) 45 rfl
  rotate_left
  obtain⟨_,s46,rfl⟩:=hA 10 (by kernel_rfl) 46 rfl
  rotate_left
  obtain⟨_,s47,rfl⟩:=hA 11 (by kernel_rfl) 47 rfl;have o4:=oOf (hB 4 (by kernel_rfl)) rfl;rw [if_pos (by simp [Region.wanted,yielded,s47])]
  rotate_left
  obtain⟨_,s47,rfl⟩:=hA 11 (by kernel_rfl) 47 rfl;obtain⟨_,s48,rfl⟩:=hA 12 (by kernel_rfl) 48 rfl;rw [if_pos (by simp [Region.wanted,yielded,s47])]
  rotate_left
  obtain⟨_,s47,rfl⟩:=hA 11 (by kernel_rfl) 47 rfl;obtain⟨_,s49,rfl⟩:=hA 13 (by kernel_rfl) 49 rfl
  rotate_left
  obtain⟨_,s50,rfl⟩:=hA 14 (by kernel_rfl) 50 rfl
  rotate_left
  obtain⟨_,s51,rfl⟩:=hA 15 (by kernel_rfl) 51 rfl;have o1:=oOf (hB 1 (by kernel_rfl)) rfl;rw [if_pos (by simp [Region.wanted,yielded,s51])];have cc0:=eI.cell a0;have cc1:=eI.cell a1;have cc2:=eI.cell a2;have cc3:=eI.cell a3;have cc4:=eI.cell a4;have cc5:=eI.cell a5
  rotate_left
  obtain⟨_,s51,rfl⟩:=hA 15 (by kernel_rfl) 51 rfl;clear hB hA;rw [if_pos (by simp [Region.wanted,yielded,s51])]
  ·go_simp;refine (l49_spot (Nat.le_trans hN4 eI.size) 0 0 0 (by omega) (by omega) (by omega)).mono ?_;rintro e wj ⟨cs,rfl,h1,h2,h3,ej⟩;go_wp2_with fail;exact hK.out _ _ ej ⟨cs,rfl,h1,h2,h3⟩
  obtain⟨_,s51,rfl⟩:=hA 15 (by kernel_rfl) 51 rfl;clear hB hA;rw [if_pos (by simp [Region.wanted,yielded,s51])]
  ·go_simp;refine (l49_spot (Nat.le_trans hN4 eI.size) 4 0 8 (by omega) (by omega) (by omega)).mono ?_;rintro e wj ⟨cs,rfl,h1,h2,h3,ej⟩;go_wp2_with fail;exact hK.out _ _ ej ⟨cs,rfl,h1,h2,h3⟩
  obtain⟨_,s51,rfl⟩:=hA 15 (by kernel_rfl) 51 rfl;have o5:=oOf (hB 5 (by kernel_rfl)) rfl;clear hB hA;rw [if_pos (by simp [Region.wanted,yielded,s51])];have cc0:=eI.cell s0;have cc1:=eI.cell s1;have cc2:=eI.cell s2;have cc3:=eI.cell s3
  ·go_simp;exact hK.out _ _ (Ext.refl _) (hRs.ext eI)
  obtain⟨_,s51,rfl⟩:=hA 15 (by kernel_rfl) 51 rfl;obtain⟨_,s52,rfl⟩:=hA 16 (by kernel_rfl) 52 rfl;obtain⟨x53,s53,j53⟩:=hA 17 (by kernel_rfl) 53 rfl;replace j53:Mn.p (Mn.pt N (sp3 0 0 0)) x53 wi:=j53;obtain⟨x54,s54,j54⟩:=hA 18 (by kernel_rfl) 54 rfl;replace j54:Mn.p (Mn.pt N (sp3 4 0 8)) x54 wi:=j54;obtain⟨x55,s55,j55⟩:=hA 19 (by kernel_rfl) 55 rfl;replace j55:Mn.p (Mn.rat N (t)) x55 wi:=j55;clear hB hA;rw [if_pos (by simp [Region.wanted,yielded,s51])]
  ·obtain⟨ca,rfl,k1,k2,k3⟩:=j53;obtain⟨cb,rfl,k4,k5,k6⟩:=j54;go_simp;refine (k49_blocked (HGR.out.ext (hE4.trans eI)) k1 k2 k3 k4 k5 k6 j55 hkt hbt).mono ?_;rintro e wj ⟨rfl,ej⟩;go_wp2_with fail;exact hK.out _ _ ej rfl
  obtain⟨_,s51,rfl⟩:=hA 15 (by kernel_rfl) 51 rfl;obtain⟨_,s56,rfl⟩:=hA 20 (by kernel_rfl) 56 rfl;rw [if_pos (by simp [Region.wanted,yielded,s51])]
  rotate_left
  obtain⟨_,s51,rfl⟩:=hA 15 (by kernel_rfl) 51 rfl;obtain⟨_,s57,rfl⟩:=hA 21 (by kernel_rfl) 57 rfl
  rotate_left
  obtain⟨_,s58,rfl⟩:=hA 22 (by kernel_rfl) 58 rfl
  rotate_left
  obtain⟨_,s59,rfl⟩:=hA 23 (by kernel_rfl) 59 rfl;have o9:=oOf (hB 9 (by kernel_rfl)) rfl;rw [if_pos (by simp [Region.wanted,yielded,s59])]
  rotate_left
  obtain⟨_,s59,rfl⟩:=hA 23 (by kernel_rfl) 59 rfl;obtain⟨_,s60,rfl⟩:=hA 24 (by kernel_rfl) 60 rfl;rw [if_pos (by simp [Region.wanted,yielded,s59])]
  rotate_left
  obtain⟨_,s59,rfl⟩:=hA 23 (by kernel_rfl) 59 rfl;obtain⟨_,s61,rfl⟩:=hA 25 (by kernel_rfl) 61 rfl
  rotate_left
  obtain⟨_,s62,rfl⟩:=hA 26 (by kernel_rfl) 62 rfl
  rotate_left
  obtain⟨_,s63,rfl⟩:=hA 27 (by kernel_rfl) 63 rfl;have o7:=oOf (hB 7 (by kernel_rfl)) rfl;rw [if_pos (by simp [Region.wanted,yielded,s63])]
  rotate_left
  obtain⟨_,s63,rfl⟩:=hA 27 (by kernel_rfl) 63 rfl;obtain⟨_,s64,rfl⟩:=hA 28 (by kernel_rfl) 64 rfl
  rotate_left
  obtain⟨_,s65,rfl⟩:=hA 29 (by kernel_rfl) 65 rfl
  rotate_left
  all_goals clear hB hA
  all_goals go_simp
  all_goals exact hK.out _ _ (Ext.refl _) rfl
 intro vals wz eZ hJ;have J0:vals 30=_:=hJ 30 (by decide) (by decide);clear hJ;simp only [pr,Nat.reduceAdd,J0];clear J0;refine stepL_done (by kernel_rfl) ?_ _;go_wp2;go_ret;exact⟨rfl,(hE.trans hE4).trans eZ⟩
theorem val_one {l:List Nat} (h:l.length≤1):val l=l[0]?.getD 0:=by
 rcases l with _ | ⟨x,l⟩
 ·rfl
 ·have h2:l=[]:=List.eq_nil_of_length_eq_zero (by simpa using h);subst h2;simp [val]
theorem brief_sz {R:Raw} (h:briefB R=true):R.l1.length≤1∧R.l2.length≤1:=by
 unfold briefB at h;simp only [Bool.and_eq_true,decide_eq_true_eq] at h;exact⟨h.1.1.1,h.1.1.2⟩
theorem brief_ht {q:Rat} (h:briefB (raw q)=true):Ht 17 q:=by
 unfold briefB raw at h;simp only [Bool.and_eq_true,decide_eq_true_eq] at h;obtain⟨⟨⟨h1,h2⟩,h3⟩,h4⟩:=h;rw [←val_one h1,val_dg] at h3;rw [←val_one h2,val_dg] at h4;have h5:(2:Nat) ^ 17=131072:=by decide
 exact⟨by omega,by omega⟩
theorem brief_raw {R:Raw} (h:briefB R=true):RawSz R∧RawS R:=by
 obtain⟨h1,h2⟩:=brief_sz h;exact⟨⟨by omega,by omega⟩,⟨by omega,by omega⟩⟩
theorem brief_bd {q:Rat} (h:briefB (raw q)=true) : -100000000≤q∧q≤100000000:=by
 obtain⟨h1,h2⟩:=brief_ht h;have h5:(2:Nat) ^ 17=131072:=by decide
 have hd:=q.den_pos;have c1:((100000000:Int):Rat)=100000000:=rfl;have c2:((-100000000:Int):Rat) = -100000000:=rfl;rw [←c2,←c1,Rat.le_iff,Rat.le_iff];simp only [Rat.num_intCast,Rat.den_intCast]
 constructor <;> omega
theorem code_chk2 {G:Grd} {R R':Raw}:code49 G 2 (fun i=>if i=0 then R else R')=chk2 G R R':=by
 unfold code49 chk2
 have e:allB 2 (fun i=>okR (if i=0 then R else R'))=(okR R && okR R'):=by
  cases h:(okR R && okR R') with
  | true =>
   rw [Bool.and_eq_true] at h;exact allB_true.2 fun i hi=>ite_all (p:=fun R=>okR R=true) h.1 h.2
  | false =>
   cases h9:allB 2 (fun i=>okR (if i=0 then R else R')) with
   | false=>rfl
   | true =>
    have h0:okR R=true:=allB_true.1 h9 0 (by omega);have h1:okR R'=true:=allB_true.1 h9 1 (by omega);rw [h0,h1] at h;exact absurd h (by decide)
 rw [e]
end Go.Proofs.YtphpkhoeplcedaaGreat
namespace Go.Proofs.YtphpkhoeplcedaaGreat
open Go.RowKit Go.ChangeShapes Go.ChangeAt
theorem cells_int:Tryz.prog.cellsOf 27=2:=by kernel_rfl
theorem cells_rat:Tryz.prog.cellsOf 29=4:=by kernel_rfl
theorem cells_bool:Tryz.prog.cellsOf 4=1:=by kernel_rfl
theorem cells_u32:Tryz.prog.cellsOf 152=1:=by kernel_rfl
theorem cells_u32s:Tryz.prog.cellsOf 25=1:=by kernel_rfl
section
variable {H:Type} {enc:TypeId×Value→H} {w:World} {spare:Nat→Bool} {held:Bool}
instance:Inhabited Raw:=⟨⟨false,[],false,[]⟩⟩
theorem spot_none {v:Value} (a:Addr) (h:w.cell? (a.add 0)=some v):a=⟨a.block,a.off,none⟩:=by
 obtain⟨b,off,spot⟩:=a;have hs:=World.cell?_spot h;have h2:spot=none:=by simpa [Addr.add] using hs
 subst h2; rfl
theorem gs_of_trod {n:Nat} {v:Value} {x:DataW H×List MemPlace} (h:DataW.trod enc Tryz.prog w 0 spare held n 25 [v]=some x):∃ l,Gs w.heap.size w v l:=by
 rcases Go.Deep.open_slice1 Tryz.underlying25 cells_u32 h with ⟨hcs,-⟩ | ⟨a,len,cap,m,n',V,D,Pl,hcs,-,hl,hm,hmm,-,hx⟩
 ·simp only [List.cons.injEq,and_true] at hcs;subst hcs;exact⟨[],Gs.nil (Nat.le_refl _) _ (Nat.zero_le _)⟩
 ·simp only [List.cons.injEq,and_true] at hcs;subst hcs;have hlm:len≤m:=by rw [hmm]; split <;> omega
  have hv:∀ i,i < len→∃ z:Nat,V i=.int .u32 (z:Int)∧z < 4294967296:=fun i hi=>by
   obtain⟨-,h2⟩:=hx i (by omega);obtain⟨z,hz,-,hw⟩:=DataW.trod_int Tryz.underlying152 h2;simp only [List.cons.injEq,and_true] at hz;have hb:=bounds_u32 hw;exact⟨z.toNat,by rw [hz]; congr 1; omega,by omega⟩
  obtain⟨f,hf⟩:=Go.Deep.choose_lt (α:=Nat) hv;refine⟨(List.range len).map f,Nat.le_refl _,_,len,cap,rfl,by simp,hl,hm,fun y hy=>?_,fun h0=>?_⟩
  ·obtain⟨i,hi,rfl⟩:=List.mem_map.1 hy;exact (hf i (by simpa using hi)).2
  ·have h1:=(hx 0 (by omega)).1;have ha:=spot_none a h1;refine⟨a.block,a.off,by rw [←ha],⟨?_,.inl ?_⟩,fun i hi=>?_⟩
   ·rw [ha,add_none] at h1; exact cell_lt (p:=⟨a.block,a.off+0,none⟩) h1
   ·rw [ha,add_none] at h1; exact cell_lt (p:=⟨a.block,a.off+0,none⟩) h1
   ·have h2:=(hx i (by omega)).1;rw [ha,add_none,(hf i hi).1] at h2;rw [h2];simp [hi]
theorem rat_of_trod {n:Nat} {c0 c1 c2 c3:Value} {x:DataW H×List MemPlace} (h:DataW.trod enc Tryz.prog w 0 spare held n 29 [c0,c1,c2,c3]=some x) :
  ∃ R:Raw,c0=.bool R.b1∧c2=.bool R.b2∧Gs w.heap.size w c1 R.l1∧Gs w.heap.size w c3 R.l2:=by
 obtain⟨y0,y1,n1,-,-,h0,h1⟩:=trod_struct2 Tryz.underlying29 h;simp only [cells_int,List.drop_zero,List.take_succ_cons,List.take_zero,List.drop_succ_cons] at h0 h1;obtain⟨z0,z1,n2,-,-,k0,k1⟩:=trod_struct2 Tryz.underlying27 h0;obtain⟨z2,z3,n3,-,-,k2,k3⟩:=trod_struct2 Tryz.underlying27 h1;simp only [cells_bool,cells_u32s,List.drop_zero,List.take_succ_cons,List.take_zero,List.drop_succ_cons] at k0 k1 k2 k3;obtain⟨b1,e1,-⟩:=DataW.trod_bool Tryz.underlying4 k0;obtain⟨b2,e2,-⟩:=DataW.trod_bool Tryz.underlying4 k2;obtain⟨l1,g1⟩:=gs_of_trod k1;obtain⟨l2,g2⟩:=gs_of_trod k3;simp only [List.cons.injEq,and_true] at e1 e2;exact⟨⟨b1,l1,b2,l2⟩,e1,e2,g1,g2⟩
end
theorem own:ownKnob Tryz.prog.godebug=none:=by kernel_rfl
theorem laidOut:laidOutB Tryz.prog=true:=by kernel_rfl
end Go.Proofs.YtphpkhoeplcedaaGreat
set_option maxRecDepth 100000
namespace Go.Proofs.YtphpkhoeplcedaaGreat
open Go.ChangeShapes Go.WideShapes Go.ChangeAt Go.RowKit Go.Joins
theorem cells_i64:Tryz.prog.cellsOf 3=1:=by kernel_rfl
theorem cells_i64s:Tryz.prog.cellsOf 22=1:=by kernel_rfl
theorem cells_grid:Tryz.prog.cellsOf 24=6:=by kernel_rfl
theorem cells_place:Tryz.prog.cellsOf 31=8:=by kernel_rfl
theorem array6 {α:Type} {cs:Array α} (h:cs.size=6):∃ c0 c1 c2 c3 c4 c5,cs=#[c0,c1,c2,c3,c4,c5]:=by
 obtain⟨l⟩:=cs
 match l,h with
 | [c0,c1,c2,c3,c4,c5],_=>exact⟨c0,c1,c2,c3,c4,c5,rfl⟩
theorem array8 {α:Type} {cs:Array α} (h:cs.size=8):∃ c0 c1 c2 c3 c4 c5 c6 c7,cs=#[c0,c1,c2,c3,c4,c5,c6,c7]:=by
 obtain⟨l⟩:=cs
 match l,h with
 | [c0,c1,c2,c3,c4,c5,c6,c7],_=>exact⟨c0,c1,c2,c3,c4,c5,c6,c7,rfl⟩
section
variable {H:Type} {enc:TypeId×Value→H} {w:World} {spare:Nat→Bool} {held:Bool}
theorem iz_of_trod {n:Nat} {v:Value} {x:DataW H×List MemPlace} (h:DataW.trod enc Tryz.prog w 0 spare held n 22 [v]=some x):∃ k z,IzV w.heap.size 0 0 w v k z:=by
 rcases Go.Deep.open_slice1 Tryz.underlying22 cells_i64 h with ⟨hcs,-⟩ | ⟨a,len,cap,m,n',V,D,Pl,hcs,-,hl,hm,hmm,-,hx⟩
 ·simp only [List.cons.injEq,and_true] at hcs;subst hcs;exact⟨0,fun _=>0,rfl,_,_,rfl,Nat.le_refl _,Nat.zero_le _,fun h0=>absurd h0 (by omega)⟩
 ·simp only [List.cons.injEq,and_true] at hcs;subst hcs;have hlm:len≤m:=by rw [hmm]; split <;> omega
  have hv:∀ i,i < len→∃ z:Int,V i=.int .i64 z:=fun i hi=>by
   obtain⟨-,h2⟩:=hx i (by omega);obtain⟨z,hz,-,-⟩:=DataW.trod_int Tryz.underlying3 h2;simp only [List.cons.injEq,and_true] at hz;exact⟨z,hz⟩
  obtain⟨f,hf⟩:=Go.Deep.choose_lt (α:=Int) hv;refine⟨len,f,rfl,_,cap,rfl,hl,hm,fun h0=>?_⟩;have h1:=(hx 0 (by omega)).1;have ha:=spot_none a h1;refine⟨a.block,a.off,by rw [←ha],fun i hi=>?_⟩;have h2:=(hx i (by omega)).1;rw [ha,add_none,hf i hi] at h2;exact h2
theorem grd_open {r:Reach} {b0:Nat} {v:Value} {d:DataW H} {p:List MemPlace} (hv:Value.okWide Tryz.prog w r b0 24 v) (h:DataW.Trod enc Tryz.prog w 0 spare held 24 v d p):∃ G,GrdV w.heap.size 0 0 w v G:=by
 obtain⟨cs,rfl,hsz⟩:=okWide_struct Tryz.underlying24 hv;obtain⟨c0,c1,c2,c3,c4,c5,rfl⟩:=array6 (hsz.trans cells_grid);obtain⟨fuel,hf⟩:=h;obtain⟨xs,n,-,-,-,hlen,hq⟩:=DataW.trod_struct Tryz.underlying24 hf
 match xs,hlen with
 | [y0,y1,y2,y3,y4,y5],_ =>
  have h0:DataW.trod enc Tryz.prog w 0 spare held n 3 (List.take (Tryz.prog.cellsOf 3) (List.drop 0 [c0,c1,c2,c3,c4,c5]))=some y0:=hq 0 _ rfl;have h1:DataW.trod enc Tryz.prog w 0 spare held n 3 (List.take (Tryz.prog.cellsOf 3) (List.drop 1 [c0,c1,c2,c3,c4,c5]))=some y1:=hq 1 _ rfl;have h2:DataW.trod enc Tryz.prog w 0 spare held n 3 (List.take (Tryz.prog.cellsOf 3) (List.drop 2 [c0,c1,c2,c3,c4,c5]))=some y2:=hq 2 _ rfl;have h3:DataW.trod enc Tryz.prog w 0 spare held n 3 (List.take (Tryz.prog.cellsOf 3) (List.drop 3 [c0,c1,c2,c3,c4,c5]))=some y3:=hq 3 _ rfl;have h4:DataW.trod enc Tryz.prog w 0 spare held n 3 (List.take (Tryz.prog.cellsOf 3) (List.drop 4 [c0,c1,c2,c3,c4,c5]))=some y4:=hq 4 _ rfl;have h5:DataW.trod enc Tryz.prog w 0 spare held n 22 (List.take (Tryz.prog.cellsOf 22) (List.drop 5 [c0,c1,c2,c3,c4,c5]))=some y5:=hq 5 _ rfl;simp only [cells_i64,cells_i64s,List.drop_zero,List.take_succ_cons,List.take_zero,List.drop_succ_cons] at h0 h1 h2 h3 h4 h5;obtain⟨z0,e0,-⟩:=DataW.trod_int Tryz.underlying3 h0;obtain⟨z1,e1,-⟩:=DataW.trod_int Tryz.underlying3 h1;obtain⟨z2,e2,-⟩:=DataW.trod_int Tryz.underlying3 h2;obtain⟨z3,e3,-⟩:=DataW.trod_int Tryz.underlying3 h3;obtain⟨z4,e4,-⟩:=DataW.trod_int Tryz.underlying3 h4;obtain⟨k,z,hz⟩:=iz_of_trod h5;simp only [List.cons.injEq,and_true] at e0 e1 e2 e3 e4;subst e0 e1 e2 e3 e4;exact⟨⟨z0,z1,z2,z3,z4,k,z⟩,_,rfl,hz⟩
theorem pl_open {r:Reach} {b0:Nat} {v:Value} {d:DataW H} {p:List MemPlace} (hv:Value.okWide Tryz.prog w r b0 31 v) (h:DataW.Trod enc Tryz.prog w 0 spare held 31 v d p):∃ R R',PlV w.heap.size w v R R':=by
 obtain⟨cs,rfl,hsz⟩:=okWide_struct Tryz.underlying31 hv;obtain⟨c0,c1,c2,c3,c4,c5,c6,c7,rfl⟩:=array8 (hsz.trans cells_place);obtain⟨fuel,hf⟩:=h;obtain⟨y0,y1,n,-,-,h0,h1⟩:=trod_struct2 Tryz.underlying31 hf;simp only [Value.cells,cells_rat,List.drop_zero,List.take_succ_cons,List.take_zero,List.drop_succ_cons] at h0 h1;obtain⟨R,rfl,rfl,g1,g2⟩:=rat_of_trod h0;obtain⟨R',rfl,rfl,g3,g4⟩:=rat_of_trod h1;exact⟨R,R',_,_,_,_,_,_,_,_,rfl,⟨_,_,rfl,g1,g2⟩,⟨_,_,rfl,g3,g4⟩⟩
end
end Go.Proofs.YtphpkhoeplcedaaGreat
