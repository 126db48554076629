import Derived.Test.YtccepmpebioeiaaGreatWb01
import Derived.Test.YtccepmpebioeiaaGreatWb02
import Derived.Test.YtccepmpebioeiaaGreatWb03
import Derived.Test.YtccepmpebioeiaaGreatWb04
import Derived.Test.YtccepmpebioeiaaGreatWb05
import Derived.Test.YtccepmpebioeiaaGreatWb06
import Derived.Test.YtccepmpebioeiaaGreatWb07
import Derived.Test.YtccepmpebioeiaaGreatWb08
import Derived.Test.YtccepmpebioeiaaGreatWb09
import Derived.Test.YtccepmpebioeiaaGreatWb10
import Derived.Test.YtccepmpebioeiaaGreatWb11
import Derived.Test.YtccepmpebioeiaaGreatWb12
import Derived.Test.YtccepmpebioeiaaGreatWb13
import Derived.Test.YtccepmpebioeiaaGreatWb14
import Derived.Test.YtccepmpebioeiaaGreatWb15
import Derived.Test.YtccepmpebioeiaaGreatWb16
import Derived.Test.YtccepmpebioeiaaGreatWb17
import Derived.Test.YtccepmpebioeiaaGreatWb18
import Derived.Test.YtccepmpebioeiaaGreatWb19
import Derived.Test.YtccepmpebioeiaaGreatWb20
import Derived.Test.YtccepmpebioeiaaGreatWb21
import Derived.Test.YtccepmpebioeiaaGreatWb22
import Derived.Test.YtccepmpebioeiaaGreatWb23
import Derived.Test.YtccepmpebioeiaaGreatWb24
import Derived.Test.YtccepmpebioeiaaGreatWb25
import Derived.Test.YtccepmpebioeiaaGreatWb26
import Derived.Test.YtccepmpebioeiaaGreatWb27
import Derived.Test.YtccepmpebioeiaaGreatWb28
import Derived.Test.YtccepmpebioeiaaGreatWb29
import Derived.Test.YtccepmpebioeiaaGreatWb30
import Derived.Test.YtccepmpebioeiaaGreatWb31
import Derived.Test.YtccepmpebioeiaaGreatWb32
import Derived.Test.YtccepmpebioeiaaGreatWb33
import Derived.Test.YtccepmpebioeiaaGreatWb34
import Derived.Test.YtccepmpebioeiaaGreatWb35
import Derived.Test.YtccepmpebioeiaaGreatWb36
import Derived.Test.YtccepmpebioeiaaGreatWb37
import Derived.Test.YtccepmpebioeiaaGreatWb38
import Derived.Test.YtccepmpebioeiaaGreatWb39
import Derived.Test.YtccepmpebioeiaaGreatWb40
import Derived.Test.YtccepmpebioeiaaGreatWb41
import Derived.Test.YtccepmpebioeiaaGreatWb42
import Derived.Test.YtccepmpebioeiaaGreatWb43
import Derived.Test.YtccepmpebioeiaaGreatWb44
import Derived.WalkKit
import Derived.WalkSpells
import Derived.WalkLawsBesides
import Derived.Lib.Hide
import Derived.Deep.RegionHeld3
import Derived.Deep.QuietTactic
import Derived.BigQuiet
import Derived.Maps.AppendAt
import Derived.Deep.DeepCutAuto
import Derived.Deep.RegionWith
import Derived.Deep.DeepMust
import Derived.Laws.IdiomCopy
import Derived.Shelf.Bits.Mul64
import Derived.Deep.AppendLies
import Derived.Deep.CutBlock
import Derived.OrdersIn
import Derived.RegionTactic
import Derived.RangeFuncNested
import Derived.RangeFuncBound
import Derived.RangeFuncCalls
import Derived.RangeFuncLeaves
import Derived.RangeFuncBox
import Derived.Shelf.Abstract
import Derived.OwnWalkIn
import Derived.TacticsInMore
import Derived.LoopNIn
import Derived.LoopIn
import Derived.Deep.RegionLaw
import Derived.Lib.SliceRun
import Derived.Deep.Slices
import Derived.Deep.Strs
import Derived.Lib.SmallJoins
import Derived.ProofKit
import Derived.OpenShut
import Derived.Below
set_option linter.all false
set_option maxHeartbeats 8000000
namespace Go.Proofs.YtccepmpebioeiaaGreat
open Go.RowKit
theorem append_types {P:Program} {t t' e e' ty:TypeId} (ht:P.underlying t=some (.slice e)) (ht':P.underlying t'=some (.slice e')) (v x:Value) (w:World) :
  (Builtin.append_ #[t,t'] ty #[v,x]).run P w=(Builtin.append_ #[t,t] ty #[v,x]).run P w:=by
 unfold Builtin.append_
 simp only [List.getElem?_toArray,List.getElem?_cons_zero,List.getElem?_cons_succ,Sem.run_bind,run_underlying ht,run_underlying ht',Result.andThen_ok]
 cases v with
 | slice base n c =>
  simp only [Sem.run_bind,Sem.run_pure,run_underlying ht,run_underlying ht',Result.andThen_ok]
 | _=>rfl
theorem run_append_none {P:Program} {t e ty:TypeId} {i:TypeInfo} (ht:P.underlying t=some (.slice e)) (hi:P.info? e=some i) (b:Option Addr) (A:Option Addr) (c:Nat) (w:World) :
  (Builtin.append_ #[t,t] ty #[.slice b 0 0,.slice A 0 c]).run P w=.ok (.slice b 0 0) w:=by
 cases A <;> cases b <;> simp [Builtin.append_,run_underlying ht,Builtin.lenOf,Builtin.firstCells,sizeOf,typeInfo,hi,storeCells,loadCells,loadCellsFrom]
theorem run_append_rows {base:Nat} {w:World} {v:Value} {xs news:List Value} (t t' ty e':TypeId) (ht:Tryz.prog.underlying t=some (.slice 24)) (ht':Tryz.prog.underlying t'=some (.slice e')) (h:GrowS base w v xs) {A:Option Addr} {c:Nat}
  (hnews:0 < news.length→∃ b off,A=some ⟨b,off,none⟩∧∀ j (hj:j < news.length),w.cell? ⟨b,off+j,none⟩=some news[j]) (h1:∀ u∈news,u.oneCell'=true) (hx:(∃ b,v=.slice b 0 0)∨0 < news.length) (hlen:xs.length+news.length≤100000) :
  ∃ v' w',(Builtin.append_ #[t,t'] ty #[v,.slice A news.length c]).run Tryz.prog w=.ok v' w'∧GrowS base w' v' (xs ++ news)∧∃ g',base≤g'∧(v.ownBlock=some g'∨g'=w.heap.size)∧Chg g' (g'+1) w w':=by
 rw [append_types ht ht']
 obtain⟨i0,hi0,hz0,hz1,hz2⟩:=info_parts info_row
 obtain⟨g',hg',hT,hk,hw9⟩:=h.noU
 rcases Nat.eq_zero_or_pos news.length with hz | hz
 ·have hnil:news=[]:=List.eq_nil_of_length_eq_zero hz
  rcases hx with ⟨b,rfl⟩ | hx
  ·refine⟨.slice b 0 0,w,?_,?_,g',hg',hw9,Chg.refl _ _ _⟩
   ·rw [hz]; exact run_append_none ht hi0 b A c w
   ·rw [hnil,List.append_nil]; exact h
  ·omega
 ·obtain⟨b,off,rfl,hn⟩:=hnews hz
  obtain⟨h0,hown⟩:=h
  obtain⟨g,cap,w',hrun,ho,hgr,hat,hlt⟩:=run_append_lies (P:=Tryz.prog) w t ty base 24 i0 _ 1 24 ht hi0 hz0 hz1 hz2 rfl (by omega) v xs.length xs hown ⟨b,off,none⟩ news.length c news (by omega)
   (fun j u hj=>by
    have hjl:j < news.length:=(List.getElem?_eq_some_iff.1 hj).1
    rw [add_none,hn j hjl,←hj]
    exact (List.getElem?_eq_getElem hjl).symm)
   h1 hz (by unfold maxLen; omega) (by omega) h0 w.heap.size rfl
  refine⟨_,w',hrun,⟨Nat.le_trans h0 hgr.size,?_⟩,g',hg',hw9,grown_chg hgr hk hT⟩
  rw [List.length_append]; exact ho
theorem step_append_rows {base:Nat} {w:World} {ops:Array Oper} {o:Oper} {a:Act} {K:Act→World→Prop} {Q:Exit→Act→World→Prop} {E:Prop} (hgd:o.guard=none) {v:Value} {xs news:List Value} (s x:Operand) (t t' e':TypeId) (ht:Tryz.prog.underlying t=some (.slice 24)) (ht':Tryz.prog.underlying t'=some (.slice e'))
  (ho:o.op=.call { callee:=.builtin .append,args:=#[s,x],argTypes:=#[t,t'] }) (hs:a.eval s=v) (h:GrowS base w v xs) {A:Option Addr} {c:Nat} (hxv:a.eval x=.slice A news.length c)
  (hnews:0 < news.length→∃ b off,A=some ⟨b,off,none⟩∧∀ j (hj:j < news.length),w.cell? ⟨b,off+j,none⟩=some news[j]) (h1:∀ u∈news,u.oneCell'=true) (hx:(∃ b,v=.slice b 0 0)∨0 < news.length) (hlen:xs.length+news.length≤100000)
  (hK:∀ v' w',GrowS base w' v' (xs ++ news)→(∃ g',base≤g'∧(v.ownBlock=some g'∨g'=w.heap.size)∧Chg g' (g'+1) w w')→K (a.put o.dst v') w') :
  if Region.wanted o (yielded ops a.tmps)=true then Oper.wp Tryz.prog o a w K Q else E:=by
 have hw:Region.wanted o (yielded ops a.tmps)=true:=by simp [Region.wanted,hgd]
 rw [if_pos hw]
 obtain⟨v',w',hrun,h2,h3⟩:=run_append_rows t t' o.type e' ht ht' h hnews h1 hx hlen (c:=c)
 unfold Oper.wp execOp
 simp only [ho,resolve,invoke,builtin,Sem.run_bind,Sem.run_pure,Result.andThen_ok,List.map_toArray,List.map_cons,List.map_nil,hs,hxv,hrun]
 exact hK v' w' h2 h3
structure FewLin (Z:Lin) (n:Nat) (X:Nat→Nat→Rat) (y p:Nat→Rat):Prop where
 m0:0 < Z.m
 m6:Z.m≤6
 n0:0 < n
 n4:n≤4
 L:∀ i,i < Z.m→Z.L i=n
 eA:∀ i,i < Z.m→∀ j,j < n→Z.A i j=raw (X i j)
 nl:Z.nl=Z.m
 el:∀ i,i < Z.m→Z.l i=raw (y i)
 np:Z.np=Z.m
 ep:∀ i,i < Z.m→Z.p i=raw (p i)
 pos:∀ i,i < Z.m→0 < p i
 hX:HtM Z.m n 17 X
 hy:HtL Z.m 17 y
 hp:HtL Z.m 17 p
theorem FewLin.mem {Z:Lin} {n:Nat} {X:Nat→Nat→Rat} {y p:Nat→Rat} (f:FewLin Z n X y p) {N lo hi:Nat} {w:World} {A1 A2 A3:Option Addr} {c1 c2 c3:Nat} (h1:MtR N lo hi w (.slice A1 Z.m c1) Z.m Z.L Z.A) (h2:LsR N lo hi w (.slice A2 Z.nl c2) Z.nl Z.l) (h3:LsR N lo hi w (.slice A3 Z.np c3) Z.np Z.p) :
  MtV N lo hi w (.slice A1 Z.m c1) Z.m n X∧LsV N lo hi w (.slice A2 Z.m c2) Z.m y∧LsV N lo hi w (.slice A3 Z.m c3) Z.m p:=by
 refine⟨MtR.congr h1 f.L (fun i hi j hj=>f.eA i hi j (by rw [←f.L i hi]; exact hj)),?_,?_⟩
 ·rw [f.nl] at h2; exact LsR.congr h2 f.el
 ·rw [f.np] at h3; exact LsR.congr h3 f.ep
theorem FewG.mem {r c:Nat} {Z:Lin} {n:Nat} {X:Nat→Nat→Rat} {y p:Nat→Rat} (f:FewG r c Z n X y p) {N lo hi:Nat} {w:World} {A1 A2 A3:Option Addr} {c1 c2 c3:Nat} (h1:MtR N lo hi w (.slice A1 Z.m c1) Z.m Z.L Z.A) (h2:LsR N lo hi w (.slice A2 Z.nl c2) Z.nl Z.l) (h3:LsR N lo hi w (.slice A3 Z.np c3) Z.np Z.p) :
  MtV N lo hi w (.slice A1 Z.m c1) Z.m n X∧LsV N lo hi w (.slice A2 Z.m c2) Z.m y∧LsV N lo hi w (.slice A3 Z.m c3) Z.m p:=by
 refine⟨MtR.congr h1 f.L (fun i hi j hj=>f.eA i hi j (by rw [←f.L i hi]; exact hj)),?_,?_⟩
 ·rw [f.nl] at h2; exact LsR.congr h2 f.el
 ·rw [f.np] at h3; exact LsR.congr h3 f.ep
theorem GrowS.nil0 {base:Nat} {w:World} (hb:base≤w.heap.size):GrowS base w (.slice none 0 0) []:=⟨hb,rfl,.inl ⟨rfl,rfl⟩⟩
theorem GrowS.mtr0 {N base:Nat} {w:World} {v:Value} {xs:List Value} (h:GrowS base w v xs) (hN:N≤w.heap.size) (hn:0 < xs.length) {L:Nat→Nat} {R:Nat→Nat→Raw} (hr:∀ i (hi:i < xs.length),LsR N 0 w.heap.size w xs[i] (L i) (R i)):MtR N 0 w.heap.size w v xs.length L R:=by
 obtain⟨g,cap,rfl,hcm,hnc,hat⟩:=h.at_ hn
 refine⟨hN,Nat.le_refl _,_,cap,rfl,hnc,hcm,fun _=>⟨g,0,rfl,Nat.zero_le _,?_,fun i hi=>⟨xs[i],?_,hr i hi⟩⟩⟩
 ·exact cell_lt (hat 0 hn)
 ·rw [Nat.zero_add]; exact hat i hi
theorem one_cell {w:World} {g:Nat} {v:Value} {t:TypeId} {fr:Nat×Nat} (h:w.heap[g]?=some (.cells #[v] t fr)):∀ j (hj:j < [v].length),w.cell? ⟨g,0+j,none⟩=some [v][j]:=by
 intro j hj
 obtain rfl:j=0:=by simpa using hj
 exact cell_blk h 0
def RetMtA (N:Nat) (w:World) (m n:Nat) (X:Nat→Nat→Rat) (e:Ending) (w':World):Prop:=∃ A c,e=.returned (.slice A m c)∧MtV N 0 w'.heap.size w' (.slice A m c) m n X∧Ext w w'
set_option maxRecDepth 100000 in
theorem l34_part {N lo hi g:Nat} {w:World} {A:Option Addr} {m n c:Nat} {X:Nat→Nat→Rat} (hg:w.cell? ⟨g,0,none⟩=some (.slice A m c)) (h:MtV N lo hi w (.slice A m c) m n X) (t b l r:Nat) {tz bz lz rz:Int} (htz:tz=(t:Int)) (hbz:bz=(b:Int)) (hlz:lz=(l:Int)) (hrz:rz=(r:Int)) (ht:t < b) (hb:b≤m) (hl:l < r) (hr:r≤n) (hm:m < 1000) (hn:n < 1000) :
  Calls Tryz.prog 70 #[.agg #[.int .i64 tz,.int .i64 bz],.agg #[.int .i64 lz,.int .i64 rz],.pointer (some ⟨g,0,none⟩)] w (RetMtA N w (b - t) (r - l) (fun i j=>X (t+i) (l+j))):=by
 subst htz hbz hlz hrz
 have hN:=h.le
 have hhi:=h.2.1
 obtain⟨gb,off,rfl,-,-,-⟩:=h.addr (by omega)
 have l0:=cell_lt hg
 simp only at l0
 obtain⟨Z,hZ⟩:=hid_eq (fun i j=>X (t+i) (l+j))
 have HZ:Hid (∀ i,(fun j=>X (t+i) (l+j))=Z i):=fun i=>by rw [hZ.out]
 obtain⟨Rf,hRf⟩:=hid_eq (RetMtA N w (b - t) (r - l) Z)
 rw [←hZ.out,←hRf.out]
 have hI:=h
 clear h hZ
 go_enter Tryz.func70,Tryz.ntmps70
 go_upto_region 1 with (fail)
 refine boxes2 ?_
 intro W hE hsz B0 B1
 have hg1:=hE.cell hg
 obtain⟨a0,a1,-⟩:=cells2 B0
 have hsW:w.heap.size≤W.heap.size:=hE.size
 go_wp2
 clear a0 a1 hg
 go_loopw [6,7] (fun v i wr=>∃ a:Nat,t≤a∧a≤b∧i=.int .i64 (a:Int)∧Ext W wr∧∃ xs:List Value,xs.length=a - t∧GrowS W.heap.size wr v xs∧Hid (∀ j (hj:j < xs.length),LsV N lo hi wr xs[j] (r - l) (Z j))) (fun _ i _=>b - (intOf i).toNat)
 case atStart=>exact⟨t,Nat.le_refl _,by omega,rfl,Ext.refl W,[],by simp,GrowS.nil0 (Nat.le_refl _),fun j hj=>absurd hj (by simp)⟩
 case round =>
  obtain⟨a,hta,hab,rfl,eW,xs,hxs,hG,HR⟩:=hrel
  have hEr:=hE.trans eW
  obtain⟨a0,a1,-⟩:=cells2 (eW.block B0)
  by_cases hlt:a < b
  ·obtain⟨gb',off',hA,-,-,hx⟩:=(hI.ext hEr).addr (by omega)
   obtain⟨rfl,rfl⟩:gb=gb'∧off=off':=by injection hA with hA; injection hA with e1 e2; exact⟨e1,e2⟩
   obtain⟨A1,c1,o0,hnc,hcm1,hrow⟩:=hx a (by omega)
   obtain⟨br,offr,rfl,-,-,-⟩:=hrow.addr (by omega)
   have hsub:=LsV.sub hrow hl hr (show r - l≤c1 - l by omega) (by unfold maxLen at hcm1 ⊢; omega)
   have hl1:¬ c1=l:=by omega
   have hl2:l≤r:=by omega
   unfold maxLen at hcm1
   obtain⟨d0,d1,-⟩:=cells2 (eW.block B1)
   have hg2:=eW.cell hg1
   clear hx hA
   go_upto_region 5 with (fail)
   have eC:=(Ext.refl wr).drew
   refine region_late (fun w'=>w'.cell? ⟨g,0,none⟩=some (.slice (some ⟨gb,off,none⟩) m c)∧w'.cell? ⟨gb,off+a,none⟩=some (.slice (some ⟨br,offr,none⟩) n c1)∧w'.cell? ⟨w.heap.size+1,0,none⟩=some (.int .i64 (l:Int))∧w'.cell? ⟨w.heap.size+1,1,none⟩=some (.int .i64 (r:Int))) [11] (by kernel_rfl) (by exact⟨eC.cell hg2,eC.cell o0,eC.cell d0,eC.cell d1⟩) (fun hHeld=>?_)
   refine sP 0 (h:=?_)
   try simp only [nr]
   refine sT 1 (h:=?_)
   try simp only [nr]
   refine sP 2 (h:=?_)
   try simp only [nr]
   refine sP 3 (h:=?_)
   try simp only [nr]
   refine sT 4 (h:=?_)
   try simp only [nr]
   refine sP 5 (h:=?_)
   try simp only [nr]
   refine sT 6 (h:=?_)
   try simp only [nr]
   refine sP 7 (h:=?_)
   try simp only [nr]
   refine sT 8 (h:=?_)
   try simp only [nr]
   refine sP 9 (h:=?_)
   try simp only [nr]
   refine stepL_only (i:=10) rfl (by kernel_rfl) (fun K hK=>?_)
   go_simp
   first | refine boxes1 ?_ | refine boxesD1 ?_
   intro w9 e9 hsz9 BX
   replace eC:Ext wr w9:=by first | exact e9 | exact eC.trans e9
   have hG7:=hG.ext eC
   have hE7:=eW.trans eC
   clear hHeld
   refine hK.out _ _ (by exact⟨eC.cell hg2,eC.cell o0,eC.cell d0,eC.cell d1⟩) fun hHeld=>?_
   clear hK K
   try simp only [nr]
   refine stepL_late (i:=11) rfl (by kernel_rfl) (by kernel_rfl) (fun K hK=>?_)
   refine step_append_rows rfl (news:=[.slice (some ⟨br,offr+l*4,none⟩) (r - l) (c1 - l)]) _ _ 23 23 24 Tryz.underlying23 Tryz.underlying23 rfl (by rfl) hG7 (by rfl) (fun _=>⟨_,0,rfl,one_cell BX⟩) (fun u hu=>by rw [List.mem_singleton.1 hu]; rfl) (.inr (by simp)) (by simp; omega) ?_
   rintro v' w10 hG8 ⟨g',hg',-,c15⟩
   have hE8:=c15.ext hE7 hg'
   have HR8:Hid (∀ j (hj:j < (xs ++ [Value.slice (some ⟨br,offr+l*4,none⟩) (r - l) (c1 - l)]).length),LsV N lo hi w10 (xs ++ [Value.slice (some ⟨br,offr+l*4,none⟩) (r - l) (c1 - l)])[j] (r - l) (Z j)):=fun j hj=>by
    by_cases hj2:j < xs.length
    ·rw [List.getElem_append_left hj2]
     exact ((HR.out j hj2).ext eC).chg c15 (by omega) (.inl (by omega))
    ·obtain rfl:xs.length=j:=by simp at hj; omega
     rw [List.getElem_append_right (Nat.le_refl _)]
     simp only [Nat.sub_self,List.getElem_cons_zero]
     have h9:=(hsub.ext eC).chg c15 (by omega) (.inl (by omega))
     rw [←HZ.out,hxs]
     rw [show t+(a - t)=a by omega]
     exact h9
   refine hK.out _ _ ?_
   clear hK K
   try simp only [nr]
   refine sP 12 (h:=?_)
   try simp only [nr]
   refine stepL_done (by kernel_rfl) ?_ _
   clear hHeld
   clear a0 a1 d0 d1 hg2 o0 hsub hrow BX hG hG7 c15 HR hEr eW eC
   go_wp2
   go_roundw
   case rel=>exact⟨a+1,by omega,by omega,by go_num,hE8,_,by simp; omega,hG8,HR8⟩
   case measure=>simp [intOf]; omega
  ·obtain rfl:b=a:=by omega
   obtain⟨gq,cap,rfl,-,-,-⟩:=hG.at_ (by omega)
   have hNr:N≤wr.heap.size:=by have:=hEr.size; omega
   have hM:MtV N 0 wr.heap.size wr (.slice (some ⟨gq,0,none⟩) xs.length cap) xs.length (r - l) Z:=hG.mtr0 hNr (by omega) (fun j hj=>LsR.wide (HR.out j hj) (Nat.zero_le _) (by have:=hEr.size; omega) (Nat.le_refl _))
   rw [hxs] at hM
   go_wp2
   first | go_ret | skip
   rw [hRf.out,hxs]
   exact⟨_,_,rfl,hM,hEr⟩
def Mn.mtn (N lo m n:Nat) (X:Nat→Nat→Rat):Mn:=⟨fun v w=>MtV N lo w.heap.size w v m n X,fun e h=>MtR.wide (h.ext e) (Nat.le_refl _) e.size (Nat.le_refl _)⟩
set_option maxRecDepth 100000 in
theorem l34_reduced_out {N lo hi:Nat} {w:World} {v1 v2 v3:Value} {m n:Nat} {X:Nat→Nat→Rat} {y p:Nat→Rat} (h1:MtV N lo hi w v1 m n X) (h2:LsV N lo hi w v2 m y) (h3:LsV N lo hi w v3 m p) (hm0:0 < m) (hm:m≤64) (hn0:0 < n) (hn:n≤24)
  {k:Nat} (hkx:HtM m n k X) (hky:HtL m k y) (hkp:HtL m k p) (hQ:m*(3*k+1)+3*k+2≤29000000000) (kz:Int) (hkz:kz < 1∨(n:Int)≤kz) :
  Calls Tryz.prog 23 #[.agg #[v1,v2,v3],.int .i64 kz] w (RetV w (.tuple #[.slice none 0 0,.slice none 0 0,.int .i64 2])):=by
 have HX:=Lib.hid hkx
 have HY:=Lib.hid hky
 have HP:=Lib.hid hkp
 have HQ:=Lib.hid hQ
 obtain⟨A1,c1,rfl,hmc,hcm⟩:=h1.form
 obtain⟨A2,c2,rfl,hmc2,hcm2⟩:=h2.form
 obtain⟨A3,c3,rfl,hmc3,hcm3⟩:=h3.form
 have hI1:=h1
 have hI2:=h2
 have hI3:=h3
 clear h1 h2 h3 hkx hky hkp hQ
 go_enter Tryz.func23,Tryz.ntmps23
 go_upto_region 1 with (fail)
 refine boxes1 ?_
 intro W hE hsz B0
 obtain⟨a0,a1,a2,-⟩:=cells3 B0
 go_wp2_with (go_at_call 15; refine Hid.out ?_)
 refine (l34_normal (hI1.ext hE) (hI2.ext hE) (hI3.ext hE) hm0 (by omega) hn0 (by omega) HX.out HY.out HP.out HQ.out).mono ?_
 rintro e w1 ⟨A6,c6,A7,c7,rfl,h6,h7,e1⟩
 replace hE:=hE.trans e1
 clear a0 a1 a2
 go_upto_region 2 with (fail)
 refine boxes1 ?_
 intro w2 e2 hsz2 B2
 replace hE:=hE.trans e2
 by_cases hk:kz < 1
 ·have t1:decide (kz < 1)=true:=by simpa using hk
  clear hkz
  go_wp2
  first | go_ret3 | skip
  exact⟨rfl,hE⟩
 ·have t1:decide (kz < 1)=false:=by simpa using hk
  have t2:(n:Int)≤kz:=by omega
  have t3:decide ((n:Int)≤kz)=true:=by simpa using t2
  clear hkz
  go_wp2
  first | go_ret3 | skip
  exact⟨rfl,hE⟩
set_option maxRecDepth 100000 in
theorem l34_reduced {N lo hi:Nat} {w:World} {v1 v2 v3:Value} {m n:Nat} {X:Nat→Nat→Rat} {y p:Nat→Rat} (h1:MtV N lo hi w v1 m n X) (h2:LsV N lo hi w v2 m y) (h3:LsV N lo hi w v3 m p) (hm0:0 < m) (hm:m≤64) (hn0:0 < n) (hn:n≤24)
  {k Q H F:Nat} (hkx:HtM m n k X) (hky:HtL m k y) (hkp:HtL m k p) (hQ:m*(3*k+1)+3*k+2=Q) (kp e:Nat) {kz:Int} (hkz:kz=(kp:Int)) (hk1:1≤kp) (hke:kp+e=n) (he1:1≤e)
  (hH:5 ^ e*(Q+1)≤H) (hF:n*(Q+H+1)+1≤F) (hK:n*(F+Q+1)+6+Q+5*H≤29000000000) :
  Calls Tryz.prog 23 #[.agg #[v1,v2,v3],.int .i64 kz] w (RetRd N w kp (rref e (augI e (fun a b=>nmat X p m (kp+a) (kp+b))) e).2.length e (schM kp e (nmat X p m)) (schR kp e (nmat X p m) (nrhs X y p m))):=by
 subst hkz
 have hQn:Q≤n*(Q+H+1):=by have:=Nat.le_mul_of_pos_left (Q+H+1) hn0; omega
 have hHn:H≤n*(Q+H+1):=by have:=Nat.le_mul_of_pos_left (Q+H+1) hn0; omega
 have hFn:F+Q≤n*(F+Q+1):=by have:=Nat.le_mul_of_pos_left (F+Q+1) hn0; omega
 have HX:=Lib.hid hkx
 have HY:=Lib.hid hky
 have HP:=Lib.hid hkp
 have HKK:Hid (HtM n n Q (nmat X p m)):=(nmat_ht hkx hkp (Nat.le_refl _) (Nat.le_refl _)).mono (by omega)
 have HKR:Hid (HtL n Q (nrhs X y p m)):=(nrhs_ht hkx hky hkp (Nat.le_refl _) (Nat.le_refl _)).mono (by omega)
 have HQ:Hid (m*(3*k+1)+3*k+2≤29000000000):=by rw [Hid]; omega
 obtain⟨KM,hKd⟩:=hid_eq (nmat X p m)
 obtain⟨R,hRd⟩:=hid_eq (nrhs X y p m)
 rw [←hKd.out] at HKK ⊢
 rw [←hRd.out] at HKR ⊢
 have HZH:Hid (HtM e e H (invM e (fun a b=>KM (kp+a) (kp+b)))):=(invM_ht (fun i hi j hj=>HKK.out (kp+i) (by omega) (kp+j) (by omega))).mono hH
 have HFH:Hid (HtM kp e F (schF kp e KM)):=fun i hi j hj =>
  (mmw_ht (m:=kp) (n:=e) (q:=e) (ka:=Q) (kb:=H) (fun a ha b hb=>HKK.out a (by omega) (kp+b) (by omega)) HZH.out i hi j hj).mono (by
   have:=Nat.mul_le_mul_right (Q+H+1) (show e≤n by omega); omega)
 have HGH:Hid (HtM kp kp (n*(F+Q+1)+1) (mm e (schF kp e KM) (fun a b=>KM (kp+a) b))):=fun i hi j hj =>
  (mmw_ht (m:=kp) (n:=e) (q:=kp) (ka:=F) (kb:=Q) HFH.out (fun a ha b hb=>HKK.out (kp+a) (by omega) b (by omega)) i hi j hj).mono (by
   have:=Nat.mul_le_mul_right (F+Q+1) (show e≤n by omega); omega)
 have HEN:Hid (e*(Q+H+1)+1≤29000000000∧e*(F+Q+1)+1≤29000000000):=by
  have h8:=Nat.mul_le_mul_right (Q+H+1) (show e≤n by omega)
  have h9:=Nat.mul_le_mul_right (F+Q+1) (show e≤n by omega)
  rw [Hid]; omega
 have HLS:Hid (∀ i,i < kp→Sz (sum e (fun t=>schF kp e KM i t*R (kp+t)))∧Sz (R i)∧Sz (R i - sum e (fun t=>schF kp e KM i t*R (kp+t)))):=fun i hi=>by
  have h8:=sum_ht (n:=e) (k:=F+Q) (K:=e*(F+Q+1)+1) (fun t ht=>(HFH.out i hi t ht).mul (HKR.out (kp+t) (by omega))) (Nat.le_refl _) (Nat.le_refl _)
  have h9:=Nat.mul_le_mul_right (F+Q+1) (show e≤n by omega)
  exact⟨h8.sz HEN.out.2,(HKR.out i (by omega)).sz (by omega),((HKR.out i (by omega)).sub h8).sz (by omega)⟩
 have HSZ:Hid (Q+(1+(n*(F+Q+1)+1))+1≤29000000000∧5*(5 ^ e*(Q+1))≤29000000000):=by rw [Hid]; omega
 have hrk:=(rref_len e (augI e (fun a b=>KM (kp+a) (kp+b))) e).1
 obtain⟨ok,hok⟩:=hid_eq (ivB e (fun a b=>KM (kp+a) (kp+b)))
 have hok1:ok=true→e≤(rref e (augI e (fun a b=>KM (kp+a) (kp+b))) e).2.length:=fun h=>by
  rw [hok.out] at h; unfold ivB at h; rw [decide_eq_true_eq] at h; omega
 have hok0:ok=false→(rref e (augI e (fun a b=>KM (kp+a) (kp+b))) e).2.length < e:=fun h=>by
  rw [hok.out] at h; unfold ivB at h; rw [decide_eq_false_iff_not] at h; omega
 obtain⟨rk,hrkd⟩:=hid_eq (rref e (augI e (fun a b=>KM (kp+a) (kp+b))) e).2.length
 rw [←hrkd.out] at hrk hok1 hok0
 obtain⟨Rf,hRf⟩:=hid_eq (RetRd N w kp rk e (schM kp e KM) (schR kp e KM R))
 rw [←hrkd.out,←hRf.out]
 have HOK1:=Lib.hid hok1
 have HOK0:=Lib.hid hok0
 have hN:=h1.le
 obtain⟨A1,c1,rfl,hmc,hcm⟩:=h1.form
 obtain⟨A2,c2,rfl,hmc2,hcm2⟩:=h2.form
 obtain⟨A3,c3,rfl,hmc3,hcm3⟩:=h3.form
 have hI1:=h1
 have hI2:=h2
 have hI3:=h3
 have hkn:kp < n:=by omega
 have he:n - kp=e:=by omega
 clear h1 h2 h3 hkx hky hkp hK hQ hH hF hQn hHn hFn hok1 hok0 hrk
 go_enter Tryz.func23,Tryz.ntmps23
 go_upto_region 1 with (fail)
 refine boxes1 ?_
 intro W hE hsz B0
 obtain⟨a0,a1,a2,-⟩:=cells3 B0
 go_wp2_with (go_at_call 15; refine Hid.out ?_)
 refine (l34_normal (hI1.ext hE) (hI2.ext hE) (hI3.ext hE) hm0 (by omega) hn0 (by omega) HX.out HY.out HP.out HQ.out).mono ?_
 rintro e9 w1 ⟨A6,c6,A7,c7,rfl,h6,h7,e1⟩
 rw [←hKd.out] at h6
 rw [←hRd.out] at h7
 replace hE:=hE.trans e1
 clear a0 a1 a2
 go_upto_region 2 with (fail)
 refine boxes1 ?_
 intro w2 e2 hsz2 B2
 replace hE:=hE.trans e2
 have h6':=MtV.all (h6.ext e2)
 have h7':=LsV.all (h7.ext e2)
 obtain⟨b7,off7,rfl,-,-,-⟩:=h7'.addr hn0
 obtain⟨Ax,cx,hvx,hnc7,hcm7⟩:=h7'.form
 injection hvx with ex1 ex2 ex3
 subst ex3
 clear ex1 ex2
 obtain⟨gb,hgb⟩:∃ gb,gb=w1.heap.size:=⟨_,rfl⟩
 rw [←hgb] at B2 hsz2 ⊢
 clear h6 h7 e1 e2 hgb
 obtain⟨lo2,hlo2⟩:∃ lo2,lo2=w2.heap.size:=⟨_,rfl⟩
 rw [←hlo2] at h6' h7' hsz2
 have hT6:Hid (∀ wr,Ext w2 wr→MtV N 0 lo2 wr (.slice A6 n c6) n n KM):=fun wr e=>h6'.ext e
 have hT7:Hid (∀ wr,Ext w2 wr→LsV N 0 lo2 wr (.slice (some ⟨b7,off7,none⟩) n c7) n R):=fun wr e=>h7'.ext e
 have hlw:w.heap.size≤w2.heap.size:=hE.size
 have hNlo:N≤w2.heap.size:=by omega
 clear h6' h7' hsz hlo2
 go_upto_region 6 with (fail)
 refine boxes2 ?_
 intro w3 e3 hsz3 B3 B4
 obtain⟨gk,hgk⟩:∃ gk,gk=w2.heap.size:=⟨_,rfl⟩
 rw [←hgk] at B3 B4 ⊢
 have eW:=e3
 clear e3 hgk hsz3
 have B2':=eW.block B2
 obtain⟨d0,d1,-⟩:=cells2 B3
 obtain⟨f0,f1,-⟩:=cells2 B4
 go_wp2_with (go_at_call 70; refine Hid.out ?_)
 refine (l34_part (cell_blk (eW.block B2) 0) (hT6.out _ eW) kp n kp n rfl rfl rfl rfl hkn (Nat.le_refl _) hkn (Nat.le_refl _) (by omega) (by omega)).mono ?_
 rw [he]
 rintro e9 w4 ⟨A4,c4,rfl,h4,e4⟩
 replace eW:=eW.trans e4
 replace B3:=e4.block B3
 replace B4:=e4.block B4
 clear d0 d1 f0 f1 B2'
 go_wp2_with (go_at_call 71; refine Hid.out ?_)
 refine (r5_inverse h4 he1 (by omega) (fun i hi j hj=>HKK.out (kp+i) (by omega) (kp+j) (by omega)) HSZ.out.2).mono ?_
 rw [←hok.out]
 clear h4 e4
 rintro e9 w5 ⟨e5,⟨h9,rfl⟩ | ⟨h9,A5,c5,rfl,h5⟩⟩
 ·have h10:=HOK0.out h9
  go_wp2
  first | go_ret3 | skip
  rw [hRf.out]
  exact⟨hE.trans (eW.trans e5),.inl ⟨h10,rfl⟩⟩
 have HRK:=Lib.hid (HOK1.out h9)
 replace h5:=MtV.all h5
 replace eW:=eW.trans e5
 replace B3:=e5.block B3
 replace B4:=e5.block B4
 clear e5 HOK0 HOK1 h9
 have B2':=eW.block B2
 obtain⟨d0,d1,-⟩:=cells2 B3
 obtain⟨f0,f1,-⟩:=cells2 B4
 have hk0:0 < kp:=by omega
 go_wp2_with (go_at_call 70; refine Hid.out ?_)
 refine (l34_part (cell_blk (eW.block B2) 0) (hT6.out _ eW) 0 kp kp n rfl rfl rfl rfl hk0 (by omega) hkn (Nat.le_refl _) (by omega) (by omega)).mono ?_
 rw [he,Nat.sub_zero]
 rintro e9 w6 ⟨A8,c8,rfl,h6,e6⟩
 replace h6:MtV N _ _ w6 (.slice A8 kp c8) kp e (fun a b=>KM a (kp+b)):=MtV.congr h6 (fun i _ j _=>by rw [Nat.zero_add])
 replace eW:=eW.trans e6
 go_wp2_with (go_at_call 72; refine Hid.out ?_)
 refine (r5_mul h6 (h5.ext e6) (by omega) he1 (by omega) he1 (by omega) (fun a ha b hb=>HKK.out a (by omega) (kp+b) (by omega)) HZH.out HEN.out.1).mono ?_
 rintro e9 w7 ⟨hf,capf,βf,κf,rfl,hcf,hof,e7⟩
 have hF:MtV N _ _ w7 (.slice (some ⟨hf,0,none⟩) kp capf) kp e (schF kp e KM):=hof.mtv hof.mle hcf
 replace hF:=MtV.all hF
 replace eW:=eW.trans e7
 replace B3:=e7.block (e6.block B3)
 replace B4:=e7.block (e6.block B4)
 clear hof h6 h5 e6 e7 d0 d1 f0 f1 B2'
 obtain⟨lo7,hlo7⟩:∃ lo7,lo7=w7.heap.size:=⟨_,rfl⟩
 rw [←hlo7] at hF
 have hT8:Hid (∀ wr,Ext w7 wr→MtV N 0 lo7 wr (.slice (some ⟨hf,0,none⟩) kp capf) kp e (schF kp e KM)):=fun wr e=>hF.ext e
 have hlw7:w2.heap.size≤w7.heap.size:=eW.size
 have hws7:w.heap.size≤w7.heap.size:=by omega
 clear hF hlo7
 have B2':=eW.block B2
 obtain⟨d0,d1,-⟩:=cells2 B3
 obtain⟨f0,f1,-⟩:=cells2 B4
 obtain⟨G,hG⟩:=hid_eq (mm e (schF kp e KM) (fun a b=>KM (kp+a) b))
 obtain⟨SM,hSM⟩:=hid_eq (schM kp e KM)
 have HSM:Hid (∀ i j,KM i j+(((-1:Int)):Rat)*G i j=SM i j):=fun i j=>by rw [hSM.out,hG.out]; unfold schM; grind
 have hm1:Ht 1 (((-1:Int)):Rat):=by unfold Ht; decide +kernel
 obtain⟨wq,hwq⟩:∃ wq,wq=w7:=⟨_,rfl⟩
 subst hwq
 go_upto_region 10 with (fail)
 refine region_inv [Mn.eq (.func (.func 70) #[] #[.pointer (some ⟨gb,0,none⟩)]),Mn.eq (.agg #[.int .i64 0,.int .i64 (kp:Int)]),Mn.eq (.agg #[.int .i64 0,.int .i64 (kp:Int)]),Mn.mt N kp kp KM,Mn.eq (.slice (some ⟨hf,0,none⟩) kp capf),Mn.eq (.func (.func 70) #[] #[.pointer (some ⟨gb,0,none⟩)]),Mn.eq (.agg #[.int .i64 (kp:Int),.int .i64 (n:Int)]),Mn.eq (.agg #[.int .i64 0,.int .i64 (kp:Int)]),Mn.mt N e kp (fun a b=>KM (kp+a) b),Mn.mt N kp kp G,Mn.rat N ((-1:Int):Rat),Mn.mtn N w.heap.size kp kp SM,Mn.mtn N w.heap.size kp kp SM] [some 55,some 56,some 57,some 58,some 59,some 60,some 61,some 62,some 63,some 64,some 65,some 66,some 15] [] [true,true,true,true,true,true,true,true,true,true,true,true,true] 0 (by kernel_rfl) (by kernel_rfl) (by kernel_rfl) (by kernel_rfl) (by kernel_rfl) (by kernel_rfl) (by kernel_rfl) (by kernel_rfl) ?_ ?_
 ·intro i hi hl
  have hi':i=0∨i=1∨i=2∨i=3∨i=4∨i=5∨i=6∨i=7∨i=8∨i=9∨i=10∨i=11∨i=12:=by have h9:i < 13:=hi; omega
  clear hi
  rcases hi' with rfl | rfl | rfl | rfl | rfl | rfl | rfl | rfl | rfl | rfl | rfl | rfl | rfl
  ·clear hl
   refine stp rfl ?_
   intro ac wi eI hold hpre K hK
   have o9:=hold 9 (by kernel_rfl)
   simp only [List.getElem?_toArray,List.getElem?_cons_succ,List.getElem?_cons_zero] at o9
   clear hold hpre
   go_simp
   exact hK.out _ _ (Ext.refl _) rfl
  ·clear hl
   refine stp rfl ?_
   intro ac wi eI hold hpre K hK
   have o10:=hold 10 (by kernel_rfl)
   simp only [List.getElem?_toArray,List.getElem?_cons_succ,List.getElem?_cons_zero] at o10
   clear hold hpre
   have cc0:=eI.cell d0
   have cc1:=eI.cell d1
   have cc2:=eI.cell f0
   have cc3:=eI.cell f1
   go_simp
   exact hK.out _ _ (Ext.refl _) rfl
  ·clear hl
   refine stp rfl ?_
   intro ac wi eI hold hpre K hK
   have o10:=hold 10 (by kernel_rfl)
   simp only [List.getElem?_toArray,List.getElem?_cons_succ,List.getElem?_cons_zero] at o10
   clear hold hpre
   have cc0:=eI.cell d0
   have cc1:=eI.cell d1
   have cc2:=eI.cell f0
   have cc3:=eI.cell f1
   go_simp
   exact hK.out _ _ (Ext.refl _) rfl
  ·clear hl
   refine stp rfl ?_
   intro ac wi eI hold hpre K hK
   obtain⟨x55,s55,j55⟩:=hpre 0 (by kernel_rfl) 55 rfl
   obtain rfl:x55=(.func (.func 70) #[] #[.pointer (some ⟨gb,0,none⟩)]):=j55
   obtain⟨x56,s56,j56⟩:=hpre 1 (by kernel_rfl) 56 rfl
   obtain rfl:x56=(.agg #[.int .i64 0,.int .i64 (kp:Int)]):=j56
   obtain⟨x57,s57,j57⟩:=hpre 2 (by kernel_rfl) 57 rfl
   obtain rfl:x57=(.agg #[.int .i64 0,.int .i64 (kp:Int)]):=j57
   clear hold hpre
   go_simp
   refine (l34_part (cell_blk (eI.block B2') 0) (hT6.out _ (eW.trans eI)) 0 kp 0 kp rfl rfl rfl rfl hk0 (by omega) hk0 (by omega) (by omega) (by omega)).mono ?_
   rw [Nat.sub_zero]
   rintro e9 wj ⟨Aj,cj,rfl,hj,ej⟩
   go_wp2_with fail
   exact hK.out _ _ ej (MtV.congr hj (fun i _ j _=>by rw [Nat.zero_add,Nat.zero_add]))
  ·clear hl
   refine stp rfl ?_
   intro ac wi eI hold hpre K hK
   have o14:=hold 14 (by kernel_rfl)
   simp only [List.getElem?_toArray,List.getElem?_cons_succ,List.getElem?_cons_zero] at o14
   clear hold hpre
   go_simp
   exact hK.out _ _ (Ext.refl _) rfl
  ·clear hl
   refine stp rfl ?_
   intro ac wi eI hold hpre K hK
   have o9:=hold 9 (by kernel_rfl)
   simp only [List.getElem?_toArray,List.getElem?_cons_succ,List.getElem?_cons_zero] at o9
   clear hold hpre
   go_simp
   exact hK.out _ _ (Ext.refl _) rfl
  ·clear hl
   refine stp rfl ?_
   intro ac wi eI hold hpre K hK
   have o11:=hold 11 (by kernel_rfl)
   simp only [List.getElem?_toArray,List.getElem?_cons_succ,List.getElem?_cons_zero] at o11
   clear hold hpre
   have cc0:=eI.cell d0
   have cc1:=eI.cell d1
   have cc2:=eI.cell f0
   have cc3:=eI.cell f1
   go_simp
   exact hK.out _ _ (Ext.refl _) rfl
  ·clear hl
   refine stp rfl ?_
   intro ac wi eI hold hpre K hK
   have o10:=hold 10 (by kernel_rfl)
   simp only [List.getElem?_toArray,List.getElem?_cons_succ,List.getElem?_cons_zero] at o10
   clear hold hpre
   have cc0:=eI.cell d0
   have cc1:=eI.cell d1
   have cc2:=eI.cell f0
   have cc3:=eI.cell f1
   go_simp
   exact hK.out _ _ (Ext.refl _) rfl
  ·clear hl
   refine stp rfl ?_
   intro ac wi eI hold hpre K hK
   obtain⟨x60,s60,j60⟩:=hpre 5 (by kernel_rfl) 60 rfl
   obtain rfl:x60=(.func (.func 70) #[] #[.pointer (some ⟨gb,0,none⟩)]):=j60
   obtain⟨x61,s61,j61⟩:=hpre 6 (by kernel_rfl) 61 rfl
   obtain rfl:x61=(.agg #[.int .i64 (kp:Int),.int .i64 (n:Int)]):=j61
   obtain⟨x62,s62,j62⟩:=hpre 7 (by kernel_rfl) 62 rfl
   obtain rfl:x62=(.agg #[.int .i64 0,.int .i64 (kp:Int)]):=j62
   clear hold hpre
   go_simp
   refine (l34_part (cell_blk (eI.block B2') 0) (hT6.out _ (eW.trans eI)) kp n 0 kp rfl rfl rfl rfl hkn (Nat.le_refl _) hk0 (by omega) (by omega) (by omega)).mono ?_
   rw [he,Nat.sub_zero]
   rintro e9 wj ⟨Aj,cj,rfl,hj,ej⟩
   go_wp2_with fail
   exact hK.out _ _ ej (MtV.congr hj (fun i _ j _=>by rw [Nat.zero_add]))
  ·clear hl
   refine stp rfl ?_
   intro ac wi eI hold hpre K hK
   obtain⟨x59,s59,j59⟩:=hpre 4 (by kernel_rfl) 59 rfl
   obtain rfl:x59=(.slice (some ⟨hf,0,none⟩) kp capf):=j59
   obtain⟨x63,s63,j63⟩:=hpre 8 (by kernel_rfl) 63 rfl
   replace j63:Mn.p (Mn.mt N e kp (fun a b=>KM (kp+a) b)) x63 wi:=j63
   clear hold hpre
   go_simp
   refine (r5_mul (hT8.out _ eI) j63 (by omega) he1 (by omega) hk0 (by omega) HFH.out (fun a ha b hb=>HKK.out (kp+a) (by omega) b (by omega)) HEN.out.2).mono ?_
   rw [←hG.out]
   rintro e9 wj ⟨hj,capj,βj,κj,rfl,hcj,hoj,ej⟩
   go_wp2_with fail
   exact hK.out _ _ ej (MtV.all (hoj.mtv hoj.mle hcj))
  ·clear hl
   refine stp rfl ?_
   intro ac wi eI hold hpre K hK
   clear hold hpre
   go_simp
   refine (r2_Whole (N:=N) (by have:=eI.size; omega) (-1) (by omega) (by omega)).mono ?_
   rintro e wj ⟨vj,rfl,hj,ej⟩
   go_wp2_with fail
   exact hK.out _ _ ej hj
  ·clear hl
   refine stp rfl ?_
   intro ac wi eI hold hpre K hK
   obtain⟨x58,s58,j58⟩:=hpre 3 (by kernel_rfl) 58 rfl
   replace j58:Mn.p (Mn.mt N kp kp KM) x58 wi:=j58
   obtain⟨x64,s64,j64⟩:=hpre 9 (by kernel_rfl) 64 rfl
   replace j64:Mn.p (Mn.mt N kp kp G) x64 wi:=j64
   obtain⟨x65,s65,j65⟩:=hpre 10 (by kernel_rfl) 65 rfl
   replace j65:Mn.p (Mn.rat N ((-1:Int):Rat)) x65 wi:=j65
   clear hold hpre
   go_simp
   refine (r5_sum j58 j64 j65 hk0 (by omega) hk0 (by omega) (fun a ha b hb=>HKK.out a (by omega) b (by omega)) (fun a ha b hb=>by rw [hG.out]; exact HGH.out a ha b hb) hm1 HSZ.out.1).mono ?_
   rintro e9 wj ⟨hj,capj,βj,κj,rfl,hcj,hoj,ej⟩
   go_wp2_with fail
   have hoi:=eI.size
   exact hK.out _ _ ej (MtV.congr (MtR.wide (hoj.mtv hoj.mle hcj) (by omega) (Nat.le_refl _) (Nat.le_refl _)) (fun i _ j _=>HSM.out i j))
  ·clear hl
   refine stp rfl ?_
   intro ac wi eI hold hpre K hK
   obtain⟨x66,s66,j66⟩:=hpre 11 (by kernel_rfl) 66 rfl
   replace j66:Mn.p (Mn.mtn N w.heap.size kp kp SM) x66 wi:=j66
   clear hold hpre
   go_simp
   exact hK.out _ _ (Ext.refl _) j66
 intro vals wz eZ hJ
 have J55:Mn.p (Mn.eq (.func (.func 70) #[] #[.pointer (some ⟨gb,0,none⟩)])) (vals 0) wz:=hJ 0 (by decide) (by decide)
 have J56:Mn.p (Mn.eq (.agg #[.int .i64 0,.int .i64 (kp:Int)])) (vals 1) wz:=hJ 1 (by decide) (by decide)
 have J57:Mn.p (Mn.eq (.agg #[.int .i64 0,.int .i64 (kp:Int)])) (vals 2) wz:=hJ 2 (by decide) (by decide)
 have J58:Mn.p (Mn.mt N kp kp KM) (vals 3) wz:=hJ 3 (by decide) (by decide)
 have J59:Mn.p (Mn.eq (.slice (some ⟨hf,0,none⟩) kp capf)) (vals 4) wz:=hJ 4 (by decide) (by decide)
 have J60:Mn.p (Mn.eq (.func (.func 70) #[] #[.pointer (some ⟨gb,0,none⟩)])) (vals 5) wz:=hJ 5 (by decide) (by decide)
 have J61:Mn.p (Mn.eq (.agg #[.int .i64 (kp:Int),.int .i64 (n:Int)])) (vals 6) wz:=hJ 6 (by decide) (by decide)
 have J62:Mn.p (Mn.eq (.agg #[.int .i64 0,.int .i64 (kp:Int)])) (vals 7) wz:=hJ 7 (by decide) (by decide)
 have J63:Mn.p (Mn.mt N e kp (fun a b=>KM (kp+a) b)) (vals 8) wz:=hJ 8 (by decide) (by decide)
 have J64:Mn.p (Mn.mt N kp kp G) (vals 9) wz:=hJ 9 (by decide) (by decide)
 have J65:Mn.p (Mn.rat N ((-1:Int):Rat)) (vals 10) wz:=hJ 10 (by decide) (by decide)
 have J66:Mn.p (Mn.mtn N w.heap.size kp kp SM) (vals 11) wz:=hJ 11 (by decide) (by decide)
 have J15:Mn.p (Mn.mtn N w.heap.size kp kp SM) (vals 12) wz:=hJ 12 (by decide) (by decide)
 clear hJ
 simp only [putAll,if_true,Bool.false_eq_true,if_false,Act.put,Nat.zero_add,Nat.reduceAdd,List.setIfInBounds_toArray,List.set_cons_zero,List.set_cons_succ]
 generalize vals 0=z55 at J55 ⊢
 obtain rfl:z55=(.func (.func 70) #[] #[.pointer (some ⟨gb,0,none⟩)]):=J55
 generalize vals 1=z56 at J56 ⊢
 obtain rfl:z56=(.agg #[.int .i64 0,.int .i64 (kp:Int)]):=J56
 generalize vals 2=z57 at J57 ⊢
 obtain rfl:z57=(.agg #[.int .i64 0,.int .i64 (kp:Int)]):=J57
 generalize vals 3=z58 at J58 ⊢
 generalize vals 4=z59 at J59 ⊢
 obtain rfl:z59=(.slice (some ⟨hf,0,none⟩) kp capf):=J59
 generalize vals 5=z60 at J60 ⊢
 obtain rfl:z60=(.func (.func 70) #[] #[.pointer (some ⟨gb,0,none⟩)]):=J60
 generalize vals 6=z61 at J61 ⊢
 obtain rfl:z61=(.agg #[.int .i64 (kp:Int),.int .i64 (n:Int)]):=J61
 generalize vals 7=z62 at J62 ⊢
 obtain rfl:z62=(.agg #[.int .i64 0,.int .i64 (kp:Int)]):=J62
 generalize vals 8=z63 at J63 ⊢
 generalize vals 9=z64 at J64 ⊢
 generalize vals 10=z65 at J65 ⊢
 generalize vals 11=z66 at J66 ⊢
 generalize vals 12=z15 at J15 ⊢
 clear J58 J63 J64 J65 J66
 obtain⟨A15,c15,rfl,-⟩:=MtV.form J15
 refine stepL_done (by kernel_rfl) ?_ _
 replace eW:=eW.trans eZ
 clear d0 d1 f0 f1 B2' B3 B4 B2
 obtain⟨wz0,hwz0⟩:∃ wz0,wz0=wz:=⟨_,rfl⟩
 subst hwz0
 have hT9:Hid (∀ wr,Ext wz0 wr→MtV N w.heap.size wz0.heap.size wr (.slice A15 kp c15) kp kp SM):=fun wr e=>MtV.ext J15 e
 have hsub:=LsV.sub (hT7.out _ eW) hkn (Nat.le_refl n) (show n - kp≤c7 - kp by omega) (by unfold maxLen at hcm7 ⊢; omega)
 rw [he] at hsub
 have hl1:¬ c7=kp:=by omega
 have hl2:¬ kp=c7:=by omega
 have hl3:kp≤n:=by omega
 unfold maxLen at hcm7
 clear J15
 go_wp2_with (go_at_call 26; refine Hid.out ?_)
 refine (r5_apply (hT8.out _ eZ) hsub (by omega) he1 (by omega) HFH.out (fun t ht=>HKR.out (kp+t) (by omega)) HEN.out.2).mono ?_
 obtain⟨LV,hLV⟩:=hid_eq (fun i=>sum e (fun t=>schF kp e KM i t*R (kp+t)))
 obtain⟨SR,hSR⟩:=hid_eq (schR kp e KM R)
 have HSR:Hid (∀ i,R i - LV i=SR i):=fun i=>by rw [hSR.out,hLV.out]; rfl
 have HLV:Hid (∀ i,i < kp→Sz (R i)∧Sz (LV i)):=fun i hi=>by rw [hLV.out]; exact⟨(HLS.out i hi).2.1,(HLS.out i hi).1⟩
 rw [←hLV.out]
 rintro e9 w13 ⟨A13,c13,rfl,h13,e13⟩
 have hM13:=hT9.out _ e13
 replace eW:=eW.trans e13
 have hs13:w.heap.size≤w13.heap.size:=by have:=eW.size; omega
 have hN13:N≤w13.heap.size:=by omega
 clear hsub e13 eZ hl1 hl2 hl3
 go_wp2
 go_loopw [16,73] (fun v i wr=>∃ a:Nat,a≤kp∧i=.int .i64 a∧Ext w13 wr∧∃ A c,v=.slice A a c∧Grow N w13.heap.size wr (.slice A a c) a SR) (fun _ i _=>kp - (intOf i).toNat)
 case atStart=>exact⟨0,Nat.zero_le _,rfl,Ext.refl w13,_,_,rfl,Grow.nil hN13 (Nat.le_refl _) _⟩
 case round =>
  obtain⟨i,hi',rfl,hEr,A20,c20,rfl,hG⟩:=hrel
  have hsr:=hEr.size
  by_cases hlt:i < kp
  ·obtain⟨b1,off1,hA,-,-,hx⟩:=(hT7.out _ (eW.trans hEr)).addr hn0
   obtain⟨rfl,rfl⟩:b7=b1∧off7=off1:=by injection hA with hA; injection hA with e1 e2; exact⟨e1,e2⟩
   obtain⟨n1,A21,k7,c21,A22,k8,c22,p0,p1,p2,p3,hb1,g1,g2⟩:=(hx i (by omega)).open
   obtain⟨b2,off2,rfl,-,-,hx2⟩:=(h13.ext hEr).addr hk0
   obtain⟨n2,A9,k9,c9,A10,k10,c10,q0,q1,q2,q3,hb2,g3,g4⟩:=(hx2 i hlt).open
   clear hx hx2 hA
   go_upto_region 15 with (fail)
   refine boxes1 ?_
   intro w14 e14 hsz14 B14
   obtain⟨t0,t1,t2,t3,-⟩:=cells4 B14
   replace p0:=e14.cell p0
   replace p1:=e14.cell p1
   replace p2:=e14.cell p2
   replace p3:=e14.cell p3
   replace g1:=g1.ext e14
   replace g2:=g2.ext e14
   replace g3:=g3.ext e14
   replace g4:=g4.ext e14
   replace hG:=hG.ext e14
   have hEw:=hEr.trans e14
   obtain⟨gz,hgz⟩:∃ gz,gz=wr.heap.size:=⟨_,rfl⟩
   rw [←hgz] at t0 t1 t2 t3 hsz14 hsr ⊢
   have HS1:Hid (Sz (R i)):=(HLV.out i hlt).1
   have HS2:Hid (Sz (LV i)):=(HLV.out i hlt).2
   have HSI:=Lib.hid (HSR.out i)
   clear q0 q1 q2 q3 B14 e14 hgz hEr
   have eC:=(Ext.refl w14).drew
   refine region_late (fun w'=>w'.cell? ⟨gz,0,none⟩=some (.bool n2)∧w'.cell? ⟨gz,1,none⟩=some (.slice A9 k9 c9)∧w'.cell? ⟨gz,2,none⟩=some (.bool false)∧w'.cell? ⟨gz,3,none⟩=some (.slice A10 k10 c10)∧w'.cell? ⟨b7,off7+i*4,none⟩=some (.bool n1)∧w'.cell? ⟨b7,off7+i*4+1,none⟩=some (.slice A21 k7 c21)∧w'.cell? ⟨b7,off7+i*4+2,none⟩=some (.bool false)∧w'.cell? ⟨b7,off7+i*4+3,none⟩=some (.slice A22 k8 c22)) [8] (by kernel_rfl) (by exact⟨eC.cell t0,eC.cell t1,eC.cell t2,eC.cell t3,eC.cell p0,eC.cell p1,eC.cell p2,eC.cell p3⟩) (fun hHeld=>?_)
   refine sP 0 (h:=?_)
   try simp only [nr]
   refine sP 1 (h:=?_)
   try simp only [nr]
   refine sP 2 (h:=?_)
   try simp only [nr]
   refine sP 3 (h:=?_)
   try simp only [nr]
   refine sT 4 (h:=?_)
   try simp only [nr]
   refine sT 5 (h:=?_)
   try simp only [nr]
   refine stepL_only (i:=6) rfl (by kernel_rfl) (fun K hK=>?_)
   go_simp
   refine (l34_sub (x:=R i) (y:=LV i) (by exact (RatV.mk hb1 g1 g2).ext eC) (by exact (RatV.mk hb2 g3 g4).ext eC) HS1.out HS2.out).mono ?_
   rw [HSI.out]
   intro e9 w15 hh
   obtain⟨b3,A11,k11,c11,A12,k12,c12,rfl,hb3,g5,g6,e15⟩:=hh.form
   replace eC:=eC.trans e15
   go_wp2_with fail
   clear hHeld
   refine hK.out _ _ (by exact⟨eC.cell t0,eC.cell t1,eC.cell t2,eC.cell t3,eC.cell p0,eC.cell p1,eC.cell p2,eC.cell p3⟩) fun hHeld=>?_
   clear hK K
   try simp only [nr]
   refine stepL_only (i:=7) rfl (by kernel_rfl) (fun K hK=>?_)
   go_simp
   first | refine boxes1 ?_ | refine boxesD1 ?_
   intro w16 e16 hsz16 BX
   replace eC:=eC.trans e16
   replace g5:=g5.ext e16
   replace g6:=g6.ext e16
   have hG7:=hG.ext eC
   have hE7:=hEw.trans eC
   clear hHeld
   refine hK.out _ _ (by exact⟨eC.cell t0,eC.cell t1,eC.cell t2,eC.cell t3,eC.cell p0,eC.cell p1,eC.cell p2,eC.cell p3⟩) fun hHeld=>?_
   clear hK K
   try simp only [nr]
   refine stepL_late (i:=8) rfl (by kernel_rfl) (by kernel_rfl) (fun K hK=>?_)
   refine step_append_rat rfl _ _ 24 Tryz.underlying24 rfl (by rfl) hG7 (by rfl) BX hb3 g5 g6 (by omega) ?_
   rintro gq cap' w17 hG8 ⟨g',hg',c17,-⟩ -
   replace hE7:=c17.ext hE7 hg'
   replace hG8:=hG8.congr (y:=SR) (fun j _=>by unfold upd; split <;> simp_all)
   refine hK.out _ _ ?_
   clear hK K
   try simp only [nr]
   refine sP 9 (h:=?_)
   try simp only [nr]
   refine stepL_done (by kernel_rfl) ?_ _
   clear hHeld
   clear t0 t1 t2 t3 p0 p1 p2 p3 g1 g2 g3 g4 g5 g6 hb1 hb2 hb3 BX hG hG7 c17 hEw eC
   go_wp2
   go_roundw
   case rel=>exact⟨i+1,by omega,by go_num,hE7,_,_,rfl,hG8⟩
   case measure=>simp [intOf]; omega
  ·obtain rfl:kp=i:=by omega
   have hRM2:=hM13.ext hEr
   have hhi:wz0.heap.size≤wr.heap.size:=Nat.le_trans hM13.2.1 hsr
   clear hM13
   go_wp2
   first | go_ret3 | skip
   rw [hRf.out,←hSR.out,←hSM.out]
   exact⟨hE.trans (eW.trans hEr),.inr ⟨HRK.out,_,_,_,_,rfl,MtR.wide hRM2 (Nat.le_refl _) hhi (Nat.le_refl _),hG.lsv hs13 rfl⟩⟩
set_option maxRecDepth 100000 in
theorem red_out {N lo hi:Nat} {w:World} {v:Value} {Z:Lin} (kz:Int) (h:LinV N lo hi w v Z) (hs:few34 8 5 Z=false) :
  Calls Tryz.prog 4 #[v,.int .i64 kz] w (RetV w (.bool true)):=by
 have hI:=h
 obtain⟨A1,c1,A2,c2,A3,c3,rfl,-⟩:=h.parts
 have HS:=Lib.hid hs
 clear h hs
 go_enter Tryz.func4,Tryz.ntmps4
 go_wp2_with (go_at_call 10; refine Hid.out ?_)
 refine boxesC1 ?_
 intro W hE hsz B0
 refine (l34_known W).mono ?_
 rintro e w1 ⟨rfl,e1⟩
 replace hE:=hE.trans e1
 replace B0:=e1.block B0
 have hs1:=e1.size
 replace hsz:w.heap.size < w1.heap.size:=by omega
 clear e1 hs1
 obtain⟨a0,a1,a2,-⟩:=cells3 B0
 go_wp2_with (go_at_call 11; refine Hid.out ?_)
 refine (l34_few (hI.ext hE) 8 5 rfl rfl (by omega) (by omega)).mono ?_
 rintro e w2 ⟨rfl,e2⟩
 rw [HS.out]
 replace hE:=hE.trans e2
 replace B0:=e2.block B0
 replace hsz:=blk_lt B0
 clear a0 a1 a2
 obtain⟨a0,a1,a2,-⟩:=cells3 B0
 clear e2
 go_wp2
 go_ret
 exact⟨rfl,hE⟩
set_option maxRecDepth 100000 in
theorem red_bad {N lo hi:Nat} {w:World} {v:Value} {Z:Lin} (kz:Int) (h:LinV N lo hi w v Z) (hs:few34 8 5 Z=true) (hc:codeOf Z≠0) :
  Calls Tryz.prog 4 #[v,.int .i64 kz] w (RetV w (.bool true)):=by
 have hI:=h
 obtain⟨A1,c1,A2,c2,A3,c3,rfl,-⟩:=h.parts
 obtain⟨f1,f2,f3⟩:=few34_sz hs
 have HS:=Lib.hid hs
 have HC:=Lib.hid hc
 have HF2:=Lib.hid f2
 have HF3:=Lib.hid f3
 obtain⟨r,hr⟩:=hid_eq (codeOf Z)
 have hr0:(r == 0)=false:=by rw [hr.out]; simpa using hc
 have hr1:(r != 0)=true:=by simpa using hr0
 have hr2:(r == r)=true:=by simp
 clear h hs hc f1 f2 f3
 go_enter Tryz.func4,Tryz.ntmps4
 go_wp2_with (go_at_call 10; refine Hid.out ?_)
 refine boxesC1 ?_
 intro W hE hsz B0
 refine (l34_known W).mono ?_
 rintro e w1 ⟨rfl,e1⟩
 replace hE:=hE.trans e1
 replace B0:=e1.block B0
 have hs1:=e1.size
 replace hsz:w.heap.size < w1.heap.size:=by omega
 clear e1 hs1
 obtain⟨a0,a1,a2,-⟩:=cells3 B0
 go_wp2_with (go_at_call 11; refine Hid.out ?_)
 refine (l34_few (hI.ext hE) 8 5 rfl rfl (by omega) (by omega)).mono ?_
 rintro e w2 ⟨rfl,e2⟩
 rw [HS.out]
 replace hE:=hE.trans e2
 replace B0:=e2.block B0
 replace hsz:=blk_lt B0
 clear a0 a1 a2
 obtain⟨a0,a1,a2,-⟩:=cells3 B0
 clear e2
 go_wp2_with (go_at_call 22; refine Hid.out ?_)
 refine (n_Reduced_bad (hI.ext hE) HF2.out HF3.out HC.out kz).mono ?_
 rintro e w4 ⟨rfl,e4⟩
 rw [←hr.out]
 replace hE:=hE.trans e4
 replace B0:=e4.block B0
 replace hsz:=blk_lt B0
 clear a0 a1 a2
 obtain⟨a0,a1,a2,-⟩:=cells3 B0
 go_wp2_with (go_at_call 14; refine Hid.out ?_)
 refine (l34_checked (hI.ext hE) HF2.out HF3.out).mono ?_
 rintro e w5 ⟨rfl,e5⟩
 rw [←hr.out]
 replace hE:=hE.trans e5
 replace B0:=e5.block B0
 replace hsz:=blk_lt B0
 clear a0 a1 a2
 obtain⟨a0,a1,a2,-⟩:=cells3 B0
 go_wp2
 go_ret
 exact⟨rfl,hE⟩
theorem red_bnd {m e n Q:Nat} (hm:m≤8) (he:e≤5) (hn:n≤5) (hQ:m*(3*17+1)+3*17+2=Q):5 ^ e*(Q+1)≤1500000∧n*(Q+1500000+1)+1≤7600000∧n*(7600000+Q+1)+6+Q+5*1500000≤29000000000∧Q≤469:=by
 have h1:5 ^ e≤5 ^ 5:=Nat.pow_le_pow_right (by omega) he
 have h2:(5:Nat) ^ 5=3125:=by decide
 have h3:5 ^ e*(Q+1)≤3125*470:=Nat.mul_le_mul (by omega) (by omega)
 have h4:n*(Q+1500000+1)≤5*1500470:=Nat.mul_le_mul hn (by omega)
 have h5:n*(7600000+Q+1)≤5*7600470:=Nat.mul_le_mul hn (by omega)
 omega
set_option maxRecDepth 100000 in
theorem red_good {N lo hi:Nat} {w:World} {A1 A2 A3:Option Addr} {c1 c2 c3 m n:Nat} {X:Nat→Nat→Rat} {y p:Nat→Rat} {Z:Lin} (kz:Int)
  (hI:LinV N lo hi w (.agg #[.slice A1 m c1,.slice A2 m c2,.slice A3 m c3]) Z) (hs:few34 8 5 Z=true) (hc:codeOf Z=0)
  (h1:MtV N lo hi w (.slice A1 m c1) m n X) (h2:LsV N lo hi w (.slice A2 m c2) m y) (h3:LsV N lo hi w (.slice A3 m c3) m p) (hm0:0 < m) (hm:m≤8) (hn0:0 < n) (hn:n≤5) (hpos:∀ i,i < m→0 < p i)
  (hkx:HtM m n 17 X) (hky:HtL m 17 y) (hkp:HtL m 17 p) :
  Calls Tryz.prog 4 #[.agg #[.slice A1 m c1,.slice A2 m c2,.slice A3 m c3],.int .i64 kz] w (RetV w (.bool true)):=by
 obtain⟨f1,f2,f3⟩:=few34_sz hs
 have HS:=Lib.hid hs
 have HC:=Lib.hid hc
 have HF2:=Lib.hid f2
 have HF3:=Lib.hid f3
 have HX:=Lib.hid hkx
 have HY:=Lib.hid hky
 have HP:=Lib.hid hkp
 have HPOS:=Lib.hid hpos
 have hN:=h1.le
 have HK7:Hid (m*(3*17+1)+3*17+2≤29000000000):=by rw [Hid]; omega
 by_cases hkz:kz < 1∨(n:Int)≤kz
 ·have HKZ:=Lib.hid hkz
  clear hs hc f1 f2 f3 hkx hky hkp hpos hkz
  go_enter Tryz.func4,Tryz.ntmps4
  go_wp2_with (go_at_call 10; refine Hid.out ?_)
  refine boxesC1 ?_
  intro W hE hsz B0
  refine (l34_known W).mono ?_
  rintro e w1 ⟨rfl,e1⟩
  replace hE:=hE.trans e1
  replace B0:=e1.block B0
  have hs1:=e1.size
  replace hsz:w.heap.size < w1.heap.size:=by omega
  clear e1 hs1
  obtain⟨a0,a1,a2,-⟩:=cells3 B0
  go_wp2_with (go_at_call 11; refine Hid.out ?_)
  refine (l34_few (hI.ext hE) 8 5 rfl rfl (by omega) (by omega)).mono ?_
  rintro e w2 ⟨rfl,e2⟩
  rw [HS.out]
  replace hE:=hE.trans e2
  replace B0:=e2.block B0
  replace hsz:=blk_lt B0
  clear a0 a1 a2
  obtain⟨a0,a1,a2,-⟩:=cells3 B0
  clear e2
  go_wp2_with (go_at_call 22; refine Hid.out ?_)
  refine (n_Reduced_out (h1.ext hE) (h2.ext hE) (h3.ext hE) hm0 (by omega) hn0 (by omega) HPOS.out HX.out HY.out HP.out (by omega) kz HKZ.out).mono ?_
  rintro e w4 ⟨rfl,e4⟩
  replace hE:=hE.trans e4
  replace B0:=e4.block B0
  replace hsz:=blk_lt B0
  clear a0 a1 a2
  obtain⟨a0,a1,a2,-⟩:=cells3 B0
  go_wp2_with (go_at_call 14; refine Hid.out ?_)
  refine (l34_checked (hI.ext hE) HF2.out HF3.out).mono ?_
  rintro e w5 ⟨rfl,e5⟩
  rw [HC.out]
  replace hE:=hE.trans e5
  replace B0:=e5.block B0
  replace hsz:=blk_lt B0
  clear a0 a1 a2
  obtain⟨a0,a1,a2,-⟩:=cells3 B0
  go_wp2_with (go_at_call 23; refine Hid.out ?_)
  refine (l34_reduced_out (h1.ext hE) (h2.ext hE) (h3.ext hE) hm0 (by omega) hn0 (by omega) HX.out HY.out HP.out HK7.out kz HKZ.out).mono ?_
  rintro e w6 ⟨rfl,e6⟩
  go_wp2
  go_ret
  exact⟨rfl,hE.trans e6⟩
 obtain⟨kp,hkp0⟩:∃ kp:Nat,kz=(kp:Int):=⟨kz.toNat,by omega⟩
 obtain⟨e,he⟩:∃ e:Nat,kp+e=n:=⟨n - kp,by omega⟩
 have hk1:1≤kp:=by omega
 have he1:1≤e:=by omega
 subst hkp0
 clear hkz
 obtain⟨Q,hQ⟩:∃ Q,m*(3*17+1)+3*17+2=Q:=⟨_,rfl⟩
 obtain⟨g1,g2,g3,g4⟩:=red_bnd hm (show e≤5 by omega) hn hQ
 have HG1:=Lib.hid g1
 have HG2:=Lib.hid g2
 have HG3:=Lib.hid g3
 have HQ:=Lib.hid hQ
 clear g1 g2 g3
 have hkM:HtM n n 469 (nmat X p m):=(nmat_ht hkx hkp (Nat.le_refl _) (Nat.le_refl _)).mono (by omega)
 have hkR:HtL n 469 (nrhs X y p m):=(nrhs_ht hkx hky hkp (Nat.le_refl _) (Nat.le_refl _)).mono (by omega)
 have h55:(5:Nat) ^ 5=3125:=by decide
 have HSH:Hid (HtL n 7400000 (nsv n (nmat X p m) (nrhs X y p m))):=(nsv_ht hkM hkR hn).mono (by rw [h55]; omega)
 have hZH:HtM e e 1500000 (invM e (fun a b=>nmat X p m (kp+a) (kp+b))):=(invM_ht (fun i hi j hj=>hkM (kp+i) (by omega) (kp+j) (by omega))).mono (by
  have h3:5 ^ e*(469+1)≤3125*470:=Nat.mul_le_mul (by rw [←h55]; exact Nat.pow_le_pow_right (by omega) (by omega)) (by omega)
  omega)
 have hFH:HtM kp e 7600000 (schF kp e (nmat X p m)):=fun i hi j hj =>
  (mmw_ht (m:=kp) (n:=e) (q:=e) (ka:=469) (kb:=1500000) (fun a ha b hb=>hkM a (by omega) (kp+b) (by omega)) hZH i hi j hj).mono (by
   omega)
 have HMH:Hid (HtM kp kp 40000000 (schM kp e (nmat X p m))):=fun i hi j hj=>by
  refine Ht.mono (Ht.sub (hkM i (by omega) j (by omega)) (mmw_ht (m:=kp) (n:=e) (q:=kp) (ka:=7600000) (kb:=469) hFH (fun a ha b hb=>hkM (kp+a) (by omega) b (by omega)) i hi j hj)) ?_
  omega
 have HRH:Hid (HtL kp 40000000 (schR kp e (nmat X p m) (nrhs X y p m))):=fun i hi=>by
  refine Ht.mono (Ht.sub (hkR i (by omega)) (sum_ht (n:=e) (k:=7600000+469) (K:=e*(7600000+469+1)+1) (fun t ht=>(hFH i hi t ht).mul (hkR (kp+t) (by omega))) (Nat.le_refl _) (Nat.le_refl _))) ?_
  omega
 have HK6:Hid (5*(5 ^ 5*(m*(3*17+1)+1))≤29000000000):=by rw [Hid,h55]; omega
 obtain⟨rk,hrk⟩:=hid_eq (rref e (augI e (fun a b=>nmat X p m (kp+a) (kp+b))) e).2.length
 have hrke:rk≤e:=by rw [hrk.out]; exact (rref_len e (augI e (fun a b=>nmat X p m (kp+a) (kp+b))) e).1
 have HRG:Hid (rk=e→Reg e (fun a b=>nmat X p m (kp+a) (kp+b))):=fun h=>by
  refine ivB_reg.1 ?_
  unfold ivB
  rw [decide_eq_true_eq,←hrk.out]
  exact h
 obtain⟨rn,hrn⟩:=hid_eq (rref n (nmat X p m) n).2.length
 have hrnn:rn≤n:=by rw [hrn.out]; exact (rref_len n (nmat X p m) n).1
 have HRN:Hid (rn=n→Reg n (nmat X p m)):=fun h=>(rank_iff _ _).1 (by rw [←hrn.out]; exact h)
 have HSOL:Hid (rk=e→rn=n→∀ i,i < kp→sum kp (fun c=>schM kp e (nmat X p m) i c*nsv n (nmat X p m) (nrhs X y p m) c)=schR kp e (nmat X p m) (nrhs X y p m) i):=fun ha hb=>by
  have hr1:=HRG.out ha
  have hr2:=HRN.out hb
  subst he
  exact red_sol hr2 hr1
 obtain⟨SM,hSM⟩:=hid_eq (schM kp e (nmat X p m))
 obtain⟨SR,hSR⟩:=hid_eq (schR kp e (nmat X p m) (nrhs X y p m))
 obtain⟨SOL,hSL⟩:=hid_eq (nsv n (nmat X p m) (nrhs X y p m))
 rw [←hSM.out] at HMH HSOL
 rw [←hSR.out] at HRH HSOL
 rw [←hSL.out] at HSH HSOL
 have hen:n - kp=e:=by omega
 have hkn:kp≤n:=by omega
 have hknl:(kp:Int) < (n:Int):=by omega
 clear hs hc f2 f3 hkx hky hkp hpos hkM hkR hZH hFH hQ h55
 go_enter Tryz.func4,Tryz.ntmps4
 go_wp2_with (go_at_call 10; refine Hid.out ?_)
 refine boxesC1 ?_
 intro W hE hsz B0
 refine (l34_known W).mono ?_
 rintro e w1 ⟨rfl,e1⟩
 replace hE:=hE.trans e1
 replace B0:=e1.block B0
 have hs1:=e1.size
 replace hsz:w.heap.size < w1.heap.size:=by omega
 clear e1 hs1
 obtain⟨a0,a1,a2,-⟩:=cells3 B0
 go_wp2_with (go_at_call 11; refine Hid.out ?_)
 refine (l34_few (hI.ext hE) 8 5 rfl rfl (by omega) (by omega)).mono ?_
 rintro e w2 ⟨rfl,e2⟩
 rw [HS.out]
 replace hE:=hE.trans e2
 replace B0:=e2.block B0
 replace hsz:=blk_lt B0
 clear a0 a1 a2
 obtain⟨a0,a1,a2,-⟩:=cells3 B0
 clear e2
 go_wp2_with (go_at_call 22; refine Hid.out ?_)
 refine (n_Reduced (Q:=Q) (H:=1500000) (F:=7600000) (h1.ext hE) (h2.ext hE) (h3.ext hE) hm0 (by omega) hn0 (by omega) HPOS.out HX.out HY.out HP.out HQ.out kp e rfl hk1 he he1 HG1.out HG2.out (by have:=HG3.out; omega)).mono ?_
 rw [←hrk.out,←hSM.out,←hSR.out]
 rintro e9 w4 ⟨e4,hh⟩
 by_cases hfull:rk < e
 ·rcases hh with ⟨-,rfl⟩ | ⟨h0,-⟩
  case inr=>exact absurd hfull (by omega)
  replace hE:=hE.trans e4
  replace B0:=e4.block B0
  replace hsz:=blk_lt B0
  clear a0 a1 a2
  obtain⟨a0,a1,a2,-⟩:=cells3 B0
  go_wp2_with (go_at_call 14; refine Hid.out ?_)
  refine (l34_checked (hI.ext hE) HF2.out HF3.out).mono ?_
  rintro e9 w5 ⟨rfl,e5⟩
  rw [HC.out]
  replace hE:=hE.trans e5
  replace B0:=e5.block B0
  replace hsz:=blk_lt B0
  clear a0 a1 a2
  obtain⟨a0,a1,a2,-⟩:=cells3 B0
  go_wp2_with (go_at_call 23; refine Hid.out ?_)
  refine (l34_reduced (Q:=Q) (H:=1500000) (F:=7600000) (h1.ext hE) (h2.ext hE) (h3.ext hE) hm0 (by omega) hn0 (by omega) HX.out HY.out HP.out HQ.out kp e rfl hk1 he he1 HG1.out HG2.out HG3.out).mono ?_
  rw [←hrk.out]
  rintro e9 w6 ⟨e6,hh⟩
  rcases hh with ⟨-,rfl⟩ | ⟨h0,-⟩
  case inr=>exact absurd hfull (by omega)
  go_wp2
  go_ret
  exact⟨rfl,hE.trans e6⟩
 rcases hh with ⟨h0,-⟩ | ⟨-,A4,c4,A5,c5,rfl,h4,h5⟩
 ·exact absurd h0 hfull
 replace h4:=MtV.all h4
 replace h5:=LsV.all h5
 replace hE:=hE.trans e4
 replace B0:=e4.block B0
 replace hsz:=blk_lt B0
 clear a0 a1 a2
 obtain⟨a0,a1,a2,-⟩:=cells3 B0
 go_wp2_with (go_at_call 14; refine Hid.out ?_)
 refine (l34_checked (hI.ext hE) HF2.out HF3.out).mono ?_
 rintro e9 w5 ⟨rfl,e5⟩
 rw [HC.out]
 replace h4:=h4.ext e5
 replace h5:=h5.ext e5
 replace hE:=hE.trans e5
 replace B0:=e5.block B0
 replace hsz:=blk_lt B0
 clear a0 a1 a2
 obtain⟨a0,a1,a2,-⟩:=cells3 B0
 go_wp2_with (go_at_call 23; refine Hid.out ?_)
 refine (l34_reduced (Q:=Q) (H:=1500000) (F:=7600000) (h1.ext hE) (h2.ext hE) (h3.ext hE) hm0 (by omega) hn0 (by omega) HX.out HY.out HP.out HQ.out kp e rfl hk1 he he1 HG1.out HG2.out HG3.out).mono ?_
 rw [←hrk.out,←hSM.out,←hSR.out]
 rintro e9 w6 ⟨e6,hh⟩
 rcases hh with ⟨h0,-⟩ | ⟨-,A6,c6,A7,c7,rfl,h6,h7⟩
 ·exact absurd h0 hfull
 replace h4:=h4.ext e6
 replace h5:=h5.ext e6
 replace h6:=MtV.all h6
 replace h7:=LsV.all h7
 replace hE:=hE.trans e6
 replace B0:=e6.block B0
 replace hsz:=blk_lt B0
 clear a0 a1 a2
 obtain⟨a0,a1,a2,-⟩:=cells3 B0
 clear e4 e5 e6
 go_wp2_with (go_at_call 24; refine Hid.out ?_)
 refine (r2_sameMatrix h4 h6 (fun i hi j hj=>(HMH.out i hi j hj).sz (by omega)) (fun _ _ _ _=>rfl)).mono ?_
 rintro e9 w7 ⟨rfl,e7⟩
 replace h5:=h5.ext e7
 replace h6:=h6.ext e7
 replace h7:=h7.ext e7
 replace hE:=hE.trans e7
 replace B0:=e7.block B0
 replace hsz:=blk_lt B0
 clear a0 a1 a2
 obtain⟨a0,a1,a2,-⟩:=cells3 B0
 go_wp2_with (go_at_call 25; refine Hid.out ?_)
 refine (r2_sameList h5 h7 (fun i hi=>(HRH.out i hi).sz (by omega)) (fun _ _=>rfl)).mono ?_
 rintro e9 w8 ⟨rfl,e8⟩
 replace h6:=h6.ext e8
 replace h7:=h7.ext e8
 replace hE:=hE.trans e8
 replace B0:=e8.block B0
 replace hsz:=blk_lt B0
 clear a0 a1 a2
 obtain⟨a0,a1,a2,-⟩:=cells3 B0
 clear e7 e8 h4 h5
 go_wp2_with (go_at_call 13; refine Hid.out ?_)
 refine (n_solve (P:=5) (h1.ext hE) (h2.ext hE) (h3.ext hE) hm0 (by omega) hn0 (by omega) HPOS.out HX.out HY.out HP.out HK7.out hn HK6.out).mono ?_
 rw [←hrn.out,←hSL.out]
 rintro e9 w9 ⟨e9,hh⟩
 rcases hh with ⟨h0,rfl⟩ | ⟨h0,A8,c8,rfl,h8⟩
 ·go_wp2
  go_ret
  exact⟨rfl,hE.trans e9⟩
 have HSO:=Lib.hid (HSOL.out (by omega) (by omega))
 replace h8:=LsV.all h8
 replace h6:=MtV.all (h6.ext e9)
 replace h7:=LsV.all (h7.ext e9)
 replace hE:=hE.trans e9
 replace B0:=e9.block B0
 replace hsz:=blk_lt B0
 clear a0 a1 a2
 obtain⟨a0,a1,a2,-⟩:=cells3 B0
 clear e9 hfull h0
 go_wp2_with (go_at_call 17; refine Hid.out ?_)
 refine (r2_validList h8 (fun i hi=>((HSH.out i hi).sz (by omega)).raw)).mono ?_
 rw [allB_true.2 (fun i _=>okR_raw _)]
 rintro e9 w10 ⟨rfl,e10⟩
 replace h6:=MtV.all (h6.ext e10)
 replace h7:=LsV.all (h7.ext e10)
 replace h8:=LsV.all (h8.ext e10)
 replace hE:=hE.trans e10
 replace B0:=e10.block B0
 replace hsz:=blk_lt B0
 clear a0 a1 a2
 obtain⟨a0,a1,a2,-⟩:=cells3 B0
 clear e10
 obtain⟨b8,off8,rfl,-,-,-⟩:=h8.addr hn0
 obtain⟨Ax,cx,hvx,hnc8,hcm8⟩:=h8.form
 injection hvx with ex1 ex2 ex3
 subst ex3
 clear ex1 ex2
 have hsub:=LsV.sub h8 (show 0 < kp by omega) hkn (show kp - 0≤c8 by omega) (by unfold maxLen at hcm8 ⊢; omega)
 rw [Nat.zero_mul,Nat.add_zero,Nat.sub_zero] at hsub
 replace hsub:=hsub.congr (y:=SOL) (fun i _=>by rw [Nat.zero_add])
 have hl1:¬ c8=0:=by omega
 unfold maxLen at hcm8
 go_wp2_with (go_at_call 26; refine Hid.out ?_)
 refine (r5_apply h6 hsub (by omega) (by omega) (by omega) HMH.out (fun t ht=>HSH.out t (by omega)) (by omega)).mono ?_
 rintro e9 w11 ⟨A9,c9,rfl,h9,e11⟩
 go_wp2_with (go_at_call 25; refine Hid.out ?_)
 refine (r2_sameList h9 (h7.ext e11) (fun i hi=>by rw [HSO.out i hi]; exact (HRH.out i hi).sz (by omega)) HSO.out).mono ?_
 rintro e9 w12 ⟨rfl,e12⟩
 go_wp2
 go_ret
 exact⟨rfl,hE.trans (e11.trans e12)⟩
end Go.Proofs.YtccepmpebioeiaaGreat
namespace Go.Proofs.YtccepmpebioeiaaGreat
open Go.RowKit Go.ChangeShapes Go.ChangeAt
theorem cells_lin:Tryz.prog.cellsOf 26=3:=by kernel_rfl
section
variable {H:Type} {enc:TypeId×Value→H} {w:World} {spare:Nat→Bool} {held:Bool}
instance:Inhabited Raw:=⟨⟨false,[],false,[]⟩⟩
end
end Go.Proofs.YtccepmpebioeiaaGreat
