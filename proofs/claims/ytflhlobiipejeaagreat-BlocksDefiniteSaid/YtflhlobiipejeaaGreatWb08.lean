import Derived.Test.YtflhlobiipejeaaGreatWb07
set_option linter.all false
set_option maxHeartbeats 8000000
set_option maxRecDepth 100000
namespace Go.Proofs.YtflhlobiipejeaaGreat
open Go.RowKit Go.Shelf
variable {w:World} {N d:Nat} {v s:Value} {l:List Nat}
attribute [local go_sem] Oper.semAt_some
def acc (l:List Nat) (pre:List (Fin l.length)):Nat:=pre.foldl (fun a j=>a*bs+l[j.1]?.getD 0) 0
theorem JM (l:List Nat) (pre:List (Fin l.length)) (j:Fin l.length):acc l (pre ++ [j])=acc l pre*bs+l[j.1]?.getD 0:=by simp[acc]
theorem q9g(hd:Dig l) (pre:List (Fin l.length)):acc l pre<bs ^ pre.length:=by
 suffices h:∀k,∀pre:List (Fin l.length),pre.length=k->acc l pre<bs ^ k from h _ pre rfl
 intro k
 induction k with
 | zero=>intro pre hp;rw[List.eq_nil_of_length_eq_zero hp];simp[acc]
 | succ k ih =>
  intro pre hp;obtain⟨pre,j,rfl⟩:∃p j,pre=p ++ [j]:=⟨pre.dropLast,pre.getLast (by intro e;rw[e] at hp;simp at hp),(List.dropLast_concat_getLast _).symm⟩
  replace ih:=ih pre (by simpa using hp);rw[JM,Nat.pow_succ];have h1:=hd.get j.1;have h2:=Nat.mul_le_mul_right bs (show acc l pre+1<=bs ^ k from ih);rw[Nat.add_mul,Nat.one_mul] at h2;omega
theorem q5P (l:List Nat):∀k,k<=l.length->acc l ((xx l.length).take k)=val (l.drop (l.length-k)):=by
 intro k
 induction k with
 | zero=>intro _;simp[acc,val]
 | succ k ih =>
  intro hk;rw[yM (by omega),JM,ih (by omega)];have h1:l.length-(k+1)<l.length:=by omega
  rw[xR h1,zW h1];have e:l.length-(k+1)+1=l.length-k:=by omega
  have e2:l[l.length-1-k]?.getD 0=l[l.length-(k+1)]?.getD 0:=by rw[show l.length-1-k=l.length-(k+1) by omega]
  rw[e]
  show val (l.drop (l.length-k))*bs+l[l.length-1-k]?.getD 0=_
  rw[e2,Nat.mul_comm];omega
theorem q89 (l:List Nat):acc l (xx l.length)=val l:=by
 have:=q5P l l.length (q_r);rw[List.take_of_length_le (by rw[kE];exact q_r),Nat.sub_self,List.drop_zero] at this;exact this
theorem q36 (N:Nat) (w:World) (A1:Option Addr) (k1 c1:Nat) (l:List Nat) (h:Gs N w (.slice A1 k1 c1) l) (hd:Dig l) (hk:k1<=2) (r:Int) (hr:Hid (r=(val l:Int))) :
  CallsIn Fence.wide 5 Tryz.prog 174 #[.slice A1 k1 c1] w (zH w (.tuple #[.int .u64 r,.bool true])):=by
 have hla:Hid (l.length=k1):=by obtain⟨A',n',c',hv,hl',-,-⟩:=h.form;cases hv;exact hl'
 refine callsIn_of_wp_marks Tryz.func174 rfl trivial ?_ rfl;simp only[Tryz.ntmps174,List.size_toArray,List.length_cons,List.length_nil,Nat.reduceAdd,Nat.reduceSub,Array.replicate_succ,Array.replicate_zero,List.push_toArray,List.append_toArray,List.nil_append,List.cons_append]
 gi_wp2_with (refine⟨trivial,?_⟩;gi_at_call 186;refine (Wi Fence.wide _ trivial rfl _ _ _ _).mono ?_;rintro e w' ⟨rfl,rfl⟩)
 refine kD ?_;intro W hE hsz B0 B1
 refine wpIn_rangeFunc_ownF (F:=Fence.wide) (n:=5) rfl (by decide) (gf:=193) (lb:=#[.pointer (some ⟨w.heap.size+1,0,none⟩)]) rfl trivial (enters_of Tryz.func193 (by kernel_rfl) rfl)
  (QE Fence.wide 4 trivial rfl (by decide) W w A1 k1 c1 l h hE (w.heap.size+1) w.heap.size (by omega) (by omega) (q_r) (zG B1).1)
  Jh (VD (by omega) (by omega)) (Below.refl _ _) (fun _=>rfl)
  (fun pre W'=>(W'.cell? ⟨w.heap.size,0,none⟩=some (.int .u64 ((acc l pre:Nat):Int))/\W'.frozen? ⟨w.heap.size,0,none⟩=false)/\Below w.heap.size w W')
  (fun _ _ _=>False)
  (OwnFrom.and (Own.from (fun s A B row hs hg hr=>⟨cell_kept hs.1 hg hr,(frozen_kept hs.1 hg hr).trans hs.2⟩) _) (ownFrom_below (q_r) (by omega)))
  (fun _ _ _ _ _ hs _ _=>hs)
  ⟨zG B0,hE⟩
  (fun j=>{ tmps:=#[.slice A1 k1 c1,undef,.int .u64 0,.bool false,.pointer (some ⟨w.heap.size,0,none⟩),undef,.int .u32 ((l[j.1]?.getD 0:Nat):Int),.slice A1 k1 c1,
     .int .i64 k1,.bool (decide (2<(k1:Int))),.slice A1 k1 c1,.func (.func 193) #[] #[.pointer (some ⟨w.heap.size+1,0,none⟩)],
     .int .i64 ((j.1:Nat):Int),.int .u32 ((l[j.1]?.getD 0:Nat):Int),undef,undef,undef,undef,undef,undef],defers:=[] }) ?assign ?body ?done ?stop
 case assign =>
  intro l' j W K hK
  dsimp only[q1i]
  obtain⟨z,hz⟩:=qc ((l[j.1]?.getD 0:Nat):Int);obtain⟨k,hk⟩:=qc ((j.1:Nat):Int);rw[<-hz.out,<-hk.out] at hK ⊢
  gi_wp2
  exact hK
 case body =>
  rintro l' pre j W1 ⟨⟨a0,a1⟩,hB⟩ hlt;obtain⟨k,hk'⟩:=qc ((j.1:Nat):Int);obtain⟨za,hza⟩:=qc ((l[j.1]?.getD 0:Nat):Int);obtain⟨n,hn⟩:=qc ((acc l pre:Nat):Int);rw[<-hza.out,<-hk'.out];rw[<-hn.out] at a0;have za0:0<=za:=by rw[hza.out];omega
  have za1:za<1000000000:=by have:=hd.get j.1;unfold bs at this;have:=hza.out;omega
  have n0:0<=n:=by rw[hn.out];omega
  have n1:n<1000000000:=by
   have h1:=q9g hd pre;have h2:bs ^ pre.length<=bs ^ 1:=Nat.pow_le_pow_right qV (by have:=hla.out;omega);have:=hn.out;unfold bs at h1 h2;omega
  have HS:Hid (n*1000000000+za=((acc l (pre ++ [j]):Nat):Int)):=by
   rw[Hid,JM,hn.out,hza.out];unfold bs;omega
  gi_wp2
  refine⟨KeepsOthers.setCell _ _ _,⟨(Below.refl w.heap.size W1).setCell (p:=⟨w.heap.size,0,none⟩) (q_r) _,Below.heap_setCell _ _ _ _ (by simp)⟩,⟨?_,by rw[World.frozen?_setCell];exact a1⟩,hB.setCell (p:=⟨w.heap.size,0,none⟩) (q_r) _⟩;rw[<-HS.out];exact World.cell?_setCell_same' _ _ _ (by rw[a0];rfl)
 case done =>
  rintro D ys W1 hD rfl ⟨⟨a0,a1⟩,hB⟩ hK;rw[q89,<-hr.out] at a0
  gi_wp2
  refine⟨by simp,.inl ⟨_,_,rfl,run_takeDeferred hK,?_⟩⟩;refine⟨.tuple #[.int .u64 r,.bool true],?_,rfl,hB.trans (belowK_b (w:=w) (q_r) W1 D _ _ (by omega) hK rfl rfl)⟩;simp[results,Tryz.results174,go_sem]
 case stop =>
  rintro D c pre W1 _ _ h _;exact h.elim
theorem YF{x:Nat}(h:Gs N w s (dg x)) (hx:ln x<=2) :
  Calls Tryz.prog 174 #[s] w (zH w (.tuple #[.int .u64 (x:Int),.bool true])):=by
 obtain⟨A1,k1,c1,rfl,hla,-,-⟩:=h.form;exact (callsIn_wide (n:=5)).1 (q36 N w A1 k1 c1 _ h (qI x) (by rw[<-hla.out];exact hx) x (by rw[Hid,qC]))
theorem wP{x:Nat}(h:Gs N w s (dg x)) (hx:2<ln x) :
  Calls Tryz.prog 174 #[s] w (zH w (.tuple #[.int .u64 0,.bool false])):=by
 obtain⟨A1,k1,c1,rfl,hla,-,-⟩:=h.form;have hk:(2:Int)<k1:=by have:=hla.out;unfold ln at hx;omega
 clear hx;go_enter Tryz.func174,Tryz.ntmps174;go_wp2;go_ret2;exact⟨rfl,Ext.refl w⟩
theorem Qk {F:Fence}{fu:Nat}{ops:Array Oper}{rest:List Oper}{o:Oper}{a:Act}{Q:Exit->Act->World->Prop}(hg:o.guard=none) (l c:Operand) (hop:o.op=Op.makeSlice 31 l c)
  (kl kc:IntKind) (L C:Int) (n:Nat) (hl:a.eval l=.int kl L) (hc:a.eval c=.int kc C) (hL:L=(n:Int)) (hC:C=(n:Int)) (hn:n*4<=281474976710656)
  (hK:∀w',Arr w' w.heap.size (List.replicate n 0)->Ext w w'->wpListIn F fu Tryz.prog ops Q rest (a.put o.dst (.slice (some ⟨w.heap.size,0,none⟩) n n)) w'):wpListIn F fu Tryz.prog ops Q (o :: rest) a w:=by
 refine wpListIn_plain hg fun K hK'=>?_
 obtain⟨w',hrun,r1,r2⟩:=QH w kl kc n hn;subst hL;subst hC;unfold Oper.wpIn;refine⟨?_,?_⟩
 ·simp[Oper.about,hop]
 ·rw[Oper.semAt_plain F _ _ (by rw[hop];intro c hc';cases hc')];simp[execOp,hop,hl,hc,hrun,Result.andThen]
  exact hK' _ _ (hK w' r1 r2)
theorem q1y {P:Program}{c:Code}{Q:Exit->Act->World->Prop}{a:Act}(h:c.wp P (fun e a w=>match e with|.normal=>Q .normal a w|_=>False) a w):c.wp P Q a w :=
 wp_mono h (by intro e a w h;cases e<;>first|exact h|exact h.elim)
theorem Gs.putObj {D:Nat}(h:Gs N w v l){o o':Obj}(hD:w.heap[D]?=some o) (ho:o.isCells=false:=by rfl):Gs N (w.putObj D o') v l:=by
 have hs:(w.putObj D o').heap.size=w.heap.size:=by simp[World.putObj]
 obtain⟨hN,A,n,c,hv,h1,h2,h3,h4,h5⟩:=h;refine⟨by rw[hs];exact hN,A,n,c,hv,h1,h2,h3,h4,fun hn=>?_⟩;obtain⟨b,off,hA,⟨hs1,hs2⟩,hc⟩:=h5 hn
 have hne:b≠D:=by
  rintro rfl;obtain⟨o2,ho2,hc2⟩:=cells_of_cell (hc 0 hn);rw[hD] at ho2;cases ho2
  rw[ho] at hc2;cases hc2
 refine⟨b,off,hA,⟨by rw[hs];exact hs1,?_⟩,fun i hi=>?_⟩
 ·rcases hs2 with hs2|⟨cs,fr,hs2⟩
  ·exact .inl hs2
  ·exact .inr ⟨cs,fr,by rw[World.putObj_heap_other hne];exact hs2⟩
 ·exact (World.cell?_of_block (World.putObj_heap_other hne)).trans (hc i hi)
def sst (l:List Nat) (d:Nat) (pre:List (Fin l.length)):List Nat×Nat:=pre.foldl (fun s j=>(s.1.set j.1 ((s.2*bs+l[j.1]?.getD 0) / d),(s.2*bs+l[j.1]?.getD 0) % d)) (List.replicate l.length 0,0)
theorem QY (l:List Nat) (d:Nat) (pre:List (Fin l.length)) (j:Fin l.length):sst l d (pre ++ [j])=((sst l d pre).1.set j.1 (((sst l d pre).2*bs+l[j.1]?.getD 0) / d),((sst l d pre).2*bs+l[j.1]?.getD 0) % d):=by simp[sst]
theorem XG(hl:Dig l) (hd:0<d) (pre:List (Fin l.length)):(sst l d pre).1.length=l.length/\(sst l d pre).2<d/\Dig (sst l d pre).1:=by
 suffices h:∀k,∀pre:List (Fin l.length),pre.length=k->(sst l d pre).1.length=l.length/\(sst l d pre).2<d/\Dig (sst l d pre).1 from h _ pre rfl
 intro k
 induction k with
 | zero=>intro pre hp;rw[List.eq_nil_of_length_eq_zero hp];exact⟨by simp[sst],hd,Dig.replicate _⟩
 | succ k ih =>
  intro pre hp;obtain⟨pre,j,rfl⟩:∃p j,pre=p ++ [j]:=⟨pre.dropLast,pre.getLast (by intro e;rw[e] at hp;simp at hp),(List.dropLast_concat_getLast _).symm⟩
  obtain⟨h1,h2,h3⟩:=ih pre (by simpa using hp);rw[QY];refine⟨by simpa using h1,Nat.mod_lt _ hd,h3.set _ _ ?_⟩;rw[Nat.div_lt_iff_lt_mul hd];have h4:=hl.get j.1;have h5:=Nat.mul_le_mul_right bs (show (sst l d pre).2+1<=d from h2);rw[Nat.add_mul,Nat.one_mul] at h5;rw[Nat.mul_comm bs d];omega
theorem q4h(hl:Dig l) (hd:0<d):∀k,k<=l.length->d*val (sst l d ((xx l.length).take k)).1+bs ^ (l.length-k)*(sst l d ((xx l.length).take k)).2=bs ^ (l.length-k)*val (l.drop (l.length-k))/\∀t,t<l.length-k->(sst l d ((xx l.length).take k)).1[t]?.getD 0=0:=by
 intro k
 induction k with
 | zero =>
  intro _;refine⟨by simp[sst,val,zt],fun t ht=>?_⟩;simp only[List.take_zero,sst,List.foldl_nil];rw[List.getElem?_replicate];split<;>rfl
 | succ k ih =>
  intro hk;obtain⟨h1,h2⟩:=ih (by omega);obtain⟨i1,i2,i3⟩:=XG hl hd ((xx l.length).take k);rw[yM (by omega),QY];obtain⟨j,hj⟩:∃j,l.length-(k+1)=j:=⟨_,rfl⟩
  have e1:l.length-k=j+1:=by omega
  rw[e1] at h1 h2;rw[hj];have e2:l.length-1-k=j:=by omega
  simp only[e2];have hjl:j<l.length:=by omega
  refine⟨?_,fun t ht=>?_⟩
  ·have h3:=kG (l:=(sst l d ((xx l.length).take k)).1) (k:=j) (by omega) (((sst l d ((xx l.length).take k)).2*bs+l[j]?.getD 0) / d);rw[h2 j (by omega)] at h3;rw[xR hjl,zW hjl];exact Zp h3 (Nat.div_add_mod _ d).symm h1
  ·rw[zL (by omega)];exact h2 t (by omega)
theorem q6P(hl:Dig l) (hd:0<d):val (sst l d (xx l.length)).1=val l / d/\(sst l d (xx l.length)).2=val l % d:=by
 have h:=(q4h hl hd l.length (q_r)).1;rw[List.take_of_length_le (by rw[kE];exact q_r),Nat.sub_self,List.drop_zero] at h;exact Zq h (XG hl hd _).2.1
theorem q17 (N:Nat) (w:World) (A1:Option Addr) (k1 c1:Nat) (l:List Nat) (h:Gs N w (.slice A1 k1 c1) l) (hd:Dig l) (hk:k1<=1000000000000) (dz:Int) (d0:1<=dz) (d1:dz<=1000000000) :
  CallsIn Fence.wide 5 Tryz.prog 189 #[.slice A1 k1 c1,.int .u32 dz] w (q9k N w .u32 (val l / dz.toNat) ((val l % dz.toNat:Nat):Int)):=by
 have hla:Hid (l.length=k1):=by obtain⟨A',n',c',hv,hl',-,-⟩:=h.form;cases hv;exact hl'
 refine callsIn_of_wp_marks Tryz.func189 rfl trivial ?_ rfl;simp only[Tryz.ntmps189,List.size_toArray,List.length_cons,List.length_nil,Nat.reduceAdd,Nat.reduceSub,Array.replicate_succ,Array.replicate_zero,List.push_toArray,List.append_toArray,List.nil_append,List.cons_append]
 gi_wp2_with (gi_at_make;refine Qk rfl (.tmp 11) (.tmp 11) rfl .i64 .i64 _ _ k1 rfl rfl rfl rfl (by omega) ?_;intro w5 hA e5;obtain⟨hE5,hsz5,C0,C1⟩:=q3Z e5;obtain⟨c0,c1'⟩:=zG C1)
 simp only[World.size_alloc] at hA;obtain⟨w6,E6,D1,U6⟩:=ex1 C1 (.slice (some ⟨w.heap.size+1+1,0,none⟩) k1 k1);rw[E6,show w5.heap.size=w6.heap.size from U6.size.symm];have hA6:Arr w6 (w.heap.size+1+1) (List.replicate k1 0):=⟨U6.blk hA.1 (by omega),hA.2⟩
 have hG6:=(h.ext hE5).upd U6 (by have:=h.le;omega) (NoU.mk C1 (by decide));have D0:=U6.blk C0 (by omega);have hE6:Ext w w6:=U6.ext hE5 (by omega);have hg6:=hA6.lt;clear E6 U6 C0 C1 c0 c1' e5 hE5 hsz5 hA;refine⟨trivial,(Wi Fence.wide _ trivial rfl _ _ _ _).mono ?_⟩;rintro e w' ⟨rfl,rfl⟩
 gi_wp2
 refine kD ?_;intro W hE hsz B0 B1;have hEW:=hE6.trans hE;obtain⟨d,hdd⟩:=qc dz.toNat;have hd0:0<d:=by have:=hdd.out;omega
 have HL:=q_h (q6P hd hd0)
 refine wpIn_rangeFunc_ownF (F:=Fence.wide) (n:=5) rfl (by decide) (gf:=193) (lb:=#[.pointer (some ⟨w6.heap.size+1,0,none⟩)]) rfl trivial (enters_of Tryz.func193 (by kernel_rfl) rfl)
  (QE Fence.wide 4 trivial rfl (by decide) W w A1 k1 c1 l h hEW (w6.heap.size+1) w.heap.size (by omega) (by omega) (q_r) (zG B1).1)
  Jh (VD (by omega) (by omega)) (Below.refl _ _) (fun _=>rfl)
  (fun pre W'=>(Arr W' (w.heap.size+1+1) (sst l d pre).1/\W'.heap[w6.heap.size]?=some (.cells #[.int .u64 (((sst l d pre).2:Nat):Int)] 118 (0,0))/\W'.heap[w.heap.size]?=some (.cells #[.int .u32 dz] 119 (0,0))/\W'.heap[w.heap.size+1]?=some (.cells #[.slice (some ⟨w.heap.size+1+1,0,none⟩) k1 k1] 31 (0,0)))/\Below w.heap.size w W')
  (fun _ _ _=>False)
  (OwnFrom.and (Own.from (fun s A B row hs hg hr=>⟨⟨(grownBy_keeps_cells hg hr hs.1.1 rfl).trans hs.1.1,hs.1.2⟩,(grownBy_keeps_cells hg hr hs.2.1 rfl).trans hs.2.1,(grownBy_keeps_cells hg hr hs.2.2.1 rfl).trans hs.2.2.1,(grownBy_keeps_cells hg hr hs.2.2.2 rfl).trans hs.2.2.2⟩) _) (ownFrom_below (q_r) (by omega)))
  (fun _ _ _ _ _ hs _ _=>hs)
  ⟨⟨by simp only[sst,List.foldl_nil];rw[hla.out];exact hA6.ext hE,by simpa[sst] using B0,hE.block D0,hE.block D1⟩,hEW⟩
  (fun j=>{ tmps:=#[.slice A1 k1 c1,.int .u32 dz,undef,.pointer (some ⟨w.heap.size,0,none⟩),.pointer (some ⟨w.heap.size+1,0,none⟩),.int .u32 0,.pointer (some ⟨w6.heap.size,0,none⟩),.int .i64 ((j.1:Nat):Int),.int .u32 ((l[j.1]?.getD 0:Nat):Int),undef,.slice A1 k1 c1,
     .int .i64 k1,.slice (some ⟨w.heap.size+1+1,0,none⟩) k1 k1,.slice A1 k1 c1,.func (.func 193) #[] #[.pointer (some ⟨w6.heap.size+1,0,none⟩)],
     .int .i64 ((j.1:Nat):Int),.int .u32 ((l[j.1]?.getD 0:Nat):Int),undef,undef,undef,undef,undef,undef,undef,undef,undef,undef,undef,undef,undef,undef,undef,undef,undef,undef,undef,undef,undef],defers:=[] }) ?assign ?body ?done ?stop
 case assign =>
  intro l' j W K hK
  dsimp only[q1i]
  obtain⟨z,hz⟩:=qc ((l[j.1]?.getD 0:Nat):Int);obtain⟨k,hk⟩:=qc ((j.1:Nat):Int);rw[<-hz.out,<-hk.out] at hK ⊢
  gi_wp2
  exact hK
 case body =>
  rintro l' pre j W1 ⟨⟨hAr,C1,C2,C3⟩,hB⟩ hlt;have hj:=j.2;obtain⟨i1,i2,i3⟩:=XG hd hd0 pre;obtain⟨k,hk'⟩:=qc j.1;obtain⟨za,hza⟩:=qc ((l[j.1]?.getD 0:Nat):Int);obtain⟨n,hn⟩:=qc (((sst l d pre).2:Nat):Int);obtain⟨oz,gz3,fz3,oz0,oz1,hoz⟩:=hAr.at_ (k:=k) (by rw[i1,hk'.out];exact hj);have hkk:(k:Int)<k1:=by have:=hk'.out;have:=hla.out;omega
  rw[<-hza.out,<-hk'.out];rw[<-hn.out] at C1;have za0:0<=za:=by rw[hza.out];omega
  have za1:za<1000000000:=by have:=hd.get j.1;unfold bs at this;have:=hza.out;omega
  have n0:0<=n:=by rw[hn.out];omega
  have n1:n+1<=dz:=by have:=hn.out;have:=hdd.out;omega
  obtain⟨q,hq⟩:=qc ((n*1000000000+za) / dz);obtain⟨m,hm⟩:=qc ((n*1000000000+za) % dz)
  have HN:Hid (((sst l d pre).2*bs+l[j.1]?.getD 0:Nat)=n*1000000000+za):=by
   rw[Hid,hn.out,hza.out];unfold bs;omega
  have HQ:Hid ((sst l d (pre ++ [j])).1=(sst l d pre).1.set k q.toNat):=by
   rw[Hid,QY,hk'.out,hq.out,<-HN.out,show dz=(d:Int) from by have:=hdd.out;omega];rfl
  have HM:Hid ((((sst l d (pre ++ [j])).2:Nat):Int)=m):=by
   rw[Hid,QY,hm.out,<-HN.out,show dz=(d:Int) from by have:=hdd.out;omega];rfl
  have hdz:¬dz=0:=by omega
  have q0:0<=q:=by rw[hq.out];exact Int.ediv_nonneg (by omega) (by omega)
  have q1:q<1000000000:=by
   rw[hq.out];refine Int.ediv_lt_of_lt_mul (by omega) ?_;omega
  have m0:0<=m:=by rw[hm.out];exact Int.emod_nonneg _ hdz
  have m1:m<dz:=by rw[hm.out];exact Int.emod_lt_of_pos _ (by omega)
  obtain⟨c0,c1'⟩:=zG C1;obtain⟨d0',d1'⟩:=zG C2;obtain⟨e0',e1'⟩:=zG C3;have hdzb:(dz == 0)=false:=by simpa using hdz
  have hq':(n*1000000000+za).tdiv dz=q:=by rw[Int.tdiv_eq_ediv_of_nonneg (by omega)];exact hq.out.symm
  have hm':(n*1000000000+za).tmod dz=m:=by rw[Int.tmod_eq_emod_of_nonneg (by omega)];exact hm.out.symm
  have x1:IntKind.u64.wrap dz=dz:=IntWalk.u64_in _ (by omega);have x2:IntKind.u64.wrap q=q:=IntWalk.u64_in _ (by omega);have x3:IntKind.u64.wrap m=m:=IntWalk.u64_in _ (by omega);have x4:IntKind.u32.wrap q=q:=IntWalk.u32_in _ (by omega);have y1:¬w6.heap.size=w.heap.size+1+1:=by omega
  have y2:¬w.heap.size+1+1=w6.heap.size:=by omega
  have HA:=q_h hAr;have K1:=q_h C1;have K2:=q_h C2;have K3:=q_h C3;have HB:=q_h hB;clear hAr C1 C2 C3 hB hG6 hA6 D0 D1 B0 B1 hEW hE6 hE i1 i2 i3 oz0 oz1 hoz hlt hj hsz h
  have fin:ownPostK (Qd w.heap.size (w6.heap.size+1)) (fun pre W'=>(Arr W' (w.heap.size+1+1) (sst l d pre).1/\W'.heap[w6.heap.size]?=some (.cells #[.int .u64 (((sst l d pre).2:Nat):Int)] 118 (0,0))/\W'.heap[w.heap.size]?=some (.cells #[.int .u32 dz] 119 (0,0))/\W'.heap[w.heap.size+1]?=some (.cells #[.slice (some ⟨w.heap.size+1+1,0,none⟩) k1 k1] 31 (0,0)))/\Below w.heap.size w W') (fun _ _ _=>False) (pre ++ [j]) W1 .normal { tmps:=#[],defers:=[] } ((W1.drew.setCell ⟨w.heap.size+1+1,k,none⟩ (.int .u32 q)).setCell ⟨w6.heap.size,0,none⟩ (.int .u64 m)):=by
   obtain⟨w7,E7,U7⟩:∃w7,W1.drew.setCell ⟨w.heap.size+1+1,k,none⟩ (.int .u32 q)=w7/\Upd (w.heap.size+1+1) W1.drew w7:=⟨_,rfl,(Upd.refl _ _).set _ _⟩
   have hA7:Arr w7 (w.heap.size+1+1) (sst l d (pre ++ [j])).1:=by rw[HQ.out,<-E7];exact Arr.set (w:=W1.drew) HA.out k q0 (by omega)
   rw[E7];obtain⟨w8,E8,K8,U8⟩:=ex1 (U7.blk (show W1.drew.heap[w6.heap.size]?=_ from K1.out) (by omega)) (.int .u64 m);rw[E8]
   have hB7:Below w.heap.size W1 w8:=by
    have e1:Ext w W1:=HB.out;have b7:Below w.heap.size W1 w7:=⟨U7.os,U7.tape,U7.output,by rw[U7.size];exact q_r,fun k hk=>U7.block k (by omega)⟩
    exact⟨U8.os.trans b7.os,U8.tape.trans b7.tape,U8.output.trans b7.output,by rw[U8.size];exact b7.size,fun k hk=>(U8.block k (by omega)).trans (b7.block k hk)⟩
   refine⟨?_,⟨hB7,?_⟩,⟨⟨U8.blk hA7.1 (by omega),hA7.2⟩,by rw[HM.out];exact K8,U8.blk (U7.blk K2.out (by omega)) (by omega),U8.blk (U7.blk K3.out (by omega)) (by omega)⟩,HB.out.trans hB7⟩
   ·rw[<-E8,<-E7];exact (KeepsOthers.drew _).trans ((KeepsOthers.setCell _ _ _).trans (KeepsOthers.setCell _ _ _))
   ·rw[U8.block _ (by omega),U7.block _ (by omega)];rfl
  gi_wp2
  refine Vh (by kernel_rfl) (by kernel_rfl) (by rintro⟨a,w,h⟩;exact h) ?_;refine wpAny_take (i:=1) (v:=?v1) rfl (by kernel_rfl) (by kernel_rfl) (by kernel_rfl) (fun _ _ _ h=>h) (Or.inl ⟨by rfl,?y1⟩) ?r1
  case y1=>(intro w;go_simp;try with_reducible rfl)
  refine wpAny_take (i:=2) (v:=?v2) rfl (by kernel_rfl) (by kernel_rfl) (by kernel_rfl) (fun _ _ _ h=>h) (Or.inl ⟨by rfl,?y2⟩) ?r2
  case y2=>(intro w;go_simp;try with_reducible rfl)
  refine wpAny_take (i:=7) (v:=?v3) rfl (by kernel_rfl) (by kernel_rfl) (by kernel_rfl) (fun _ _ _ h=>h) (Or.inl ⟨by rfl,?y3⟩) ?r3
  case y3=>(intro w;go_simp;try with_reducible rfl)
  refine wpAny_ready (rs:=[0,3,8]) (by kernel_rfl) (by simp) (AllReady.cons rfl (fun K hK=>?s4_0) (AllReady.cons rfl (fun K hK=>?s4_3) (AllReady.cons rfl (fun K hK=>?s4_8) AllReady.nil)))
  case s4_0 =>
   go_simp;refine hK _ _ ?_;clear hK K;refine wpAny_ready (rs:=[3,8]) (by kernel_rfl) (by simp) (AllReady.cons rfl (fun K hK=>?s5_3) (AllReady.cons rfl (fun K hK=>?s5_8) AllReady.nil))
   case s5_3 =>
    go_simp;refine hK _ _ ?_;clear hK K;refine wpAny_take (i:=4) (v:=?v6) rfl (by kernel_rfl) (by kernel_rfl) (by kernel_rfl) (fun _ _ _ h=>h) (Or.inl ⟨by rfl,?y6⟩) ?r6
    case y6=>(intro w;go_simp;try with_reducible rfl)
    refine wpAny_take (i:=5) (v:=?v7) rfl (by kernel_rfl) (by kernel_rfl) (by kernel_rfl) (fun _ _ _ h=>h) (Or.inl ⟨by rfl,?y7⟩) ?r7
    case y7=>(intro w;go_simp;try with_reducible rfl)
    refine wpAny_take (i:=6) (v:=?v8) rfl (by kernel_rfl) (by kernel_rfl) (by kernel_rfl) (fun _ _ _ h=>h) (Or.inl ⟨by rfl,?y8⟩) ?r8
    case y8=>(intro w;go_simp;try with_reducible rfl)
    refine wpAny_take (i:=11) (v:=?v9) rfl (by kernel_rfl) (by kernel_rfl) (by kernel_rfl) (fun _ _ _ h=>h) (Or.inl ⟨by rfl,?y9⟩) ?r9
    case y9=>(intro w;go_simp;try with_reducible rfl)
    refine wpAny_ready (rs:=[8,12]) (by kernel_rfl) (by simp) (AllReady.cons rfl (fun K hK=>?s10_8) (AllReady.cons rfl (fun K hK=>?s10_12) AllReady.nil))
    case s10_8 =>
     go_simp;refine hK _ _ ?_;clear hK K;refine wpAny_take (i:=9) (v:=?v11) rfl (by kernel_rfl) (by kernel_rfl) (by kernel_rfl) (fun _ _ _ h=>h) (Or.inl ⟨by rfl,?y11⟩) ?r11
     case y11=>(intro w;go_simp;try with_reducible rfl)
     refine wpAny_take (i:=10) (v:=?v12) rfl (by kernel_rfl) (by kernel_rfl) (by kernel_rfl) (fun _ _ _ h=>h) (Or.inl ⟨by rfl,?y12⟩) ?r12
     case y12=>(intro w;go_simp;try with_reducible rfl)
     refine wpAny_ready (rs:=[12]) (by kernel_rfl) (by simp) (AllReady.cons rfl (fun K hK=>?s13_12) AllReady.nil)
     case s13_12 =>
      go_simp;refine hK _ _ ?_;clear hK K;refine wpAny_ready (rs:=[13]) (by kernel_rfl) (by simp) (AllReady.cons rfl (fun K hK=>?s14_13) AllReady.nil)
      case s14_13 =>
       go_simp;refine hK _ _ ?_;clear hK K;refine wpAny_done (by kernel_rfl) ?_ _
       gi_wp2
       exact fin
    case s10_12 =>
     go_simp;refine hK _ _ ?_;clear hK K;refine wpAny_ready (rs:=[8]) (by kernel_rfl) (by simp) (AllReady.cons rfl (fun K hK=>?s15_8) AllReady.nil)
     case s15_8 =>
      go_simp;refine hK _ _ ?_;clear hK K;refine wpAny_take (i:=9) (v:=?v16) rfl (by kernel_rfl) (by kernel_rfl) (by kernel_rfl) (fun _ _ _ h=>h) (Or.inl ⟨by rfl,?y16⟩) ?r16
      case y16=>(intro w;go_simp;try with_reducible rfl)
      refine wpAny_take (i:=10) (v:=?v17) rfl (by kernel_rfl) (by kernel_rfl) (by kernel_rfl) (fun _ _ _ h=>h) (Or.inl ⟨by rfl,?y17⟩) ?r17
      case y17=>(intro w;go_simp;try with_reducible rfl)
      refine wpAny_ready (rs:=[13]) (by kernel_rfl) (by simp) (AllReady.cons rfl (fun K hK=>?s18_13) AllReady.nil)
      case s18_13 =>
       go_simp;refine hK _ _ ?_;clear hK K;refine wpAny_done (by kernel_rfl) ?_ _
       gi_wp2
       exact fin
   case s5_8 =>
    go_simp;refine hK _ _ ?_;clear hK K;refine wpAny_take (i:=9) (v:=?v19) rfl (by kernel_rfl) (by kernel_rfl) (by kernel_rfl) (fun _ _ _ h=>h) (Or.inl ⟨by rfl,?y19⟩) ?r19
    case y19=>(intro w;go_simp;try with_reducible rfl)
    refine wpAny_take (i:=10) (v:=?v20) rfl (by kernel_rfl) (by kernel_rfl) (by kernel_rfl) (fun _ _ _ h=>h) (Or.inl ⟨by rfl,?y20⟩) ?r20
    case y20=>(intro w;go_simp;try with_reducible rfl)
    refine wpAny_ready (rs:=[3]) (by kernel_rfl) (by simp) (AllReady.cons rfl (fun K hK=>?s21_3) AllReady.nil)
    case s21_3 =>
     go_simp;refine hK _ _ ?_;clear hK K;refine wpAny_take (i:=4) (v:=?v22) rfl (by kernel_rfl) (by kernel_rfl) (by kernel_rfl) (fun _ _ _ h=>h) (Or.inl ⟨by rfl,?y22⟩) ?r22
     case y22=>(intro w;go_simp;try with_reducible rfl)
     refine wpAny_take (i:=5) (v:=?v23) rfl (by kernel_rfl) (by kernel_rfl) (by kernel_rfl) (fun _ _ _ h=>h) (Or.inl ⟨by rfl,?y23⟩) ?r23
     case y23=>(intro w;go_simp;try with_reducible rfl)
     refine wpAny_take (i:=6) (v:=?v24) rfl (by kernel_rfl) (by kernel_rfl) (by kernel_rfl) (fun _ _ _ h=>h) (Or.inl ⟨by rfl,?y24⟩) ?r24
     case y24=>(intro w;go_simp;try with_reducible rfl)
     refine wpAny_take (i:=11) (v:=?v25) rfl (by kernel_rfl) (by kernel_rfl) (by kernel_rfl) (fun _ _ _ h=>h) (Or.inl ⟨by rfl,?y25⟩) ?r25
     case y25=>(intro w;go_simp;try with_reducible rfl)
     refine wpAny_ready (rs:=[12]) (by kernel_rfl) (by simp) (AllReady.cons rfl (fun K hK=>?s26_12) AllReady.nil)
     case s26_12 =>
      go_simp;refine hK _ _ ?_;clear hK K;refine wpAny_ready (rs:=[13]) (by kernel_rfl) (by simp) (AllReady.cons rfl (fun K hK=>?s27_13) AllReady.nil)
      case s27_13 =>
       go_simp;refine hK _ _ ?_;clear hK K;refine wpAny_done (by kernel_rfl) ?_ _
       gi_wp2
       exact fin
  case s4_3 =>
   go_simp;refine hK _ _ ?_;clear hK K;refine wpAny_take (i:=4) (v:=?v28) rfl (by kernel_rfl) (by kernel_rfl) (by kernel_rfl) (fun _ _ _ h=>h) (Or.inl ⟨by rfl,?y28⟩) ?r28
   case y28=>(intro w;go_simp;try with_reducible rfl)
   refine wpAny_take (i:=5) (v:=?v29) rfl (by kernel_rfl) (by kernel_rfl) (by kernel_rfl) (fun _ _ _ h=>h) (Or.inl ⟨by rfl,?y29⟩) ?r29
   case y29=>(intro w;go_simp;try with_reducible rfl)
   refine wpAny_take (i:=6) (v:=?v30) rfl (by kernel_rfl) (by kernel_rfl) (by kernel_rfl) (fun _ _ _ h=>h) (Or.inl ⟨by rfl,?y30⟩) ?r30
   case y30=>(intro w;go_simp;try with_reducible rfl)
   refine wpAny_ready (rs:=[0,8]) (by kernel_rfl) (by simp) (AllReady.cons rfl (fun K hK=>?s31_0) (AllReady.cons rfl (fun K hK=>?s31_8) AllReady.nil))
   case s31_0 =>
    go_simp;refine hK _ _ ?_;clear hK K;refine wpAny_take (i:=11) (v:=?v32) rfl (by kernel_rfl) (by kernel_rfl) (by kernel_rfl) (fun _ _ _ h=>h) (Or.inl ⟨by rfl,?y32⟩) ?r32
    case y32=>(intro w;go_simp;try with_reducible rfl)
    refine wpAny_ready (rs:=[8,12]) (by kernel_rfl) (by simp) (AllReady.cons rfl (fun K hK=>?s33_8) (AllReady.cons rfl (fun K hK=>?s33_12) AllReady.nil))
    case s33_8 =>
     go_simp;refine hK _ _ ?_;clear hK K;refine wpAny_take (i:=9) (v:=?v34) rfl (by kernel_rfl) (by kernel_rfl) (by kernel_rfl) (fun _ _ _ h=>h) (Or.inl ⟨by rfl,?y34⟩) ?r34
     case y34=>(intro w;go_simp;try with_reducible rfl)
     refine wpAny_take (i:=10) (v:=?v35) rfl (by kernel_rfl) (by kernel_rfl) (by kernel_rfl) (fun _ _ _ h=>h) (Or.inl ⟨by rfl,?y35⟩) ?r35
     case y35=>(intro w;go_simp;try with_reducible rfl)
     refine wpAny_ready (rs:=[12]) (by kernel_rfl) (by simp) (AllReady.cons rfl (fun K hK=>?s36_12) AllReady.nil)
     case s36_12 =>
      go_simp;refine hK _ _ ?_;clear hK K;refine wpAny_ready (rs:=[13]) (by kernel_rfl) (by simp) (AllReady.cons rfl (fun K hK=>?s37_13) AllReady.nil)
      case s37_13 =>
       go_simp;refine hK _ _ ?_;clear hK K;refine wpAny_done (by kernel_rfl) ?_ _
       gi_wp2
       exact fin
    case s33_12 =>
     go_simp;refine hK _ _ ?_;clear hK K;refine wpAny_ready (rs:=[8]) (by kernel_rfl) (by simp) (AllReady.cons rfl (fun K hK=>?s38_8) AllReady.nil)
     case s38_8 =>
      go_simp;refine hK _ _ ?_;clear hK K;refine wpAny_take (i:=9) (v:=?v39) rfl (by kernel_rfl) (by kernel_rfl) (by kernel_rfl) (fun _ _ _ h=>h) (Or.inl ⟨by rfl,?y39⟩) ?r39
      case y39=>(intro w;go_simp;try with_reducible rfl)
      refine wpAny_take (i:=10) (v:=?v40) rfl (by kernel_rfl) (by kernel_rfl) (by kernel_rfl) (fun _ _ _ h=>h) (Or.inl ⟨by rfl,?y40⟩) ?r40
      case y40=>(intro w;go_simp;try with_reducible rfl)
      refine wpAny_ready (rs:=[13]) (by kernel_rfl) (by simp) (AllReady.cons rfl (fun K hK=>?s41_13) AllReady.nil)
      case s41_13 =>
       go_simp;refine hK _ _ ?_;clear hK K;refine wpAny_done (by kernel_rfl) ?_ _
       gi_wp2
       exact fin
   case s31_8 =>
    go_simp;refine hK _ _ ?_;clear hK K;refine wpAny_take (i:=9) (v:=?v42) rfl (by kernel_rfl) (by kernel_rfl) (by kernel_rfl) (fun _ _ _ h=>h) (Or.inl ⟨by rfl,?y42⟩) ?r42
    case y42=>(intro w;go_simp;try with_reducible rfl)
    refine wpAny_take (i:=10) (v:=?v43) rfl (by kernel_rfl) (by kernel_rfl) (by kernel_rfl) (fun _ _ _ h=>h) (Or.inl ⟨by rfl,?y43⟩) ?r43
    case y43=>(intro w;go_simp;try with_reducible rfl)
    refine wpAny_ready (rs:=[0]) (by kernel_rfl) (by simp) (AllReady.cons rfl (fun K hK=>?s44_0) AllReady.nil)
    case s44_0 =>
     go_simp;refine hK _ _ ?_;clear hK K;refine wpAny_take (i:=11) (v:=?v45) rfl (by kernel_rfl) (by kernel_rfl) (by kernel_rfl) (fun _ _ _ h=>h) (Or.inl ⟨by rfl,?y45⟩) ?r45
     case y45=>(intro w;go_simp;try with_reducible rfl)
     refine wpAny_ready (rs:=[12]) (by kernel_rfl) (by simp) (AllReady.cons rfl (fun K hK=>?s46_12) AllReady.nil)
     case s46_12 =>
      go_simp;refine hK _ _ ?_;clear hK K;refine wpAny_ready (rs:=[13]) (by kernel_rfl) (by simp) (AllReady.cons rfl (fun K hK=>?s47_13) AllReady.nil)
      case s47_13 =>
       go_simp;refine hK _ _ ?_;clear hK K;refine wpAny_done (by kernel_rfl) ?_ _
       gi_wp2
       exact fin
  case s4_8 =>
   go_simp;refine hK _ _ ?_;clear hK K;refine wpAny_take (i:=9) (v:=?v48) rfl (by kernel_rfl) (by kernel_rfl) (by kernel_rfl) (fun _ _ _ h=>h) (Or.inl ⟨by rfl,?y48⟩) ?r48
   case y48=>(intro w;go_simp;try with_reducible rfl)
   refine wpAny_take (i:=10) (v:=?v49) rfl (by kernel_rfl) (by kernel_rfl) (by kernel_rfl) (fun _ _ _ h=>h) (Or.inl ⟨by rfl,?y49⟩) ?r49
   case y49=>(intro w;go_simp;try with_reducible rfl)
   refine wpAny_ready (rs:=[0,3]) (by kernel_rfl) (by simp) (AllReady.cons rfl (fun K hK=>?s50_0) (AllReady.cons rfl (fun K hK=>?s50_3) AllReady.nil))
   case s50_0 =>
    go_simp;refine hK _ _ ?_;clear hK K;refine wpAny_ready (rs:=[3]) (by kernel_rfl) (by simp) (AllReady.cons rfl (fun K hK=>?s51_3) AllReady.nil)
    case s51_3 =>
     go_simp;refine hK _ _ ?_;clear hK K;refine wpAny_take (i:=4) (v:=?v52) rfl (by kernel_rfl) (by kernel_rfl) (by kernel_rfl) (fun _ _ _ h=>h) (Or.inl ⟨by rfl,?y52⟩) ?r52
     case y52=>(intro w;go_simp;try with_reducible rfl)
     refine wpAny_take (i:=5) (v:=?v53) rfl (by kernel_rfl) (by kernel_rfl) (by kernel_rfl) (fun _ _ _ h=>h) (Or.inl ⟨by rfl,?y53⟩) ?r53
     case y53=>(intro w;go_simp;try with_reducible rfl)
     refine wpAny_take (i:=6) (v:=?v54) rfl (by kernel_rfl) (by kernel_rfl) (by kernel_rfl) (fun _ _ _ h=>h) (Or.inl ⟨by rfl,?y54⟩) ?r54
     case y54=>(intro w;go_simp;try with_reducible rfl)
     refine wpAny_take (i:=11) (v:=?v55) rfl (by kernel_rfl) (by kernel_rfl) (by kernel_rfl) (fun _ _ _ h=>h) (Or.inl ⟨by rfl,?y55⟩) ?r55
     case y55=>(intro w;go_simp;try with_reducible rfl)
     refine wpAny_ready (rs:=[12]) (by kernel_rfl) (by simp) (AllReady.cons rfl (fun K hK=>?s56_12) AllReady.nil)
     case s56_12 =>
      go_simp;refine hK _ _ ?_;clear hK K;refine wpAny_ready (rs:=[13]) (by kernel_rfl) (by simp) (AllReady.cons rfl (fun K hK=>?s57_13) AllReady.nil)
      case s57_13 =>
       go_simp;refine hK _ _ ?_;clear hK K;refine wpAny_done (by kernel_rfl) ?_ _
       gi_wp2
       exact fin
   case s50_3 =>
    go_simp;refine hK _ _ ?_;clear hK K;refine wpAny_take (i:=4) (v:=?v58) rfl (by kernel_rfl) (by kernel_rfl) (by kernel_rfl) (fun _ _ _ h=>h) (Or.inl ⟨by rfl,?y58⟩) ?r58
    case y58=>(intro w;go_simp;try with_reducible rfl)
    refine wpAny_take (i:=5) (v:=?v59) rfl (by kernel_rfl) (by kernel_rfl) (by kernel_rfl) (fun _ _ _ h=>h) (Or.inl ⟨by rfl,?y59⟩) ?r59
    case y59=>(intro w;go_simp;try with_reducible rfl)
    refine wpAny_take (i:=6) (v:=?v60) rfl (by kernel_rfl) (by kernel_rfl) (by kernel_rfl) (fun _ _ _ h=>h) (Or.inl ⟨by rfl,?y60⟩) ?r60
    case y60=>(intro w;go_simp;try with_reducible rfl)
    refine wpAny_ready (rs:=[0]) (by kernel_rfl) (by simp) (AllReady.cons rfl (fun K hK=>?s61_0) AllReady.nil)
    case s61_0 =>
     go_simp;refine hK _ _ ?_;clear hK K;refine wpAny_take (i:=11) (v:=?v62) rfl (by kernel_rfl) (by kernel_rfl) (by kernel_rfl) (fun _ _ _ h=>h) (Or.inl ⟨by rfl,?y62⟩) ?r62
     case y62=>(intro w;go_simp;try with_reducible rfl)
     refine wpAny_ready (rs:=[12]) (by kernel_rfl) (by simp) (AllReady.cons rfl (fun K hK=>?s63_12) AllReady.nil)
     case s63_12 =>
      go_simp;refine hK _ _ ?_;clear hK K;refine wpAny_ready (rs:=[13]) (by kernel_rfl) (by simp) (AllReady.cons rfl (fun K hK=>?s64_13) AllReady.nil)
      case s64_13 =>
       go_simp;refine hK _ _ ?_;clear hK K;refine wpAny_done (by kernel_rfl) ?_ _
       gi_wp2
       exact fin
 case done =>
  rintro D ys W1 hD rfl ⟨⟨hAr,C1,C2,C3⟩,hB⟩ hK;rw[HL.out.2] at C1;obtain⟨i1,i2,i3⟩:=XG hd hd0 (xx l.length);have hEx:Ext w W1:=hB;have hG:=hAr.gsN (N:=N) (q_l h.le hEx.size) (n:=k1) (c:=k1) (by rw[i1,hla.out]) rfl (by unfold maxLen;omega);obtain⟨r,hr⟩:=qc ((val l % d:Nat):Int);rw[<-hr.out] at C1;obtain⟨c0,c1'⟩:=zG C1;obtain⟨e0',e1'⟩:=zG C3;have r0:0<=r:=by rw[hr.out];omega
  have r1:r<1000000000:=by have:=Nat.mod_lt (val l) hd0;have:=hdd.out;have:=hr.out;omega
  have x1:IntKind.u32.wrap r=r:=IntWalk.u32_in _ (by omega)
  gi_wp2
  refine wpIn_wide.2 (q1y ?_)
  go_region_with (go_at_call 188;refine (QM (by exact hG) i3).mono ?_;rintro e w' ⟨⟨k9,rfl,hG9⟩,rfl⟩)
  all_goals
   dsimp only
   gi_wp2
   obtain⟨w8,E8,K8,U8⟩:=ex1 C3 (.slice (some ⟨w.heap.size+1+1,0,none⟩) k9 k1);rw[E8];have hK':w8.drew.heap[D]?=some (.deferred (some [])):=U8.blk hK (by omega);have hx:w8.drew.cell? ⟨w.heap.size+1,0,none⟩=_:=(zG K8).1;have hE8:Ext w w8.drew:=(U8.ext hEx (by omega)).drew
   have hG8:Gs N w8.drew (.slice (some ⟨w.heap.size+1+1,0,none⟩) k9 k1) (dg (val l / d)):=by
    rw[<-HL.out.1];exact (Gs.upd (w:=W1) hG9 U8 (by have:=h.le;omega) (NoU.mk C3 (by decide))).drew
   have hG9':Gs N (w8.drew.putObj D (.deferred none)) (.slice (some ⟨w.heap.size+1+1,0,none⟩) k9 k1) (dg (val l / d)):=hG8.putObj hK';have hc5:=cell_kept hx (grownBy_putObj' _ D (.deferred none)) (fun r e=>by cases e;exact⟨_,hK',rfl⟩);refine⟨by simp[Act.put],.inl ⟨_,_,rfl,run_takeDeferred hK',?_⟩⟩;refine⟨.tuple #[.slice (some ⟨w.heap.size+1+1,0,none⟩) k9 k1,.int .u32 r],?_,⟨_,_,_,by rw[hr.out,hdd.out],by rw[<-hdd.out];exact hG9',hE8.below.trans (belowK_b (w:=w) (q_r) _ D _ _ (by omega) hK' rfl rfl)⟩⟩;simp[results,Tryz.results189,go_sem,hc5,Act.put]
 case stop =>
  rintro D c pre W1 _ _ h _;exact h.elim
theorem q38(h:Gs N w s l) (hd:Dig l) (hk:l.length<=1000000000000) (dz:Int) (d0:1<=dz) (d1:dz<=1000000000) :
  Calls Tryz.prog 189 #[s,.int .u32 dz] w (q9k N w .u32 (val l / dz.toNat) ((val l % dz.toNat:Nat):Int)):=by
 obtain⟨A1,k1,c1,rfl,hla,-,-⟩:=h.form;exact (callsIn_wide (n:=5)).1 (q17 N w A1 k1 c1 l h hd (by rw[<-hla.out];exact hk) dz d0 d1)
end Go.Proofs.YtflhlobiipejeaaGreat
