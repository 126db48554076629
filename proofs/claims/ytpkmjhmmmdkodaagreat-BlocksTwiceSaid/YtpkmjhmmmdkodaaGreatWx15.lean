import Derived.Test.YtpkmjhmmmdkodaaGreatWx14
import Derived.MapKept
import Derived.ChangeKeysEq
import Derived.DeepKeys3
set_option linter.all false
set_option maxHeartbeats 8000000
namespace Go.Proofs.YtpkmjhmmmdkodaaGreat
open Go.RowKit
variable {w w':World} {N n lo hi k g i c b j:Nat} {v:Value} {l:List Nat} {q:Rat} {R:Raw} {A:Option Addr}
theorem Xc(h:l.length<=1):val l=l[0]?.getD 0:=by
 rcases l with _|⟨x,l⟩
 ·rfl
 ·have h2:l=[]:=List.eq_nil_of_length_eq_zero (by simpa using h);subst h2;simp[val]
theorem q4h(h:kG R=true):R.l1.length<=1/\R.l2.length<=1:=by
 unfold kG at h;simp only[Bool.and_eq_true,decide_eq_true_eq] at h;exact⟨h.1.1.1,h.1.1.2⟩
theorem q4i(h:kG (raw q)=true):Ht 17 q:=by
 unfold kG raw at h;simp only[Bool.and_eq_true,decide_eq_true_eq] at h;obtain⟨⟨⟨h1,h2⟩,h3⟩,h4⟩:=h;rw[<-Xc h1,qC] at h3;rw[<-Xc h2,qC] at h4;have h5:(2:Nat) ^ 17=131072:=by decide
 exact⟨by omega,by omega⟩
theorem wH(h:kG R=true):jD R/\RawS R:=by
 obtain⟨h1,h2⟩:=q4h h;exact⟨⟨by omega,by omega⟩,⟨by omega,by omega⟩⟩
def zl (R:Raw):Rat:=Rat.divInt (yl R.b1 R.l1) (yl R.b2 R.l2)
theorem xy (q:Rat):zl (raw q)=q:=by
 unfold zl raw;have h4:yl false (dg q.den)=(q.den:Int):=by unfold yl;rw[qC];simp
 simp only[ZU,h4];exact Rat.num_divInt_den q
theorem vG(h:okR R=true):R=raw (zl R):=by
 obtain⟨q,rfl⟩:=q3y h;rw[xy]
structure Bkk where
 r:Int
 c:Int
 m:Nat
 L:Nat->Nat
 A:Nat->Nat->Raw
structure Sys where
 ns:Nat
 z:Nat->Int
 nb:Nat
 b:Nat->Bkk
 k:Nat
 R:Nat->Raw
def q58 (N lo hi:Nat) (w:World) (b o:Nat) (B:Bkk):Prop :=
 w.cell? ⟨b,o,none⟩=some (.int .i64 B.r)/\w.cell? ⟨b,o+1,none⟩=some (.int .i64 B.c)/\∃(A:Option Addr) (c:Nat),w.cell? ⟨b,o+2,none⟩=some (.slice A B.m c)/\MtR N lo hi w (.slice A B.m c) B.m B.L B.A
theorem q58.ext{o:Nat}{B:Bkk}(h:q58 N lo hi w b o B) (e:Ext w w'):q58 N lo hi w' b o B:=by
 obtain⟨h0,h1,A,c,h2,h3⟩:=h;exact⟨e.cell h0,e.cell h1,A,c,e.cell h2,h3.ext e⟩
def q2R (N lo hi:Nat) (w:World) (v:Value) (n:Nat) (B:Nat->Bkk):Prop :=
 ∃(A:Option Addr) (c:Nat),v=.slice A n c/\n<=c/\c<=maxLen/\(0<n->∃b off,A=some ⟨b,off,none⟩/\∀i,i<n->q58 N lo hi w b (off+i*3) (B i))
theorem q2R.ext{B:Nat->Bkk}(h:q2R N lo hi w v n B) (e:Ext w w'):q2R N lo hi w' v n B:=by
 obtain⟨A,c,hv,h1,h2,h3⟩:=h;refine⟨A,c,hv,h1,h2,fun h0=>?_⟩;obtain⟨b,off,hA,hc⟩:=h3 h0;exact⟨b,off,hA,fun i hi=>(hc i hi).ext e⟩
theorem q2R.addr{B:Nat->Bkk}(h:q2R N lo hi w (.slice A n c) n B) (hn:0<n):∃b off,A=some ⟨b,off,none⟩/\∀i,i<n->q58 N lo hi w b (off+i*3) (B i):=by
 obtain⟨A',c',hv,h1,h2,h3⟩:=h;injection hv with e1 e2 e3
 subst e1;exact h3 hn
def Qn (N lo hi:Nat) (w:World) (v:Value) (Z:Sys):Prop :=
 ∃v1 v2 v3,v=.agg #[v1,v2,v3]/\IzV N lo hi w v1 Z.ns Z.z/\q2R N lo hi w v2 Z.nb Z.b/\LsR N lo hi w v3 Z.k Z.R
theorem Qn.ext{Z:Sys}(h:Qn N lo hi w v Z) (e:Ext w w'):Qn N lo hi w' v Z:=by
 obtain⟨v1,v2,v3,hv,h1,h2,h3⟩:=h;exact⟨v1,v2,v3,hv,h1.ext e,h2.ext e,h3.ext e⟩
theorem Qn.parts{Z:Sys}(h:Qn N lo hi w v Z):∃(A1:Option Addr) (c1:Nat) (A2:Option Addr) (c2:Nat) (A3:Option Addr) (c3:Nat),v=.agg #[.slice A1 Z.ns c1,.slice A2 Z.nb c2,.slice A3 Z.k c3] /\
  IzV N lo hi w (.slice A1 Z.ns c1) Z.ns Z.z/\q2R N lo hi w (.slice A2 Z.nb c2) Z.nb Z.b/\LsR N lo hi w (.slice A3 Z.k c3) Z.k Z.R/\Z.ns<=9223372036854775807/\Z.nb<=9223372036854775807/\Z.k<=9223372036854775807:=by
 obtain⟨v1,v2,v3,rfl,h1,h2,h3⟩:=h;obtain⟨A1,c1,rfl,a1,a2⟩:=h1.form;have h2':=h2;obtain⟨A2,c2,rfl,b1,b2,-⟩:=h2';obtain⟨A3,c3,rfl,d1,d2⟩:=h3.form;unfold maxLen at a2 b2 d2;exact⟨A1,c1,A2,c2,A3,c3,rfl,h1,h2,h3,by omega,by omega,by omega⟩
def q3W (f:Nat->Int) (n:Nat):Int:=((List.range n).find? (fun i=>f i != 0)).elim 0 f
theorem vT {f:Nat->Int}(h:∀i,i<n->f i=0):q3W f n=0:=by
 unfold q3W;rw[List.find?_eq_none.2 (fun i hi=>by simp[h i (List.mem_range.1 hi)])]
 rfl
theorem XR {f:Nat->Int}(hi:i<n) (h:∀j,j<i->f j=0) (h0:f i≠0):q3W f n=f i:=by
 unfold q3W
 have:(List.range n).find? (fun i=>f i != 0)=some i:=by
  rw[List.find?_range_eq_some];refine⟨by simpa using h0,List.mem_range.2 hi,fun j hj=>by simp[h j hj]⟩
 rw[this]
 rfl
theorem q3V {f:Nat->Int}(h:q3W f n=0):∀i,i<n->f i=0:=by
 intro i hi
 induction i using Nat.strongRecOn with
 | _ i ih =>
  by_cases h0:f i=0
  ·exact h0
  ·rw[XR hi (fun j hj=>ih j hj (by omega)) h0] at h;exact h
def Ve (B:Bkk):Bool:=allB B.m (fun i=>allB (B.L i) (fun j=>okR (B.A i j)))
def ZF (Z:Sys):Bool:=allB Z.nb (fun i=>Ve (Z.b i))&&allB Z.k (fun i=>okR (Z.R i))
def xZ (z:Nat->Int):Nat->Int
 | 0=>0
 | n+1=>xZ z n+z n
def sz1 (z:Int):Bool:=decide (1<=z)&&decide (z<=12)
def Z4 (Z:Sys):Bool:=(decide (1<=Z.ns)&&decide (Z.ns<=12))&&(allB Z.ns (fun i=>sz1 (Z.z i))&&decide (xZ Z.z Z.ns<=64))
theorem QW {z:Nat->Int}:∀n,(∀i,i<n->sz1 (z i)=true)->(n:Int)<=xZ z n/\xZ z n<=12*(n:Int)
 | 0,_=>by unfold xZ;omega
 | n+1,h=>by
  have h1:=QW n (fun i hi=>h i (by omega));have h2:=h n (by omega);unfold sz1 at h2;rw[Bool.and_eq_true,decide_eq_true_eq,decide_eq_true_eq] at h2;unfold xZ;omega
def q2Y (B:Bkk):Bool:=allB B.m (fun i=>allB i (fun j=>decide (zl (B.A i j)=zl (B.A j i))))
def wW (z:Nat->Int) (B:Bkk):Bool:=decide ((B.m:Int)=z B.r.toNat)&&(allB B.m (fun i=>decide ((B.L i:Int)=z B.c.toNat))&&(!(decide (B.r=B.c))||q2Y B))
def Vj (B C:Bkk):Bool:=decide (B.r<C.r)||(decide (B.r=C.r)&&decide (B.c<C.c))
def bkC (Z:Sys) (i:Nat):Int :=
 if (Z.b i).c<0\/(Z.b i).r<(Z.b i).c\/(Z.ns:Int)<=(Z.b i).r then 2 else if wW Z.z (Z.b i)=false then 4 else if 0<i/\Vj (Z.b (i-1)) (Z.b i)=false then 5 else 0
def yN (Z:Sys):Int :=
 if ZF Z=false then 1 else if Z4 Z=false then 3 else if q3W (bkC Z) Z.nb≠0 then q3W (bkC Z) Z.nb else if (Z.k:Int)=xZ Z.z Z.ns then 0 else 4
theorem Vo:Tryz.prog.underlying 69=some (.array 2 3):=by kernel_rfl
theorem q4F:Tryz.prog.underlying 104=some (.map 69 42):=by kernel_rfl
theorem q7x:Tryz.prog.cellsOf 3=1:=by kernel_rfl
def kyV (r c:Int):Value:=.agg #[.int .i64 r,.int .i64 c]
theorem Kq (w:World) (r c r' c':Int):(Op.equal 69 (kyV r c) (kyV r' c')).run Tryz.prog w=.ok (decide (r=r'/\c=c')) w:=by
 have u3:=Tryz.underlying3
 obtain⟨i,hi⟩:∃i,Tryz.prog.info? 3=some i:=by
  cases h:Tryz.prog.info? 3 with
  | some i=>exact⟨i,rfl⟩
  | none =>
   have:(Tryz.prog.info? 3).isSome=true:=by kernel_rfl
   rw[h] at this;cases this
 unfold kyV Op.equal;rw[show Op.maxDepth=9999+1 from rfl,run_equalIn_array w 9999 _ _ Vo hi,q7x];simp only[List.range,List.range.loop,Op.eqItems];go_simp
 by_cases h1:r=r'<;>by_cases h2:c=c'<;>simp[h1,h2]
theorem q7w:Tryz.prog.cellsOf 69=2:=by kernel_rfl
def Yo (r:Int):Prop:=0<=r/\r<1000
theorem q1Q {r:Int}(h:Yo r):(Lit.int .i64 r).wf=true:=by
 obtain⟨h1,h2⟩:=h
 show (decide (IntKind.i64.min<=r)&&decide (r<=IntKind.i64.max))=true
 have e1:IntKind.i64.min = -9223372036854775808:=by decide
 have e2:IntKind.i64.max=9223372036854775807:=by decide
 rw[e1,e2,Bool.and_eq_true,decide_eq_true_eq,decide_eq_true_eq];omega
theorem q3M {r c:Int}(hr:Yo r) (hc:Yo c):Tryz.prog.keyLits 3 69 (kyV r c).cells.toList=some [.int .i64 r,.int .i64 c]:=by
 have u3:=Tryz.underlying3;have w1:=q1Q hr;have w2:=q1Q hc
 have h0:∀q:Int,Yo q->Tryz.prog.keyLits 2 3 [.int .i64 q]=some [.int .i64 q]:=fun q hq=>by
  unfold Program.keyLits;rw[u3];simp[q1Q hq]
 unfold Program.keyLits;rw[Vo];simp only[kyV,Value.cells,q7w,q7x];simp[List.range,List.range.loop,h0 r hr,h0 c hc]
set_option maxRecDepth 100000 in
theorem Kr (w:World) (em:Bool){r c:Int}(hr:Yo r) (hc:Yo c):(Instr.checkKey em 10000 69 (kyV r c)).run Tryz.prog w=.ok () w :=
 run_checkKey_deep em 9997 3 69 (by kernel_rfl) w 3 (kyV r c) _ (by kernel_rfl) (q3M hr hc)
def idx:List ((Int×Int)×Value)->Int->Int->Option Nat
 | [],_,_=>none
 | p :: l,r,c=>if r=p.1.1/\c=p.1.2 then some 0 else (idx l r c).map (· + 1)
def lkp:List ((Int×Int)×Value)->Int->Int->Option Value
 | [],_,_=>none
 | p :: l,r,c=>if r=p.1.1/\c=p.1.2 then some p.2 else lkp l r c
def put (v:Value):List ((Int×Int)×Value)->Int->Int->List ((Int×Int)×Value)
 | [],r,c=>[((r,c),v)]
 | p :: l,r,c=>if r=p.1.1/\c=p.1.2 then ((r,c),v) :: l else p :: put v l r c
theorem XE (v:Value):∀(l:List ((Int×Int)×Value)) (r c r' c':Int),lkp (put v l r c) r' c'=if r'=r/\c'=c then some v else lkp l r' c'
 | [],r,c,r',c'=>rfl
 | p :: l,r,c,r',c'=>by
  unfold put
  by_cases h:r=p.1.1/\c=p.1.2
  ·rw[if_pos h];unfold lkp
   by_cases h':r'=r/\c'=c
   ·rw[if_pos h',if_pos h']
   ·rw[if_neg h',if_neg h',if_neg (by rw[<-h.1,<-h.2];exact h')]
  ·rw[if_neg h];unfold lkp
   by_cases h':r'=p.1.1/\c'=p.1.2
   ·rw[if_pos h',if_neg (by rintro⟨e1,e2⟩;exact h ⟨by rw[<-e1];exact h'.1,by rw[<-e2];exact h'.2⟩),if_pos h']
   ·rw[if_neg h',if_neg h'];exact XE v l r c r' c'
theorem XK {l:List ((Int×Int)×Value)}{r c:Int}(v:Value) (h:idx l r c=none):lkp l r c=none/\put v l r c=l ++ [((r,c),v)]:=by
 induction l with
 | nil=>exact⟨rfl,rfl⟩
 | cons p l ih =>
  unfold idx at h;unfold lkp put
  by_cases h9:r=p.1.1/\c=p.1.2
  ·rw[if_pos h9] at h;cases h
  ·rw[if_neg h9] at h ⊢;rw[if_neg h9];have:=ih (by simpa using h);exact⟨this.1,by rw[this.2];rfl⟩
theorem VR {l:List ((Int×Int)×Value)}{r c:Int}(v:Value) (h:idx l r c=some j):∃u,l[j]?=some ((r,c),u)/\lkp l r c=some u/\put v l r c=l.set j ((r,c),v):=by
 induction l generalizing j with
 | nil=>cases h
 | cons p l ih =>
  unfold idx at h;unfold lkp put
  by_cases h9:r=p.1.1/\c=p.1.2
  ·rw[if_pos h9] at h ⊢;rw[if_pos h9];obtain rfl:0=j:=by simpa using h
   obtain⟨⟨a,b⟩,u⟩:=p;obtain⟨rfl,rfl⟩:=h9;exact⟨u,rfl,rfl,rfl⟩
  ·rw[if_neg h9] at h ⊢;rw[if_neg h9];simp only[Option.map_eq_some_iff] at h;obtain⟨k,hk,rfl⟩:=h;obtain⟨u,h1,h2,h3⟩:=ih hk;exact⟨u,by simpa using h1,h2,by rw[h3];rfl⟩
def q2U (es:List MapEntry) (l:List ((Int×Int)×Value)):Prop:=es.map (fun e=>(e.key,e.val))=l.map (fun p=>(kyV p.1.1 p.1.2,p.2))
theorem Za (w:World) (r c:Int):∀(es:List MapEntry) (l:List ((Int×Int)×Value)) (i:Nat),q2U es l->(Instr.findAsking 69 (kyV r c) es i).run Tryz.prog w=.ok (match idx l r c,lkp l r c with|some j,some v=>some (i+j,v)|_,_=>none) w
 | [],[],i,_=>by unfold Instr.findAsking;rfl
 | [],_ :: _,_,h=>by unfold q2U at h;simp at h
 | _ :: _,[],_,h=>by unfold q2U at h;simp at h
 | e :: es,p :: l,i,h=>by
  unfold q2U at h;simp only[List.map_cons,List.cons.injEq,Prod.mk.injEq] at h;obtain⟨⟨h1,h2⟩,h3⟩:=h;have ih:=Za w r c es l (i+1) h3;unfold Instr.findAsking;rw[Sem.run_bind,h1,Kq,Result.andThen_ok];unfold idx lkp
  by_cases h9:r=p.1.1/\c=p.1.2
  ·rw[if_pos h9,if_pos h9,q_t h9];simp[h2]
  ·rw[if_neg h9,if_neg h9,q_f h9];simp only[Bool.false_eq_true,if_false];rw[ih];cases h5:idx l r c with
   | none=>simp
   | some j =>
    cases h6:lkp l r c with
    | none=>simp
    | some v=>simp only[Option.map_some];rw[show i+1+j=i+(j+1) by omega]
def MpE (w:World) (g:Nat) (l:List ((Int×Int)×Value)):Prop:=∃es clock,w.heap[g]?=some (.map es clock)/\q2U es.toList l
theorem MpE.ext{l:List ((Int×Int)×Value)}(h:MpE w g l) (e:Ext w w'):MpE w' g l:=by
 obtain⟨es,k,h1,h2⟩:=h;exact⟨es,k,e.block h1,h2⟩
theorem yJ{l:List ((Int×Int)×Value)}(h:MpE w g l){r c:Int}(hr:Yo r) (hc:Yo c):(Instr.lookup 104 (.map (some g)) (kyV r c) false).run Tryz.prog w=.ok ((lkp l r c).getD (.slice none 0 0)) w:=by
 obtain⟨es,k,h1,h2⟩:=h;unfold Instr.lookup;simp only[Sem.run_bind,run_underlying q4F,Result.andThen_ok,run_getObj_map w g es k h1,Sem.run_pure,Kr w _ hr hc];rw[run_findKey_eq w (by rw[Vo]) (kyV r c) es.toList,Za w r c _ l 0 h2];cases h5:idx l r c with
 | none =>
  rw[(XK (.slice none 0 0) h5).1];have hz:(zeroValue 42).run Tryz.prog w=.ok (.slice none 0 0) w:=by kernel_rfl
  simp[hz]
 | some j =>
  obtain⟨u,-,h6,-⟩:=VR (.slice none 0 0) h5;rw[h6]
  simp
theorem q69 {es:List MapEntry}{l:List ((Int×Int)×Value)}(h:q2U es l){p:(Int×Int)×Value}(hj:l[j]?=some p):∃e,es[j]?=some e/\e.key=kyV p.1.1 p.1.2/\e.val=p.2:=by
 have h1:(es.map fun e=>(e.key,e.val))[j]?=(l.map fun p=>(kyV p.1.1 p.1.2,p.2))[j]?:=by rw[show es.map (fun e=>(e.key,e.val))=_ from h]
 rw[List.getElem?_map,List.getElem?_map,hj] at h1;cases h2:es[j]? with
 | none=>rw[h2] at h1;simp at h1
 | some e =>
  rw[h2] at h1;simp only[Option.map_some,Option.some.injEq,Prod.mk.injEq] at h1;exact⟨e,rfl,h1.1,h1.2⟩
theorem q46 {es:List MapEntry}{l:List ((Int×Int)×Value)}(h:q2U es l) (j:Nat) (r c:Int) (v:Value):q2U (es.modify j fun e=>{ e with key:=kyV r c,val:=v }) (l.set j ((r,c),v)):=by
 unfold q2U;refine List.ext_getElem? fun i=>?_
 have h1:(es.map fun e=>(e.key,e.val))[i]?=(l.map fun p=>(kyV p.1.1 p.1.2,p.2))[i]?:=by rw[show es.map (fun e=>(e.key,e.val))=_ from h]
 rw[List.getElem?_map,List.getElem?_map] at h1;rw[List.getElem?_map,List.getElem?_map,List.getElem?_modify,List.getElem?_set]
 by_cases hij:j=i
 ·subst hij;rw[if_pos rfl];cases h2:es[j]? with
  | none =>
   rw[h2] at h1
   have h3:l[j]?=none:=by
    cases h4:l[j]? with
    | none=>rfl
    | some p=>rw[h4] at h1;simp at h1
   rw[if_neg (by rw[List.getElem?_eq_none_iff] at h3;omega)]
   rfl
  | some e =>
   rw[h2] at h1
   have h3:j<l.length:=by
    cases h4:l[j]? with
    | none=>rw[h4] at h1;simp at h1
    | some p=>exact (List.getElem?_eq_some_iff.1 h4).1
   rw[if_pos h3]
   simp
 ·rw[if_neg hij];rw[show (fun e=>if j=i then ({ e with key:=kyV r c,val:=v }:MapEntry) else e)=id by funext e;rw[if_neg hij];rfl];simpa using h1
theorem VV{o o':Obj}(h:w.heap[g]?=some o):(w.heap.setIfInBounds g o')[g]?=some o':=by
 have hg:g<w.heap.size:=by
  rcases Nat.lt_or_ge g w.heap.size with h1|h1
  ·exact h1
  ·rw[Array.getElem?_eq_none h1] at h;cases h
 rw[Array.getElem?_setIfInBounds,if_pos rfl,if_pos hg]
theorem q2o{es:Array MapEntry}(h:w.heap[g]?=some (.map es k)) (o:Obj):Chg g (g+1) w { w with heap:=w.heap.setIfInBounds g o } :=
 ⟨rfl,rfl,rfl,by simp,fun i _ hd=>by
  have hne:¬g=i:=by
   rintro rfl
   rcases hd with h1|h1|⟨cs,fr,h1⟩
   ·omega
   ·omega
   ·rw[h] at h1;cases h1
  show (w.heap.setIfInBounds g o)[i]?=w.heap[i]?
  rw[Array.getElem?_setIfInBounds,if_neg hne]⟩
theorem q5p (n:Nat) (r c:Int):Instr.sameBits (n+2) (kyV r c) (kyV r c)=true:=by
 unfold kyV;simp[Instr.sameBits]
theorem yI{l:List ((Int×Int)×Value)}(h:MpE w g l){r c:Int}(hr:Yo r) (hc:Yo c) (v:Value):∃w',(Instr.mapUpdate 104 (.map (some g)) (kyV r c) v).run Tryz.prog w=.ok () w'/\MpE w' g (put v l r c)/\Chg g (g+1) w w':=by
 obtain⟨es,k,h1,h2⟩:=h;unfold Instr.mapUpdate;simp only[Sem.run_bind,run_underlying q4F,Result.andThen_ok,run_getObj_map w g es k h1,Sem.run_pure,Kr w _ hr hc];rw[run_findKey_eq w (by rw[Vo]) (kyV r c) es.toList,Za w r c _ l 0 h2];cases h5:idx l r c with
 | none =>
  rw[(XK v h5).1,(XK v h5).2];simp only[Result.andThen_ok];rw[MapKept.run_setObj_map _ h1]
  exact⟨_,rfl,⟨_,_,VV h1,by
   unfold q2U at h2 ⊢;rw[Array.toList_push,List.map_append,List.map_append,h2]
   rfl⟩,q2o h1 _⟩
 | some j =>
  obtain⟨u,h7,h6,h8⟩:=VR v h5;rw[h6,h8];obtain⟨e,h9,h10,-⟩:=q69 h2 h7
  have h11:((es[0+j]?).map (·.key)).getD (kyV r c)=kyV r c:=by
   rw[Nat.zero_add,<-Array.getElem?_toList,h9];exact h10
  simp only[Result.andThen_ok,Sem.run_bind];rw[h11]
  have h12:(Instr.keyThatStays (kyV r c) (kyV r c)).run Tryz.prog w=.ok (kyV r c) w:=by
   unfold Instr.keyThatStays;rw[show (10000:Nat)=9998+2 from rfl,q5p,if_pos rfl]
   rfl
  rw[h12,Result.andThen_ok,MapKept.run_setObj_map _ h1,Nat.zero_add]
  exact⟨_,rfl,⟨_,_,VV h1,by
   rw[Array.toList_modify]
   exact q46 h2 j r c v⟩,q2o h1 _⟩
end Go.Proofs.YtpkmjhmmmdkodaaGreat
