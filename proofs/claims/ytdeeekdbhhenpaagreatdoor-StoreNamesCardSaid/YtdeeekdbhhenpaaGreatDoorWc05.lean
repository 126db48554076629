import Derived.Test.YtdeeekdbhhenpaaGreatDoorWc04
import Derived.Deep.CutBlock
import Derived.Deep.AppendLies
import Derived.Shelf.Bits.Mul64
import Derived.Laws.IdiomCopy
import Derived.Laws.BitsLemmas
import Derived.Shelf.Strconv.Itoa3
import Derived.Shelf.Bytes.BufferK
import Derived.Shelf.Bytes.Bytes
import Derived.Shelf.Bytes.Len
import Derived.Shelf.Bytes.String
import Derived.Lib.SmallJoins
import Derived.Deep.Upon
import GoSem.Op.String
import Derived.MapKept
set_option linter.all false
set_option maxHeartbeats 8000000
set_option maxRecDepth 100000
namespace Go.Proofs.YtdeeekdbhhenpaaGreatDoor
variable {w w':World} {N n lo hi k g i m base c b j d:Nat} {v:Value} {z:Int} {A:Option Addr}
section
open Go.RowKit
theorem xZ.upd(h:xZ N w v z) (u:Upd g w w') (hN:N<=g) (ht:NoU w g):xZ N w' v z:=by
 obtain⟨s,hv,hs⟩:=h;exact⟨s,hv,hs.upd u hN ht⟩
theorem xk{row:Option Nat}(h:w.grownBy w' row)(hg:∀k,row=some k->k=g) (ht:NoU w g):Chg g (g+1) w w':=by
 have hb:=(Below.refl w.heap.size w)
 refine⟨h.os,h.tape,h.output,h.size,fun k hk hc=>h.block k hk (fun e=>?_)⟩;have:=hg k e.symm;subst this
 rcases hc with hc|hc|⟨cs,fr,hc⟩
 ·omega
 ·omega
 ·exact ht cs fr hc
theorem jg {p:Nat->Prop}(h:∀j,j<k->p j) (hk:p k):∀j,j<k+1->p j:=by
 intro j hj
 rcases Nat.lt_or_ge j k with h1|h1
 ·exact h j h1
 ·obtain rfl:j=k:=by omega
  exact hk
end
section
open Go.RowKit
theorem XE (b o j:Nat):(⟨b,o,none⟩:Addr).add j=⟨b,o+j,none⟩:=by
 unfold Addr.add;split
 ·rename_i e;subst e;rfl
 ·rfl
section
variable {N lo hi:Nat}{w w':World}{v:Value}{m n:Nat}{A:q_m}
end
end
section
open Go.RowKit
theorem qU {F:World->Prop}{o0:Obj}(h:∀w1,Ext w w1->w.heap.size+1<=w1.heap.size->w1.heap[w.heap.size]?=some o0->F w1):F (w.alloc o0).drew:=by
 refine h _ ((Ext.refl w).alloc _).drew ?_ (heap_alloc_new w o0);have:=(qo (F:=fun W=>w.heap.size+1<=W.heap.size) (w:=w) (o0:=o0) (fun _ _ h _=>h))
 exact this
def xU (n:Nat) (p:Nat->Bool):Bool:=(List.range n).any p
theorem zI{p:Nat->Bool}(hi:i<n) (h:p i=true):xU n p=true:=by
 unfold xU;rw[List.any_eq_true];exact⟨i,List.mem_range.2 hi,h⟩
theorem qW{p:Nat->Bool}:xU n p=false↔∀i,i<n->p i=false:=by simp[xU]
def QE (w:World) (r:Bool) (e:Ending) (w':World):Prop:=∃z:Int,e=.returned (.int .i64 z)/\Hid (r=decide (0<=z))/\Ext w w'
instance:Inhabited Vl:=⟨.int 0⟩
def Emp (v:Value):Prop:=∃A c,v=.slice A 0 c
mutual
def VlV (nn:Bool) (N:Nat) (w:World):Vl->Value->Prop
 | .int z,v=>∃a b c d,v=.agg #[.int .i64 0,a,b,c,d]/\xZ N w (.agg #[a,b]) z/\Emp c/\Emp d
 | .txt l,v=>∃b c d,v=.agg #[.int .i64 1,.bool false,b,c,d]/\Emp b/\(ByV w c l/\(nn=true->∃a k,c=.slice (some a) l.length k/\a.block<w.heap.size))/\Emp d
 | .lst vs,v=>∃b c A k,v=.agg #[.int .i64 2,.bool false,b,c,.slice A vs.length k]/\Emp b/\Emp c/\vs.length<=k/\k<=maxLen/\(0<vs.length->∃g off,A=some ⟨g,off,none⟩/\VlL nn N w vs g off)
def VlL (nn:Bool) (N:Nat) (w:World):List Vl->Nat->Nat->Prop
 | [],_,_=>True
 | v :: r,g,off=>(∃c0 c1 c2 c3 c4,w.cell? ⟨g,off,none⟩=some c0/\w.cell? ⟨g,off+1,none⟩=some c1/\w.cell? ⟨g,off+2,none⟩=some c2/\w.cell? ⟨g,off+3,none⟩=some c3/\w.cell? ⟨g,off+4,none⟩=some c4/\VlV nn N w v (.agg #[c0,c1,c2,c3,c4]))/\VlL nn N w r g (off+5)
end
mutual
theorem VlV.ext {nn:Bool}(e:Ext w w'):∀ {V:Vl}{v:Value},VlV nn N w V v->VlV nn N w' V v
 | .int z,v,h=>by
  unfold VlV at h ⊢;obtain⟨a,b,c,d,h0,h1,h2,h3⟩:=h;exact⟨a,b,c,d,h0,h1.ext e,h2,h3⟩
 | .txt l,v,h=>by
  unfold VlV at h ⊢;obtain⟨b,c,d,h0,h1,h2,h3⟩:=h;exact⟨b,c,d,h0,h1,⟨h2.1.ext e,fun hn=>by obtain⟨a,k,h8,h9⟩:=h2.2 hn;exact⟨a,k,h8,Nat.lt_of_lt_of_le h9 e.size⟩⟩,h3⟩
 | .lst vs,v,h=>by
  unfold VlV at h ⊢;obtain⟨b,c,A,k,h0,h1,h2,h3,h4,h5⟩:=h;refine⟨b,c,A,k,h0,h1,h2,h3,h4,fun h=>?_⟩;obtain⟨g,off,hA,hl⟩:=h5 h;exact⟨g,off,hA,VlL.ext e hl⟩
theorem VlL.ext {nn:Bool}(e:Ext w w'):∀ {vs:List Vl}{g off:Nat},VlL nn N w vs g off->VlL nn N w' vs g off
 | [],_,_,_=>by unfold VlL;trivial
 | v :: r,g,off,h=>by
  unfold VlL at h ⊢;obtain⟨⟨c0,c1,c2,c3,c4,h0,h1,h2,h3,h4,h5⟩,h6⟩:=h;exact⟨⟨c0,c1,c2,c3,c4,e.cell h0,e.cell h1,e.cell h2,e.cell h3,e.cell h4,VlV.ext e h5⟩,VlL.ext e h6⟩
end
theorem VlL.get {nn:Bool}:∀ {vs:List Vl}{g off:Nat},VlL nn N w vs g off->∀i,i<vs.length->∃c0 c1 c2 c3 c4,w.cell? ⟨g,off+i*5,none⟩=some c0/\w.cell? ⟨g,off+i*5+1,none⟩=some c1/\w.cell? ⟨g,off+i*5+2,none⟩=some c2/\w.cell? ⟨g,off+i*5+3,none⟩=some c3/\w.cell? ⟨g,off+i*5+4,none⟩=some c4/\VlV nn N w (vs[i]?.getD default) (.agg #[c0,c1,c2,c3,c4])
 | [],_,_,_,i,hi=>absurd hi (Nat.not_lt_zero i)
 | v :: r,g,off,h,0,_=>by
  unfold VlL at h;exact h.1
 | v :: r,g,off,h,i+1,hi=>by
  unfold VlL at h;have h1:=VlL.get h.2 i (by simpa using hi);rw[show off+5+i*5=off+(i+1)*5 by omega] at h1;exact h1
def LvV (nn:Bool) (N:Nat) (w:World) (v:Value) (n:Nat) (W:Nat->Vl):Prop:=∃(A:Option Addr) (k:Nat),v=.slice A n k/\n<=k/\k<=maxLen/\(0<n->∃g off,A=some ⟨g,off,none⟩/\∀i,i<n->∃c0 c1 c2 c3 c4,w.cell? ⟨g,off+i*5,none⟩=some c0/\w.cell? ⟨g,off+i*5+1,none⟩=some c1/\w.cell? ⟨g,off+i*5+2,none⟩=some c2/\w.cell? ⟨g,off+i*5+3,none⟩=some c3/\w.cell? ⟨g,off+i*5+4,none⟩=some c4/\VlV nn N w (W i) (.agg #[c0,c1,c2,c3,c4]))
theorem LvV.form {nn:Bool}{W:Nat->Vl}(h:LvV nn N w v n W):∃A c,v=.slice A n c/\n<=c/\c<=maxLen:=by
 obtain⟨A,k,h0,h1,h2,-⟩:=h;exact⟨A,k,h0,h1,h2⟩
theorem LvV.addr {nn:Bool}{W:Nat->Vl}(h:LvV nn N w (.slice A n k) n W) (hn:0<n):∃g off,A=some ⟨g,off,none⟩/\∀i,i<n->∃c0 c1 c2 c3 c4,w.cell? ⟨g,off+i*5,none⟩=some c0/\w.cell? ⟨g,off+i*5+1,none⟩=some c1/\w.cell? ⟨g,off+i*5+2,none⟩=some c2/\w.cell? ⟨g,off+i*5+3,none⟩=some c3/\w.cell? ⟨g,off+i*5+4,none⟩=some c4/\VlV nn N w (W i) (.agg #[c0,c1,c2,c3,c4]):=by
 obtain⟨A',k',h0,h1,h2,h3⟩:=h;injection h0 with hA
 subst hA;exact h3 hn
theorem LvV.ext {nn:Bool}{W:Nat->Vl}(h:LvV nn N w v n W) (e:Ext w w'):LvV nn N w' v n W:=by
 obtain⟨A,k,h0,h1,h2,h3⟩:=h;refine⟨A,k,h0,h1,h2,fun hn=>?_⟩;obtain⟨g,off,hA,hx⟩:=h3 hn;refine⟨g,off,hA,fun i hi=>?_⟩;obtain⟨c0,c1,c2,c3,c4,k0,k1,k2,k3,k4,k5⟩:=hx i hi;exact⟨c0,c1,c2,c3,c4,e.cell k0,e.cell k1,e.cell k2,e.cell k3,e.cell k4,VlV.ext e k5⟩
theorem VlV.lst {nn:Bool}{vs:List Vl}(h:VlV nn N w (.lst vs) v):∃b c u,v=.agg #[.int .i64 2,.bool false,b,c,u]/\Emp b/\Emp c/\LvV nn N w u vs.length (fun i=>vs[i]?.getD default):=by
 unfold VlV at h;obtain⟨b,c,A,k,h0,h1,h2,h3,h4,h5⟩:=h;refine⟨b,c,_,h0,h1,h2,A,k,rfl,h3,h4,fun hn=>?_⟩;obtain⟨g,off,hA,hl⟩:=h5 hn;exact⟨g,off,hA,fun i hi=>VlL.get hl i hi⟩
theorem Zj {lo hi:Nat}{nn:Bool}{W:Nat->Vl}(h:LvV nn N w v n W) (gd:Nat) (g:Nat->Bool)
  (hf:∀i,i<n->∀w' u,Ext w w'->VlV nn N w' (W i) u->Calls Tryz.prog 211 #[u,.pointer (some ⟨gd,0,none⟩)] w' (qR w' (.bool (g i)))) :
  Calls Tryz.prog 239 #[v,.func (.func 211) #[] #[.pointer (some ⟨gd,0,none⟩)]] w (QE w (xU n g)):=by
 obtain⟨r,hr⟩:=qc (xU n g);rw[<-hr.out];obtain⟨A,c,rfl,hnc,hcm⟩:=h.form;unfold maxLen at hcm;have hI:=h;have HF:=q_h hf;clear h hf;go_enter Tryz.func239,Tryz.ntmps239;go_wp2
 go_loopw [8] (fun i wr=>∃k:Nat,k<=n/\i=.int .i64 k/\Hid (∀j,j<k->g j=false)/\Ext w wr) (fun i _=>n-(intOf i).toNat)
 case atStart=>exact⟨0,Nat.zero_le _,rfl,fun j hj=>absurd hj (by omega),Ext.refl w⟩
 case round =>
  obtain⟨k,hk,rfl,HA,hE⟩:=hrel
  by_cases hlt:k<n
  ·obtain⟨b,off,rfl,hx⟩:=(hI.ext hE).addr (by omega);obtain⟨c0,c1,c2,c3,c4,k0,k1,k2,k3,k4,hv⟩:=hx k hlt;clear hx;go_wp2_with (go_at_call 211;refine q_o ?_);refine (HF.out k hlt _ _ hE hv).mono ?_;rintro e w1 ⟨rfl,e1⟩;replace hE:=hE.trans e1;obtain⟨o,ho⟩:=qc (g k);rw[<-ho.out];cases o with
   | false =>
    go_wp2;go_roundw
    case rel=>exact⟨k+1,by omega,by go_num,jg (p:=fun j=>g j=false) HA.out ho.out.symm,hE⟩
    case measure=>simp[intOf];omega
   | true =>
    have HT:Hid (r=true):=by rw[Hid,hr.out];exact zI hlt ho.out.symm
    go_wp2;go_ret;exact⟨_,rfl,by rw[Hid,HT.out];symm;simp,hE⟩
  ·have HT:Hid (r=false):=by rw[Hid,hr.out];exact qW.2 (fun j hj=>HA.out j (by omega))
   go_wp2;go_ret;exact⟨_,rfl,by rw[Hid,HT.out];rfl,hE⟩
theorem X6 {lo hi:Nat}{nn:Bool}{W:Nat->Vl}(h:LvV nn N w v n W) (gd:Nat) (g:Nat->Bool)
  (hf:∀i,i<n->∀w' u,Ext w w'->VlV nn N w' (W i) u->Calls Tryz.prog 211 #[u,.pointer (some ⟨gd,0,none⟩)] w' (qR w' (.bool (g i)))) :
  Calls Tryz.prog 210 #[v,.func (.func 211) #[] #[.pointer (some ⟨gd,0,none⟩)]] w (qR w (.bool (xU n g))):=by
 obtain⟨r,hr⟩:=qc (xU n g);rw[<-hr.out];obtain⟨A,c,rfl,hnc,hcm⟩:=h.form;have hI:=h;have HF:=q_h hf;clear h hf;go_enter Tryz.func210,Tryz.ntmps210;go_wp2_with (go_at_call 239;refine q_o ?_);refine (Zj (lo:=0) (hi:=0) hI gd g HF.out).mono ?_;rintro e w1 ⟨z,rfl,hz,e1⟩;rw[<-hr.out] at hz;go_wp2;go_ret;exact⟨qJ hz.out.symm,e1⟩
mutual
def szV:Vl->Nat
 | .int _=>1
 | .txt _=>1
 | .lst l=>szL l+1
def szL:List Vl->Nat
 | []=>0
 | v :: r=>szV v+szL r
end
theorem yw:∀(l:List Vl) (i:Nat),i<l.length->szV (l[i]?.getD default)<=szL l
 | [],i,h=>absurd h (Nat.not_lt_zero i)
 | v :: r,0,_=>by unfold szL;show szV v<=_;omega
 | v :: r,i+1,h=>by
  unfold szL;have:=yw r i (by simpa using h)
  show szV (r[i]?.getD default)<=_
  omega
theorem yI:∀(l:List Vl) (d:Nat),QW l<=d↔∀i,i<l.length->kL (l[i]?.getD default)<=d
 | [],d=>by unfold QW;exact⟨fun _ i h=>absurd h (Nat.not_lt_zero i),fun _=>Nat.zero_le _⟩
 | v :: r,d=>by
  unfold QW
  constructor
  ·intro h i hi;cases i with
   | zero=>show kL v<=d;omega
   | succ i=>exact (yI r d).1 (by omega) i (by simpa using hi)
  ·intro h;have h0:kL v<=d:=h 0 (by simp);have h1:=(yI r d).2 (fun i hi=>h (i+1) (by simpa using hi));omega
theorem Jz (l:List Vl) (d:Nat):(!xU l.length fun i=>!decide (kL (l[i]?.getD default)<=d))=decide (QW l<=d):=by
 rw[Bool.eq_iff_iff,Bool.not_eq_true',qW,decide_eq_true_eq,yI]
 constructor
 ·intro h i hi;have:=h i hi;simpa using this
 ·intro h i hi;simpa using h i hi
theorem qC{t:TypeId}{x0 x1 x2 x3 x4:Value}(h:w.heap[g]?=some (.cells #[x0,x1,x2,x3,x4] t (0,0))):w.cell? ⟨g,0,none⟩=some x0/\w.cell? ⟨g,1,none⟩=some x1/\w.cell? ⟨g,2,none⟩=some x2/\w.cell? ⟨g,3,none⟩=some x3/\w.cell? ⟨g,4,none⟩=some x4:=by
 refine⟨?_,?_,?_,?_,?_⟩<;>rw[qh h]<;>rfl
theorem ZY {nn:Bool}{gd:Nat}{V:Vl}{u:Value}{t:TypeId}(hd:w.heap[gd]?=some (.cells #[.int .i64 ((d+1:Nat):Int)] t (0,0))) (hb:d<1000) (hu:VlV nn N w V u)
  (H:∀w',Ext w w'->Calls Tryz.prog 177 #[u,.int .i64 (d:Int)] w' (qR w' (.bool (decide (kL V<=d))))) :
  Calls Tryz.prog 211 #[u,.pointer (some ⟨gd,0,none⟩)] w (qR w (.bool (!decide (kL V<=d)))):=by
 obtain⟨r,hr⟩:=qc (decide (kL V<=d));rw[<-hr.out] at H ⊢;have HH:=q_h H
 obtain⟨c0,c1,c2,c3,c4,rfl⟩:∃c0 c1 c2 c3 c4,u=.agg #[c0,c1,c2,c3,c4]:=by
  cases V with
  | int z=>unfold VlV at hu;obtain⟨a,b,c,d,h0,-⟩:=hu;exact⟨_,_,_,_,_,h0⟩
  | txt l=>unfold VlV at hu;obtain⟨b,c,d,h0,-⟩:=hu;exact⟨_,_,_,_,_,h0⟩
  | lst l=>unfold VlV at hu;obtain⟨b,c,A,k,h0,-⟩:=hu;exact⟨_,_,_,_,_,h0⟩
 clear hu H hr;have q0:w.cell? ⟨gd,0,none⟩=some (.int .i64 ((d+1:Nat):Int)):=qh hd 0;have t1:IntKind.i64.wrap (((d+1:Nat):Int)-1)=(d:Int):=by rw[wrp (by omega) (by omega)];omega
 obtain⟨D,hD⟩:=qc (((d+1:Nat):Int));rw[<-hD.out] at q0 t1;go_enter Tryz.func211,Tryz.ntmps211;go_upto_region 1 with (fail);refine qo ?_;intro W hE hsz B0;replace q0:=hE.cell q0;obtain⟨p0,p1,p2,p3,p4⟩:=qC B0;go_wp2_with (go_at_call 177;refine q_o ?_);refine (HH.out _ hE).mono ?_;rintro e w1 ⟨rfl,e1⟩;go_wp2
 first|go_ret|skip
 exact⟨rfl,hE.trans e1⟩
theorem Qw {nn:Bool}{N:Nat}:∀(m:Nat) (V:Vl),szV V<=m->∀(w:World) (v:Value) (d:Nat),d<1000->VlV nn N w V v ->
  Calls Tryz.prog 177 #[v,.int .i64 (d:Int)] w (qR w (.bool (decide (kL V<=d))))
 | 0,V,hm,_,_,_,_,_=>by cases V<;>(unfold szV at hm;omega)
 | m+1,V,hm,w,v,d,hb,hv=>by
  cases V with
  | int z =>
   have hr:decide (kL (.int z)<=d)=true:=q_t (by unfold kL;omega);rw[hr];unfold VlV at hv;obtain⟨a,b,c,e,rfl,hI,⟨A1,k1,rfl⟩,⟨A2,k2,rfl⟩⟩:=hv;obtain⟨nb,A,n,k,hab,hnb,hG,-⟩:=hI.parts;simp only[Value.agg.injEq,Array.mk.injEq,List.cons.injEq,and_true] at hab;obtain⟨rfl,rfl⟩:=hab;have HG:=q_h hG;have HOK:Hid (okB nb (dg z.natAbs)=true):=by rw[hnb.out];exact vk z
   clear hI hG hnb;go_enter Tryz.func177,Tryz.ntmps177;go_upto_region 1 with (fail);refine zk ?_;intro W hE hsz B0 B1;obtain⟨p0,p1,p2,p3,p4⟩:=qC B0;cases nb
   ·go_wp2_with (go_at_call 209;refine q_o ?_);refine (wP (HG.out.ext hE)).mono ?_;rintro e w1 ⟨rfl,e1⟩;rw[HOK.out];go_wp2
    first|go_ret|skip
    exact⟨rfl,hE.trans e1⟩
   ·go_wp2_with (go_at_call 209;refine q_o ?_);refine (wP (HG.out.ext hE)).mono ?_;rintro e w1 ⟨rfl,e1⟩;rw[HOK.out];go_wp2
    first|go_ret|skip
    exact⟨rfl,hE.trans e1⟩
  | txt l =>
   have hr:decide (kL (.txt l)<=d)=true:=q_t (by unfold kL;omega);rw[hr];unfold VlV at hv;obtain⟨b,c,e,rfl,⟨A1,k1,rfl⟩,-,⟨A2,k2,rfl⟩⟩:=hv;go_enter Tryz.func177,Tryz.ntmps177;go_upto_region 1 with (fail);refine zk ?_;intro W hE hsz B0 B1;obtain⟨p0,p1,p2,p3,p4⟩:=qC B0;go_wp2
   first|go_ret|skip
   exact⟨rfl,hE⟩
  | lst vs =>
   obtain⟨b,c,u,rfl,⟨A1,k1,rfl⟩,⟨A2,k2,rfl⟩,hL⟩:=hv.lst;have HL:=q_h hL;obtain⟨A3,k3,rfl,-⟩:=hL.form;clear hL hv;cases d with
   | zero =>
    have hr:decide (kL (.lst vs)<=0)=false:=q_f (by unfold kL;omega);rw[hr];go_enter Tryz.func177,Tryz.ntmps177;go_upto_region 1 with (fail);refine zk ?_;intro W hE hsz B0 B1;obtain⟨p0,p1,p2,p3,p4⟩:=qC B0;have q0:W.cell? ⟨w.heap.size+1,0,none⟩=some (.int .i64 0):=qh B1 0;go_wp2
    first|go_ret|skip
    exact⟨rfl,hE⟩
   | succ d =>
    have hr:decide (kL (.lst vs)<=d+1)=decide (QW vs<=d):=by
     unfold kL;exact decide_eq_decide.2 (by omega)
    rw[hr,<-Jz];obtain⟨r,hr2⟩:=qc (xU vs.length fun i=>!decide (kL (vs[i]?.getD default)<=d));rw[<-hr2.out];obtain⟨D,hD⟩:=qc (((d+1:Nat):Int));rw[<-hD.out];have t1:(D == 0)=false:=by have:=hD.out;simp;omega
    go_enter Tryz.func177,Tryz.ntmps177;go_upto_region 1 with (fail);refine zk ?_;intro W hE hsz B0 B1;obtain⟨p0,p1,p2,p3,p4⟩:=qC B0;have q0:W.cell? ⟨w.heap.size+1,0,none⟩=some (.int .i64 D):=qh B1 0;have HB1:=q_h B1;go_wp2_with (go_at_call 210;refine q_o ?_);refine (X6 (lo:=0) (hi:=0) (HL.out.ext hE) (w.heap.size+1) (fun i=>!decide (kL (vs[i]?.getD default)<=d)) (fun i hi w' u e hu=>?_)).mono ?_
    ·have hb1:=e.block HB1.out;rw[hD.out] at hb1;refine ZY hb1 (by omega) hu fun w2 e2=>?_
     refine Qw m (vs[i]?.getD default) ?_ w2 u d (by omega) (VlV.ext e2 hu);have h1:=yw vs i hi;unfold szV at hm;omega
    rintro e w1 ⟨rfl,e1⟩;rw[<-hr2.out];go_wp2
    first|go_ret|skip
    exact⟨rfl,hE.trans e1⟩
end
section
open Go.RowKit
structure One (ET:TypeId) (z0:Value) (bz:Nat):Prop where
 inf:(Tryz.prog.info? ET).map (fun i=>(i.zero,i.size,i.bytes))=some (some z0,1,bz)
 cells:z0.cells.size=1
 le:bz<=24
 ne:ET≠196
def qw (ET:TypeId) (base:Nat) (w:World) (v:Value) (xs:List Value):Prop:=base<=w.heap.size/\w.ownsRow base ET 1 v xs.length xs
section
variable {ET:TypeId}{base:Nat}{w w':World}{v:Value}{xs:List Value}
theorem qw.nil (h:base<=w.heap.size):qw ET base w (.slice none 0 0) []:=⟨h,by simp,.inl ⟨rfl,rfl⟩⟩
theorem qw.empty(hb:base<=g) (h:w.heap[g]?=some (.cells #[] ET (0,0))):qw ET base w (.slice (some ⟨g,0,none⟩) 0 0) [] :=
 ⟨by have:=qE h;omega,by simp,.inr ⟨g,0,#[],rfl,hb,h,q_r,Nat.zero_le _,rfl,rfl⟩⟩
theorem qw.form (h:qw ET base w v xs):∃A c,v=.slice A xs.length c/\xs.length<=c:=by
 rcases h.2.2 with ⟨rfl,h0⟩|⟨g,cap,cur,rfl,_,_,hc,_⟩
 ·exact⟨_,_,by rw[h0],by omega⟩
 ·exact⟨_,_,rfl,hc⟩
theorem qw.ext (h:qw ET base w v xs) (e:Ext w w'):qw ET base w' v xs:=by
 refine⟨q_l h.1 e.size,h.2.1,?_⟩
 rcases h.2.2 with h0|⟨g,cap,cur,hv,hb,hh,h1,h2,h3,h4⟩
 ·exact .inl h0
 ·exact .inr ⟨g,cap,cur,hv,hb,e.block hh,h1,h2,h3,h4⟩
theorem qw.far {l u:Nat}(h:qw ET base w v xs) (c:Chg l u w w') (hd:∀k,v.ownBlock=some k->k<l\/u<=k):qw ET base w' v xs:=by
 refine⟨q_l h.1 c.size,h.2.1,?_⟩
 rcases h.2.2 with h0|⟨g,cap,cur,rfl,hb,hh,h1,h2,h3,h4⟩
 ·exact .inl h0
 ·exact .inr ⟨g,cap,cur,rfl,hb,c.blk hh (hd g rfl),h1,h2,h3,h4⟩
theorem qw.low {b':Nat}(h:qw ET base w v xs) (hb:b'<=base):qw ET b' w v xs:=by
 refine⟨q_l hb h.1,h.2.1,?_⟩
 rcases h.2.2 with h0|⟨g,cap,cur,hv,hb0,h3⟩
 ·exact .inl h0
 ·exact .inr ⟨g,cap,cur,hv,by omega,h3⟩
theorem qw.own_lt (h:qw ET base w v xs):∀k,v.ownBlock=some k->base<=k/\k<w.heap.size:=by
 rcases h.2.2 with ⟨rfl,h0⟩|⟨g,cap,cur,rfl,hb,hh,-⟩
 ·intro k hk;simp[Value.ownBlock] at hk
 ·intro k hk;obtain rfl:g=k:=by simpa[Value.ownBlock] using hk
  exact⟨hb,qE hh⟩
theorem qw.at_ (h:qw ET base w v xs) (hn:0<xs.length):∃g cap,v=.slice (some ⟨g,0,none⟩) xs.length cap/\base<=g/\g<w.heap.size/\cap<=maxLen/\xs.length<=cap/\(∃cs,w.heap[g]?=some (.cells cs ET (0,0))/\cs.size=cap)/\∀j (hj:j<xs.length),w.cell? ⟨g,j,none⟩=some xs[j]:=by
 rcases h.2.2 with ⟨-,h⟩|⟨g,cap,cur,hv,hb,hg,hnc,hcm,hcs,htk⟩
 ·omega
 ·refine⟨g,cap,hv,hb,qE hg,hcm,hnc,⟨cur,hg,by omega⟩,fun j hj=>?_⟩;rw[qh hg];have h9:(cur.toList.take (xs.length*1))[j]?=some xs[j]:=by rw[htk];exact List.getElem?_eq_getElem hj
  rw[List.getElem?_take] at h9;rw[if_pos (by omega)] at h9;simpa using h9
theorem xN {z0:Value}{bz:Nat}(ho:One ET z0 bz) (t ty:TypeId) (ht:Tryz.prog.underlying t=some (.slice ET)) (h:qw ET base w v xs){off:Nat}{news:List Value}(hl:news.length=m)
  (hnews:∀j u,news[j]?=some u->w.cell? ⟨b,off+j,none⟩=some u) (h1:∀u∈news,u.oneCell'=true) (hm:0<m) (hn:xs.length+m<=1000000000) :
  ∃g cap w',(Builtin.append_ #[t,t] ty #[v,.slice (some ⟨b,off,none⟩) m c]).run Tryz.prog w=.ok (.slice (some ⟨g,0,none⟩) (xs.length+m) cap) w'/\qw ET base w' (.slice (some ⟨g,0,none⟩) (xs.length+m) cap) (xs++news)/\(v.ownBlock=some g\/g=w.heap.size) /\
   (∃g',base<=g'/\(v.ownBlock=some g'\/g'=w.heap.size)/\Chg g' (g'+1) w w'/\NoU w g'):=by
 obtain⟨i0,hi0,hz0,hz1,hz2⟩:=info_parts ho.inf;obtain⟨hb0,hown⟩:=h;have hle:=ho.le
 obtain⟨g,cap,w',hrun,hO,hgr,hat,hlt⟩:=run_append_lies (P:=Tryz.prog) w t ty base ET i0 _ 1 bz ht hi0 hz0 hz1 hz2 ho.cells (by omega) v xs.length xs hown ⟨b,off,none⟩ m c news (by omega)
  (fun j u hj=>by rw[XE];exact hnews j u hj) h1 hm (by unfold maxLen;omega)
  (q_l (Nat.mul_le_mul hn ho.le) (by decide)) hb0 w.heap.size rfl
 refine⟨g,cap,w',hrun,⟨q_l hb0 hgr.size,?_⟩,hat,?_⟩
 ·rw[List.length_append,hl];exact hO
 ·have hT:NoU w w.heap.size:=fun cs fr h=>by rw[Array.getElem?_eq_none (q_r)] at h;cases h
  rcases hown.2 with ⟨rfl,h0⟩|⟨g0,cap0,cur,rfl,hbb,hh,_⟩
  ·exact⟨w.heap.size,hb0,.inr rfl,xk hgr (fun k hk=>by simp[Value.ownBlock] at hk) hT,hT⟩
  ·have hT0:NoU w g0:=NoU.mk hh ho.ne;exact⟨g0,hbb,.inl rfl,xk hgr (fun k hk=>by simpa[Value.ownBlock] using hk.symm) hT0,hT0⟩
end
theorem kN {ET:TypeId}{xs:List Value}{z0:Value}{bz:Nat}(h0:One ET z0 bz){o:Oper}{a:Act}{K:Act->World->Prop}{Q:Exit->Act->World->Prop}(s x:Operand) (t:TypeId) (ht:Tryz.prog.underlying t=some (.slice ET))
  (ho:o.op=.call { callee:=.builtin .append,args:=#[s,x],argTypes:=#[t,t] }) (hs:a.eval s=v) (h:qw ET base w v xs){off:Nat}{news:List Value}(hx:a.eval x=.slice (some ⟨b,off,none⟩) m c) (hl:news.length=m)
  (hnews:∀j u,news[j]?=some u->w.cell? ⟨b,off+j,none⟩=some u) (h1:∀u∈news,u.oneCell'=true) (hm:0<m) (hn:xs.length+m<=1000000000)
  (hK:∀g cap w',qw ET base w' (.slice (some ⟨g,0,none⟩) (xs.length+m) cap) (xs++news)->(v.ownBlock=some g\/g=w.heap.size)->(∃g',base<=g'/\(v.ownBlock=some g'\/g'=w.heap.size)/\Chg g' (g'+1) w w'/\NoU w g')->K (a.put o.dst (.slice (some ⟨g,0,none⟩) (xs.length+m) cap)) w'):o.wp Tryz.prog a w K Q:=by
 obtain⟨g,cap,w',hrun,h2,h3,h4⟩:=xN h0 t o.type ht h hl hnews h1 hm hn (c:=c);unfold Oper.wp execOp;simp only[ho,resolve,invoke,builtin,Sem.run_bind,Sem.run_pure,Result.andThen_ok,List.map_toArray,List.map_cons,List.map_nil,hs,hx,hrun];exact hK g cap w' h2 h3 h4
theorem jh {ET:TypeId}{xs:List Value}{z0:Value}{bz:Nat}(h0:One ET z0 bz){ops:Array Oper}{rest:List Oper}{o:Oper}{a:Act}{Q:Exit->Act->World->Prop}(hgd:o.guard=none) (s x:Operand) (t:TypeId) (ht:Tryz.prog.underlying t=some (.slice ET))
  (ho:o.op=.call { callee:=.builtin .append,args:=#[s,x],argTypes:=#[t,t] }) (hs:a.eval s=v) (h:qw ET base w v xs){off:Nat}{news:List Value}(hx:a.eval x=.slice (some ⟨b,off,none⟩) m c) (hl:news.length=m)
  (hnews:∀j u,news[j]?=some u->w.cell? ⟨b,off+j,none⟩=some u) (h1:∀u∈news,u.oneCell'=true) (hm:0<m) (hn:xs.length+m<=1000000000)
  (hK:∀g cap w',qw ET base w' (.slice (some ⟨g,0,none⟩) (xs.length+m) cap) (xs++news)->(v.ownBlock=some g\/g=w.heap.size)->(∃g',base<=g'/\(v.ownBlock=some g'\/g'=w.heap.size)/\Chg g' (g'+1) w w'/\NoU w g')->wpList Tryz.prog ops Q rest (a.put o.dst (.slice (some ⟨g,0,none⟩) (xs.length+m) cap)) w'):wpList Tryz.prog ops Q (o :: rest) a w :=
 wpList_plain hgd fun _ hK'=>kN h0 s x t ht ho hs h hx hl hnews h1 hm hn (fun g cap w' a1 a2 a3=>hK' _ _ (hK g cap w' a1 a2 a3))
theorem x9 {ET:TypeId}{xs:List Value}{z0:Value}{bz:Nat}(h0:One ET z0 bz){ops:Array Oper}{o:Oper}{a:Act}{K:Act->World->Prop}{Q:Exit->Act->World->Prop}{E:Prop}(hgd:o.guard=none) (s x:Operand) (t:TypeId) (ht:Tryz.prog.underlying t=some (.slice ET))
  (ho:o.op=.call { callee:=.builtin .append,args:=#[s,x],argTypes:=#[t,t] }) (hs:a.eval s=v) (h:qw ET base w v xs){off:Nat}{news:List Value}(hx:a.eval x=.slice (some ⟨b,off,none⟩) m c) (hl:news.length=m)
  (hnews:∀j u,news[j]?=some u->w.cell? ⟨b,off+j,none⟩=some u) (h1:∀u∈news,u.oneCell'=true) (hm:0<m) (hn:xs.length+m<=1000000000)
  (hK:∀g cap w',qw ET base w' (.slice (some ⟨g,0,none⟩) (xs.length+m) cap) (xs++news)->(v.ownBlock=some g\/g=w.heap.size)->(∃g',base<=g'/\(v.ownBlock=some g'\/g'=w.heap.size)/\Chg g' (g'+1) w w'/\NoU w g')->K (a.put o.dst (.slice (some ⟨g,0,none⟩) (xs.length+m) cap)) w') :
  if Region.wanted o (yielded ops a.tmps)=true then Oper.wp Tryz.prog o a w K Q else E:=by
 have hw:Region.wanted o (yielded ops a.tmps)=true:=by simp[Region.wanted,hgd]
 rw[if_pos hw];exact kN h0 s x t ht ho hs h hx hl hnews h1 hm hn hK
theorem wE{u:Value}{t:TypeId}{fr:Nat×Nat}(h:w.heap[g]?=some (.cells #[u] t fr)):∀j x,[u][j]?=some x->w.cell? ⟨g,0+j,none⟩=some x:=by
 intro j x hj;rw[Nat.zero_add,qh h];simpa using hj
end
section
open Go.RowKit
def byC (l:Byt):List Value:=Go.Lib.byteCells l
theorem qA (l:Byt):(byC l).length=l.length:=Go.Lib.byteCells_length l
theorem xI (a b:Byt):byC (a++b)=byC a++byC b:=Go.Lib.byteCells_append a b
theorem zh {l:Byt}(h:i<l.length):(byC l)[i]?=some (.int .u8 (chZ l i)):=by
 unfold byC Go.Lib.byteCells;rw[List.getElem?_map,List.getElem?_eq_getElem h,kQ h]
 rfl
theorem jE:One 5 (.int .u8 0) 1:=⟨by kernel_rfl,rfl,by omega,by decide⟩
def GrB (base:Nat) (w:World) (v:Value) (l:Byt):Prop:=qw 5 base w v (byC l)
theorem GrB.by {base:Nat}{w:World}{v:Value}{l:Byt}(h:GrB base w v l):ByV w v l:=by
 have h':qw 5 base w v (byC l):=h
 rcases Nat.eq_zero_or_pos l.length with h0|h0
 ·obtain⟨A,c,rfl,hc⟩:=h'.form;rw[qA] at hc ⊢;refine⟨A,c,rfl,hc,?_,fun h9=>absurd h9 (by omega)⟩
  rcases h'.2.2 with ⟨hv,-⟩|⟨g,cap,cur,hv,-,-,-,hm,-⟩
  ·injection hv with _ _ h3
   rw[h3];exact Nat.zero_le _
  ·injection hv with _ _ h3
   rw[h3];exact hm
 ·obtain⟨g,cap,rfl,-,-,hm,hc,-,hx⟩:=h'.at_ (by rw[qA];exact h0);rw[qA] at hc ⊢;refine⟨_,cap,rfl,hc,hm,fun _=>⟨g,0,rfl,fun i hi=>?_⟩⟩;have h9:=hx i (by rw[qA];exact hi);have h8:=zh hi;rw[List.getElem?_eq_getElem (by rw[qA];exact hi)] at h8;injection h8 with h8
  rw[Nat.zero_add,h9,h8]
theorem zT{l:Byt}(h:ByV w v l):(convert 27 9 v).run Tryz.prog w=.ok (sV l) w:=by
 obtain⟨A,c,rfl,-,-,hx⟩:=h
 rcases Nat.eq_zero_or_pos l.length with h0|h0
 ·have e:l=[]:=List.eq_nil_of_length_eq_zero h0;subst e;cases A with
  | none=>exact run_convert_bytes_nil w 27 5 Tryz.underlying27 Tryz.underlying5 0 c 9 zJ
  | some a=>exact run_convert_bytes_back w 27 9 5 a c [] Tryz.underlying27 Tryz.underlying5 zJ (fun j hj=>absurd hj (Nat.not_lt_zero j))
 ·obtain⟨b,off,rfl,hc⟩:=hx h0;refine run_convert_bytes_back w 27 9 5 ⟨b,off,none⟩ c l Tryz.underlying27 Tryz.underlying5 zJ (fun j hj=>?_);have e:(⟨b,off,none⟩:Addr).add j=⟨b,off+j,none⟩:=by unfold Addr.add;split<;>simp_all
  rw[e,hc j hj,kQ hj]
theorem J8{u:Value}{t:TypeId}{fr:Nat×Nat}(h:w.heap[g]?=some (.cells #[u,v] t fr)):∀j x,[u,v][j]?=some x->w.cell? ⟨g,0+j,none⟩=some x:=by
 intro j x hj;rw[Nat.zero_add,qh h];simpa using hj
theorem J7 {a b:Int}:∀x∈[Value.int .u8 a,Value.int .u8 b],x.oneCell'=true:=by
 intro x hx
 rcases List.mem_cons.1 hx with rfl|hx
 ·rfl
 ·rw[List.mem_singleton.1 hx];rfl
def nmP (l:Byt) (i:Nat):Byt:=(List.range i).flatMap fun j=>[QV (dgB l j / 16),QV (dgB l j % 16)]
theorem Xe (l:Byt) (i:Nat):nmP l (i+1)=nmP l i ++ [QV (dgB l i / 16),QV (dgB l i % 16)]:=by
 unfold nmP;rw[List.range_succ,List.flatMap_append]
 rfl
theorem wG (l:Byt) (i:Nat):(nmP l i).length=2*i:=by
 unfold nmP;rw[jH (fun j=>QV (dgB l j / 16)) (fun j=>QV (dgB l j % 16)),List.length_range]
theorem JH (a b:UInt8):byC [a,b]=[.int .u8 (a.toNat:Int),.int .u8 (b.toNat:Int)]:=rfl
theorem Zr(hn:n<16) (w:World):(Instr.index 9 (.string ⟨#[48,49,50,51,52,53,54,55,56,57,97,98,99,100,101,102]⟩) (.int .u8 (n:Int))).run Tryz.prog w=.ok (.int .u8 ((QV n).toNat:Int)) w:=by
 exact y9 (s:=⟨#[48,49,50,51,52,53,54,55,56,57,97,98,99,100,101,102]⟩) (i:=n) (k:=.u8) (by show n<16;exact hn) w
theorem Ye (l:Byt)(hi:i<16) (w:World):(Instr.index 176 (.agg (dgC l)) (.int .i64 (i:Int))).run Tryz.prog w=.ok (.int .u8 ((dgB l i:Nat):Int)) w:=by
 have:i=0\/i=1\/i=2\/i=3\/i=4\/i=5\/i=6\/i=7\/i=8\/i=9\/i=10\/i=11\/i=12\/i=13\/i=14\/i=15:=by omega
 rcases this with rfl|rfl|rfl|rfl|rfl|rfl|rfl|rfl|rfl|rfl|rfl|rfl|rfl|rfl|rfl|rfl<;>(show _=_;kernel_rfl)
theorem JE {l:Byt}(h:ByV w v l):Calls Tryz.prog 69 #[v] w (qR w (sV (nmB l))):=by
 have HV:=q_h h;obtain⟨Q,hQ⟩:=qc (qR w (sV (nmB l)));rw[<-hQ.out];go_enter Tryz.func69,Tryz.ntmps69;go_wp2_with (go_at_call 133;refine q_o ?_);refine (YA HV.out).mono ?_;rintro e w1 ⟨rfl,e1⟩;obtain⟨cs,hcs⟩:=qc (dgC l);rw[<-hcs.out];have HE1:=q_h e1;have HG1:Hid (GrB w.heap.size w1 (.slice none 0 0) (nmP l 0)):=qw.nil e1.size;clear e1;go_wp2_with fail
 go_loopw [8,3] (fun iv tv wr=>∃(i:Nat) (A:Option Addr) (c:Nat),i<=16/\iv=.int .i64 (i:Int)/\tv=.slice A (2*i) c/\Hid (GrB w.heap.size wr (.slice A (2*i) c) (nmP l i))/\Hid (Ext w wr)) (fun iv _ _=>16-(intOf iv).toNat)
 case atStart=>exact⟨0,none,0,Nat.zero_le _,rfl,rfl,HG1,HE1⟩
 case round =>
  clear HG1 HE1;obtain⟨i,A,c,hi9,rfl,rfl,HG,HE⟩:=hrel
  by_cases hlt:i<16
  case pos =>
   have u1:decide ((i:Int)<16)=true:=q_t (by omega);have u1':decide (i<16)=true:=q_t hlt;obtain⟨z,hz⟩:=qc (((dgB l i:Nat):Int))
   have hix:∀w,(Instr.index 176 (.agg cs) (.int .i64 (i:Int))).run Tryz.prog w=.ok (.int .u8 z) w:=by
    rw[hcs.out,hz.out];exact Ye l hlt
   have hdb:dgB l i<256:=Nat.mod_lt _ (by decide);have hzb:0<=z/\z<256:=by have:=hz.out;omega
   obtain⟨a,ha⟩:=qc (((dgB l i / 16:Nat):Int));obtain⟨b,hb⟩:=qc (((dgB l i % 16:Nat):Int));have u2:z / 16=a:=by rw[hz.out,ha.out];omega
   have u3:bits .and .u8 z 15=b:=by rw[u8_and15 z hzb.1 hzb.2,hz.out,hb.out];omega
   obtain⟨z1,hz1⟩:=qc (((QV (dgB l i / 16)).toNat:Int));obtain⟨z2,hz2⟩:=qc (((QV (dgB l i % 16)).toNat:Int))
   have u4:∀w,(Instr.index 9 (.string ⟨#[48,49,50,51,52,53,54,55,56,57,97,98,99,100,101,102]⟩) (.int .u8 a)).run Tryz.prog w=.ok (.int .u8 z1) w:=by
    rw[ha.out,hz1.out];exact Zr (by omega)
   have u5:∀w,(Instr.index 9 (.string ⟨#[48,49,50,51,52,53,54,55,56,57,97,98,99,100,101,102]⟩) (.int .u8 b)).run Tryz.prog w=.ok (.int .u8 z2) w:=by
    rw[hb.out,hz2.out];exact Zr (by omega)
   obtain⟨wq,hwq⟩:∃wq,wq=wr:=⟨_,rfl⟩
   subst hwq;go_upto_region 5 with (fail);have eC:=HE.out.drew;refine qj (fun w'=>True) [] (by kernel_rfl) (by exact trivial) (fun hHeld=>?_);refine sP 0 (h:=?_);refine sP 1 (h:=?_);refine sP 2 (h:=?_);refine sP 3 (h:=?_);refine sP 4 (h:=?_);refine sP 5 (h:=?_);refine sP 6 (h:=?_);refine qg (i:=7) rfl (by kernel_rfl) (fun K hK=>?_);go_simp;refine qo (F:=fun W=>K _ W.drew) ?_;intro w6 e6 hsz6 B6;replace eC:Ext w w6.drew:=(HE.out.trans e6).drew;have hG6:GrB w.heap.size w6.drew (.slice A (2*i) c) (nmP l i):=qw.ext HG.out e6.drew;have b6:w6.drew.heap[wq.heap.size]?=some (.cells #[.int .u8 z1,.int .u8 z2] 5 (0,0)):=B6;clear hHeld;refine hK.out _ _ (by exact trivial) fun hHeld=>?_
   clear hK K;try simp only[nr]
   refine qg (i:=8) rfl (by kernel_rfl) (fun K hK=>?_);refine kN jE _ _ 27 Tryz.underlying27 rfl (by rfl) hG6 (m:=2) (c:=2) (news:=[.int .u8 z1,.int .u8 z2]) (by rfl) rfl (J8 b6) J7 (by omega) (by rw[qA,wG];omega) ?_;intro g cap w7 hG7 _ ⟨g',hg',_,C7,_⟩;replace eC:=C7.ext eC hg';clear hHeld;refine hK.out _ _ (by exact trivial) fun hHeld=>?_
   clear hK K;try simp only[nr]
   refine sP 9 (h:=?_);refine ql (by kernel_rfl) ?_ _;clear hHeld
   have HG2:Hid (GrB w.heap.size w7 (.slice (some ⟨g,0,none⟩) (2*(i+1)) cap) (nmP l (i+1))):=by
    rw[qA,wG] at hG7;unfold GrB;rw[Hid,Xe,xI,JH,<-hz1.out,<-hz2.out];exact hG7
   have HE2:Hid (Ext w w7):=eC;rw[qA,wG];clear hG7 C7 eC HG HE hix u2 u3 u4 u5;go_wp2;go_roundw
   case rel=>exact⟨i+1,_,cap,by omega,by go_num,rfl,HG2,HE2⟩
   case measure=>simp[intOf];omega
  have u1:decide ((i:Int)<16)=false:=q_f (by omega);have u1':decide (i<16)=false:=q_f hlt
  have HN:Hid (nmP l i=nmB l):=by
   rw[Hid,show i=16 by omega]
   rfl
  have hb:=GrB.by HG.out
  have hcv:=zT hb;obtain⟨sv,hsv⟩:=qc (sV (nmP l i));rw[<-hsv.out] at hcv;go_wp2
  show Q (Ending.returned sv) wr
  rw[hQ.out,hsv.out,HN.out];exact⟨rfl,HE.out⟩
end
section
open Go.RowKit Go.Shelf
def Zo:Go.Shelf.Ren:=⟨fun|129=>156|171=>214|243=>244|246=>256|283=>261|284=>262|285=>263|286=>264|317=>268|318=>269|319=>270|320=>271|337=>277|338=>278|_=>0,fun|0=>0|2=>2|3=>3|4=>4|5=>5|9=>9|20=>20|37=>27|46=>142|51=>196|53=>198|171=>292|173=>294|212=>298|213=>299|232=>312|233=>313|_=>0,fun|17=>3|18=>6|19=>7|_=>0⟩
theorem Xg:Go.Proofs.Lays.n171 Tryz.prog Zo:=by
 constructor
 all_goals first|kernel_rfl|(intro w;kernel_rfl)
theorem Jl:Go.Proofs.LaysM.n171 Tryz.prog Zo:=by
 constructor
 ·exact Xg
 all_goals first|kernel_rfl|(intro w;kernel_rfl)|trace_state
def zu (w:World):Prop:=Go.Lib.TabIs Tryz.prog w "internal/strconv.uint64pow10" .u64 Go.Lib.pow10Tab
theorem ZR (w:World) (k:Nat) (os:Array Obj):Ext w (Go.Sort.grow (w.drewN k) os) :=
 ⟨rfl,rfl,rfl,by show w.heap.size<=(w.heap++os).size;simp,fun j hj=>by show (w.heap++os)[j]?=_;rw[Array.getElem?_append_left hj]⟩
theorem yK(hn:n<=9223372036854775807)(ht:zu w):Calls Tryz.prog 214 #[.int .i64 (n:Int)] w (qR w (sV (dec n))):=by
 have h:=Any.strconv_Itoa (P:=Tryz.prog) (ρ:=Zo) Jl (n:Int) (by omega) (by omega) w ht;refine Calls.mono (show Calls Tryz.prog 214 _ _ _ from h) ?_;rintro e w' ⟨rfl,k,os,rfl⟩;refine⟨by rw[Go.Lib.itoa_nonneg];rfl,?_⟩;exact ZR w k os
def jB:Go.Shelf.Ren:=⟨fun|178=>213|179=>240|180=>215|181=>216|182=>241|183=>179|184=>254|251=>242|252=>243|290=>255|324=>260|_=>0,fun|0=>0|3=>3|4=>4|5=>5|9=>9|20=>20|37=>27|75=>249|80=>279|91=>215|93=>217|130=>219|131=>102|_=>0,fun|14=>2|_=>0⟩
theorem XW:Go.Proofs.LaysM.n178 Tryz.prog jB:=by
 constructor
 ·constructor
  all_goals first|kernel_rfl|(intro w;kernel_rfl)
 all_goals first|kernel_rfl|(intro w;kernel_rfl)
theorem Yp:Go.Proofs.LaysM.n180 Tryz.prog jB:=by
 constructor
 ·constructor
  all_goals first|kernel_rfl|(intro w;kernel_rfl)
 all_goals first|kernel_rfl|(intro w;kernel_rfl)
theorem Yo:Go.Proofs.LaysM.n181 Tryz.prog jB:=by
 constructor
 ·constructor
  all_goals first|kernel_rfl|(intro w;kernel_rfl)
 all_goals first|kernel_rfl|(intro w;kernel_rfl)
theorem Yn:Go.Proofs.LaysM.n182 Tryz.prog jB:=by
 constructor
 ·constructor
  all_goals first|kernel_rfl|(intro w;kernel_rfl)
 all_goals first|kernel_rfl|(intro w;kernel_rfl)
theorem Ym:Go.Proofs.LaysM.n183 Tryz.prog jB:=by
 constructor
 ·constructor
  all_goals first|kernel_rfl|(intro w;kernel_rfl)
 all_goals first|kernel_rfl|(intro w;kernel_rfl)
def xX (W:World) (b:Nat) (l:Byt) (w:World):Prop:=Go.Lib.IsBuffer 217 5 W.heap.size b (byC l) w/\Ext W w
def Oth (b:Nat) (w w':World):Prop:=Go.Lib.OthersKept 5 (some b) w w'
theorem Oth.trans{a c d:World}(h:Oth b a c) (k:Oth b c d):Oth b a d:=Go.Lib.OthersKept.trans h k
theorem Oth.ext(e:Ext w w'):Oth b w w':=fun k o h _ _=>e.block h
theorem Oth.blk(h:Oth b w w'){cs:Array Value}{t:TypeId}{fr:Nat×Nat}(hb:w.heap[g]?=some (.cells cs t fr)) (hg:g≠b) (ht:t≠5):w'.heap[g]?=some (.cells cs t fr) :=
 h g _ hb (fun e=>hg (by injection e)) (fun c fz e=>by injection e with _ e2 _;exact ht e2)
theorem xX.ext {W:World}{l:Byt}(h:xX W b l w) (e:Ext w w'):xX W b l w':=by
 obtain⟨⟨hB,v,lr,hb,hr,hne⟩,hE⟩:=h;refine⟨⟨hB,v,lr,e.block hb,?_,hne⟩,hE.trans e⟩;have h9:qw 5 W.heap.size w v (byC l):=⟨hE.size,hr⟩
 exact (h9.ext e).2
def YG (W:World) (b:Nat) (l:Byt) (w:World) (v:Value) (e:Ending) (w':World):Prop:=e=.returned v/\xX W b l w'/\Oth b w w'
theorem kR (l:Byt):∀v∈byC l,v.oneCell'=true:=Go.Lib.byteCells_one l
theorem zD {W:World}{l s:Byt}(h:xX W b l w) (hl:l.length+s.length<=1000000) :
  Calls Tryz.prog 213 #[.pointer (some ⟨b,0,none⟩),sV s] w (YG W b (l++s) w (.tuple #[.int .i64 (s.length:Int),.nilIface])):=by
 have h9:=Any.Buffer_WriteString_k (P:=Tryz.prog) (ρ:=jB) XW W.heap.size b (byC l) ⟨s.toArray⟩ w h.1 h.2.size (kR l) (by rw[qA];show l.length+s.toArray.size<=_;rw[List.size_toArray];omega);refine Calls.mono (show Calls Tryz.prog 213 _ _ _ from h9) ?_;rintro e w' ⟨rfl,h1,h2,h3⟩;refine⟨rfl,⟨?_,Below.trans h.2 h2⟩,h3⟩;rw[xI];exact h1
theorem Ku {W:World}{l:Byt}(h:xX W b l w) :
  Calls Tryz.prog 216 #[.pointer (some ⟨b,0,none⟩)] w (qR w (.int .i64 (l.length:Int))):=by
 have h9:=Any.Buffer_Len (P:=Tryz.prog) (ρ:=jB) Yo W.heap.size b (byC l) w h.1;refine Calls.mono (show Calls Tryz.prog 216 _ _ _ from h9) ?_;rintro e w' ⟨rfl,k,rfl⟩;rw[qA];exact⟨rfl,(Ext.refl w).drewN k⟩
theorem Xt {W:World}{l s:Byt}{a:Addr}(h:xX W b l w) (hs:ByV W (.slice (some a) n k) s) (hn:n=s.length) (hl:l.length+s.length<=1000000) (ha:a.block<W.heap.size\/0<n) :
  Calls Tryz.prog 215 #[.pointer (some ⟨b,0,none⟩),.slice (some a) n k] w (YG W b (l++s) w (.tuple #[.int .i64 (s.length:Int),.nilIface])):=by
 subst hn;obtain⟨A,c,hv,hnc,hcm,hx⟩:=hs;injection hv with hA hn2 hc2
 have hlt:a.block<W.heap.size:=by
  rcases ha with h1|h1
  ·exact h1
  ·obtain⟨b2,off,hA2,hx2⟩:=hx h1;rw[hA2] at hA;injection hA with hA
   rw[hA];exact cell_lt (hx2 0 h1)
 have h9:=Any.Buffer_Write_k (P:=Tryz.prog) (ρ:=jB) Yp W.heap.size b (byC l) (byC s) a s.length k w h.1 h.2.size (kR l) (qA s) hlt (fun j v hj=>by
  have hjl:j<s.length:=by
   have:=(List.getElem?_eq_some_iff.1 hj).1
   rwa [qA] at this
  obtain⟨b2,off,hA2,hx2⟩:=hx (by omega);rw[hA2] at hA;injection hA with hA
  rw[zh hjl] at hj;injection hj with hj
  rw[hA,<-hj,show ((⟨b2,off,none⟩:Addr).add j)=⟨b2,off+j,none⟩ by unfold Addr.add;split<;>simp_all]
  exact h.2.cell (hx2 j hjl)) (kR s) (by rw[qA];omega)
 refine Calls.mono (show Calls Tryz.prog 215 _ _ _ from h9) ?_;rintro e w' ⟨rfl,h1,h2,h3⟩;refine⟨rfl,⟨?_,Below.trans h.2 h2⟩,h3⟩;rw[xI];exact h1
theorem Xu {W:World}{l:Byt}(h:xX W b l w) :
  Calls Tryz.prog 179 #[.pointer (some ⟨b,0,none⟩)] w (fun e w'=>∃v,e=.returned v/\GrB W.heap.size w' v l/\Ext w w'):=by
 have h9:=Any.Buffer_Bytes (P:=Tryz.prog) (ρ:=jB) Ym W.heap.size b (byC l) w h.1;refine Calls.mono (show Calls Tryz.prog 179 _ _ _ from h9) ?_;rintro e w' ⟨v,rfl,h1,k,rfl⟩;exact⟨v,rfl,⟨h.2.size,h1⟩,(Ext.refl w).drewN k⟩
theorem JK {W:World}(hE:Ext W w) (hs:W.heap.size<=w.heap.size):xX W w.heap.size [] (w.alloc (.cells #[.slice none 0 0,.int .i64 0,.int .i8 0] 217)):=by
 exact⟨⟨hs,.slice none 0 0,0,heap_alloc_new w _,World.ownsRow_nil _ _ _ _,by simp[Value.ownBlock]⟩,hE.alloc _⟩
theorem y8 (a b:Byt) (h:a.length+b.length<=1000000) (w:World):(Op.stringOp .add ⟨a.toArray⟩ ⟨b.toArray⟩).run Tryz.prog w=.ok (sV (a++b)) w:=by
 unfold Op.stringOp;have h1:(⟨a.toArray⟩:ByteArray).size=a.length:=by show a.toArray.size=_;rw[List.size_toArray]
 have h2:(⟨b.toArray⟩:ByteArray).size=b.length:=by show b.toArray.size=_;rw[List.size_toArray]
 simp only[h1,h2]
 rw[if_neg (by
  have:IntKind.i64.max=9223372036854775807:=by decide
  omega)]
 unfold sV
 have e:(⟨a.toArray⟩:ByteArray) ++ ⟨b.toArray⟩=⟨(a++b).toArray⟩:=by
  apply ByteArray.ext
  rw[ByteArray.data_append]
  simp
 rw[e]
 rfl
theorem xe (a b:Byt) (h:a.length+b.length<=1000000) (w:World):(binOp .add 9 (sV a) (sV b)).run Tryz.prog w=.ok (sV (a++b)) w:=by
 unfold sV;rw[binOp_string_add];exact y8 a b h w
end
section
open Go.RowKit
theorem zu.ext(h:zu w) (e:Ext w w'):zu w':=by
 unfold zu Go.Lib.TabIs at *;exact Go.Joins.var_stays (g:=3) (by kernel_rfl) h e (q_r)
theorem jI(h:n<=65536):(dec n).length<=5:=by
 unfold dec;rw[Go.Lib.decDigits_length]
 by_cases h0:n<10
 ·rw[Go.Lib.nDigits_small h0];omega
 rw[Go.Lib.nDigits_big h0]
 by_cases h1:n / 10<10
 ·rw[Go.Lib.nDigits_small h1];omega
 rw[Go.Lib.nDigits_big h1]
 by_cases h2:n / 10 / 10<10
 ·rw[Go.Lib.nDigits_small h2];omega
 rw[Go.Lib.nDigits_big h2]
 by_cases h3:n / 10 / 10 / 10<10
 ·rw[Go.Lib.nDigits_small h3];omega
 rw[Go.Lib.nDigits_big h3,Go.Lib.nDigits_small (by omega)];omega
theorem VlV.cells {nn:Bool}{V:Vl}(h:VlV nn N w V v):∃(z:Int) (nb:Bool) (A1:Option Addr) (n1 c1:Nat) (A2:Option Addr) (n2 c2:Nat) (A3:Option Addr) (n3 c3:Nat),v=.agg #[.int .i64 z,.bool nb,.slice A1 n1 c1,.slice A2 n2 c2,.slice A3 n3 c3]:=by
 cases V with
 | int z =>
  unfold VlV at h;obtain⟨a,b,c,e,rfl,hI,⟨A1,k1,rfl⟩,⟨A2,k2,rfl⟩⟩:=h;obtain⟨nb,A,n,k,hab,-⟩:=hI.parts;simp only[Value.agg.injEq,Array.mk.injEq,List.cons.injEq,and_true] at hab;obtain⟨rfl,rfl⟩:=hab;exact⟨_,_,_,_,_,_,_,_,_,_,_,rfl⟩
 | txt l =>
  unfold VlV at h;obtain⟨b,c,e,rfl,⟨A1,k1,rfl⟩,⟨⟨A3,k3,rfl,-⟩,-⟩,⟨A2,k2,rfl⟩⟩:=h;exact⟨_,_,_,_,_,_,_,_,_,_,_,rfl⟩
 | lst l =>
  unfold VlV at h;obtain⟨b,c,A,k,rfl,⟨A1,k1,rfl⟩,⟨A2,k2,rfl⟩,-⟩:=h;exact⟨_,_,_,_,_,_,_,_,_,_,_,rfl⟩
mutual
theorem ZU:∀V:Vl,1<=(enc V).length
 | .int z=>by unfold enc;simp
 | .txt l=>by unfold enc;simp
 | .lst l=>by unfold enc;simp
end
theorem vG (vs:List Vl) (i:Nat) (h:i<vs.length):zA (vs.take (i+1))=zA (vs.take i)++enc (vs[i]?.getD default):=by
 rw[List.take_add_one,List.getElem?_eq_getElem h,yF]
 show _++zA [vs[i]]=_
 unfold zA;unfold zA;rw[List.append_nil]
 rfl
theorem ZV (vs:List Vl) (i:Nat):(zA (vs.take i)).length<=(zA vs).length:=by
 have h:zA vs=zA (vs.take i)++zA (vs.drop i):=by rw[<-yF,List.take_append_drop]
 rw[h,List.length_append];omega
theorem yx:∀(l:List Vl) (i:Nat),QZ l->i<l.length->y7 (l[i]?.getD default)
 | [],i,_,h=>absurd h (Nat.not_lt_zero i)
 | v :: r,0,hs,_=>by unfold QZ at hs;exact hs.1
 | v :: r,i+1,hs,h=>by
  unfold QZ at hs;exact yx r i hs.2 (by simpa using h)
def kF:Prop:=∀(N:Nat) (w:World) (v:Value) (z:Int),xZ N w v z->0<=z->z<10->zu w->Calls Tryz.prog 212 #[v] w (qR w (sV (Go.Lib.itoa z)))
theorem Qu {N:Nat}(HT:kF):∀(m:Nat) (V:Vl),szV V<=m->∀(W w:World) (b:Nat) (l:Byt) (v:Value),VlV true N W V v->y7 V->zu W->xX W b l w->l.length+(enc V).length<=65536 ->
  Calls Tryz.prog 178 #[.pointer (some ⟨b,0,none⟩),v] w (YG W b (l++enc V) w (.bool true))
 | 0,V,hm,_,_,_,_,_,_,_,_,_,_=>by cases V<;>(unfold szV at hm;omega)
 | m+1,V,hm,W,w,b,l,v,hv,hs,ht,hb,hl=>by
  have HB:=q_h hb;have HTB:=q_h ht;have hll:l.length<=65536:=by omega
  obtain⟨Q,hQ⟩:=qc (YG W b (l++enc V) w (.bool true));rw[<-hQ.out];cases V with
  | int z =>
   unfold VlV at hv;obtain⟨x1,x2,x3,x4,rfl,hI,⟨A1,k1,rfl⟩,⟨A2,k2,rfl⟩⟩:=hv;have HI:=q_h hI;obtain⟨nb,A,n,k,hab,-⟩:=hI.parts;simp only[Value.agg.injEq,Array.mk.injEq,List.cons.injEq,and_true] at hab;obtain⟨rfl,rfl⟩:=hab;have hz:0<=z/\z<10:=by unfold y7 at hs;exact hs
   obtain⟨ch,hch⟩:=qc (UInt8.ofNat (48+z.toNat))
   have HIT:Hid (Go.Lib.itoa z=[ch]):=by
    obtain⟨j,rfl⟩:=Int.eq_ofNat_of_zero_le hz.1;rw[Hid,Go.Lib.itoa_nonneg,Go.Lib.decDigits_one (by omega),hch.out]
    rfl
   obtain⟨zc,hzc⟩:=qc (chZ [ch] 0)
   have hzc2:(zc != 45)=true:=by
    have h9:zc=48+z:=by
     rw[hzc.out,hch.out]
     show ((UInt8.ofNat (48+z.toNat)).toNat:Int)=_
     rw[UInt8.toNat_ofNat'];omega
    simp
    omega
   obtain⟨B,hB⟩:=qc (⟨[ch].toArray⟩:ByteArray);have hsz:B.size=1:=by rw[hB.out];rfl
   have hix:∀w,(Instr.index 9 (.string B) (.int .i64 0)).run Tryz.prog w=.ok (.int .u8 zc) w:=by
    have h9:=y9 (s:=B) (i:=0) (k:=.i64) (by omega);rw[hB.out,Zd,<-hB.out,<-hzc.out] at h9;exact h9
   have HS0:Hid (sV (Go.Lib.itoa z)=.string B):=by rw[Hid,HIT.out,hB.out];rfl
   obtain⟨s1,hs1⟩:=qc (sV ([105] ++ [ch]));obtain⟨s2,hs2⟩:=qc (sV ([105] ++ [ch] ++ [59]))
   have t1:∀w,(Op.stringOp .add ⟨#[105]⟩ B).run Tryz.prog w=.ok s1 w:=by
    rw[hB.out,hs1.out];exact y8 [105] [ch] (by simp)
   have t2:∀w,(binOp .add 9 s1 (.string ⟨#[59]⟩)).run Tryz.prog w=.ok s2 w:=by
    rw[hs1.out,hs2.out];exact xe ([105] ++ [ch]) [59] (by simp)
   have HEN:Hid (enc (.int z)=[105] ++ [ch] ++ [59]):=by rw[Hid];unfold enc;rw[HIT.out];rfl
   have HZ:=q_h hz;clear hb ht hI hch hzc hB HIT hs hm hz;go_enter Tryz.func178,Tryz.ntmps178;go_upto_region 1 with (fail);refine qo ?_;intro w1 hE hsz1 B0;obtain⟨p0,p1,p2,p3,p4⟩:=qC B0;have HB1:=q_h (HB.out.ext hE);go_wp2_with (go_at_call 212;refine q_o ?_);refine (HT N _ _ z (HI.out.ext HB1.out.2) HZ.out.1 HZ.out.2 (HTB.out.ext HB1.out.2)).mono ?_;rintro e w2 ⟨rfl,e2⟩;rw[HS0.out];have HB2:=q_h (HB1.out.ext e2)
   have HW:Hid (Calls Tryz.prog 213 #[.pointer (some ⟨b,0,none⟩),s2] w2 (fun e w'=>(∃v,e=.returned v)/\xX W b (l++enc (.int z)) w'/\Oth b w2 w')):=by
    rw[hs2.out,HEN.out];refine (zD HB2.out (by simp;omega)).mono ?_;rintro e w' ⟨rfl,h1,h2⟩;exact⟨⟨_,rfl⟩,h1,h2⟩
   clear p0 p1 p2 p3 p4;go_wp2_with (go_at_call 213;refine q_o ?_);refine HW.out.mono ?_;rintro e w4 ⟨⟨v4,rfl⟩,b4,o4⟩;have HB4:=q_h b4;have HO4:Hid (Oth b w w4):=(Oth.ext (hE.trans e2)).trans o4;clear HW b4 o4;obtain⟨q,hq⟩:=qc (l++enc (.int z)).length;have hq6:decide ((q:Int)<=65536)=true:=q_t (by have:=hq.out;rw[List.length_append] at this;omega);have hq6':decide (q<=65536)=true:=q_t (by have:=hq.out;rw[List.length_append] at this;omega);go_wp2_with (go_at_call 216;refine q_o ?_);refine (Ku HB4.out).mono ?_;rintro e w5 ⟨rfl,e5⟩;rw[<-hq.out];have HB5:=q_h (HB4.out.ext e5);have HO5:=q_h (HO4.out.trans (Oth.ext e5));go_wp2
   first|go_ret|skip
   rw[hQ.out];exact⟨rfl,HB5.out,HO5.out⟩
  | txt s =>
   unfold VlV at hv;obtain⟨c1,c2,c3,rfl,⟨A1,k1,rfl⟩,⟨hby,hnil⟩,⟨A2,k2,rfl⟩⟩:=hv;obtain⟨a,k,rfl,hA9⟩:=hnil rfl;have HS:=q_h hby;have hsl:s.length<=65536:=by unfold enc at hl;simp at hl;omega
   obtain⟨n,hn⟩:=qc s.length;rw[<-hn.out] at HS ⊢;clear hby hb ht hnil;go_enter Tryz.func178,Tryz.ntmps178;go_upto_region 1 with (fail);refine qo ?_;intro w1 hE hsz B0;obtain⟨p0,p1,p2,p3,p4⟩:=qC B0;have HB0:=q_h B0;have HB1:=q_h (HB.out.ext hE);go_wp2_with (go_at_call 214;refine q_o ?_);refine (yK (n:=n) (by have:=hn.out;omega) (HTB.out.ext HB1.out.2)).mono ?_;rintro e w2 ⟨rfl,e2⟩;have HB2:=q_h (HB1.out.ext e2);have HB02:=q_h (e2.block HB0.out);have hdl:=q_h (jI (n:=n) (by have:=hn.out;omega));obtain⟨s0,hs0⟩:=qc (sV (dec n));obtain⟨s1,hs1⟩:=qc (sV ([116]++dec n));obtain⟨s2,hs2⟩:=qc (sV ([116]++dec n ++ [58]))
   have t1:∀w,(binOp .add 9 (.string ⟨#[116]⟩) s0).run Tryz.prog w=.ok s1 w:=by
    rw[hs0.out,hs1.out];exact xe [116] (dec n) (by have:=hdl.out;simp;omega)
   have t2:∀w,(binOp .add 9 s1 (.string ⟨#[58]⟩)).run Tryz.prog w=.ok s2 w:=by
    rw[hs1.out,hs2.out];exact xe ([116]++dec n) [58] (by have:=hdl.out;simp;omega)
   rw[<-hs0.out];clear p0 p1 p2 p3 p4
   have HW:Hid (Calls Tryz.prog 213 #[.pointer (some ⟨b,0,none⟩),s2] w2 (fun e w'=>(∃v,e=.returned v)/\xX W b (l++([116]++dec n ++ [58])) w'/\Oth b w2 w')):=by
    rw[hs2.out];refine (zD HB2.out (by have:=hdl.out;simp;omega)).mono ?_;rintro e w' ⟨rfl,h1,h2⟩;exact⟨⟨_,rfl⟩,h1,h2⟩
   go_wp2_with (go_at_call 213;refine q_o ?_);refine HW.out.mono ?_;rintro e w3 ⟨⟨v3,rfl⟩,b3,o3⟩;have HB3:=q_h b3;have HB03:=q_h (o3.blk HB02.out (by have:=HB.out.1.lt;omega) (by decide));have HO3:Hid (Oth b w w3):=(Oth.ext (hE.trans e2)).trans o3;have hn6:decide (65536<(n:Int))=false:=q_f (by have:=hn.out;omega);have hn6':decide (65536<n)=false:=q_f (by have:=hn.out;omega);clear HW b3 o3 t1 t2 HB2 HB02;obtain⟨p0,p1,p2,p3,p4⟩:=qC HB03.out
   have HW:Hid (Calls Tryz.prog 215 #[.pointer (some ⟨b,0,none⟩),.slice (some a) n k] w3 (fun e w'=>(∃v,e=.returned v)/\xX W b (l++enc (.txt s)) w'/\Oth b w3 w')):=by
    refine (Xt HB3.out HS.out hn.out ?_ ?_).mono ?_
    ·have:=hdl.out;have:=hn.out;simp;omega
    ·exact .inl hA9
    rintro e w' ⟨rfl,h1,h2⟩;refine⟨⟨_,rfl⟩,?_,h2⟩;have e9:l++([116]++dec n ++ [58])++s=l++enc (.txt s):=by unfold enc;rw[hn.out];simp
    rw[<-e9];exact h1
   go_wp2_with (go_at_call 215;refine q_o ?_);refine HW.out.mono ?_;rintro e w4 ⟨⟨v4,rfl⟩,b4,o4⟩;have HB4:=q_h b4;have HO4:=q_h (HO3.out.trans o4);clear HW b4 o4 p0 p1 p2 p3 p4;obtain⟨q,hq⟩:=qc (l++enc (.txt s)).length;have hq6:decide ((q:Int)<=65536)=true:=q_t (by have:=hq.out;rw[List.length_append] at this;omega);have hq6':decide (q<=65536)=true:=q_t (by have:=hq.out;rw[List.length_append] at this;omega);go_wp2_with (go_at_call 216;refine q_o ?_);refine (Ku HB4.out).mono ?_;rintro e w5 ⟨rfl,e5⟩;rw[<-hq.out];have HB5:=q_h (HB4.out.ext e5);have HO5:=q_h (HO4.out.trans (Oth.ext e5));go_wp2
   first|go_ret|skip
   rw[hQ.out];exact⟨rfl,HB5.out,HO5.out⟩
  | lst vs =>
   obtain⟨c1,c2,u,rfl,⟨A1,k1,rfl⟩,⟨A2,k2,rfl⟩,hL⟩:=hv.lst;obtain⟨A,k,rfl,hnk,hkm⟩:=hL.form;unfold maxLen at hkm;have HLV:=q_h hL;obtain⟨n,hn⟩:=qc vs.length
   have hnl:n<=65536:=by
    unfold y7 at hs;have:=hn.out;omega
   have HSM:Hid (QZ vs):=by unfold y7 at hs;exact hs.2
   obtain⟨h0,hh0⟩:=qc (l++([108]++dec n ++ [58]));have HEN:Hid (l++enc (.lst vs)=h0++zA vs):=by rw[Hid,hh0.out,hn.out];unfold enc;simp
   have HLL:Hid ((h0++zA vs).length<=65536):=by rw[Hid,<-HEN.out,List.length_append];exact hl
   have HSZ:Hid (szL vs<=m):=by unfold szV at hm;show szL vs<=m;omega
   rw[<-hn.out] at HLV hnk ⊢;rw[HEN.out] at hQ;clear hb ht hL hv hs hl hm;go_enter Tryz.func178,Tryz.ntmps178;go_upto_region 1 with (fail);refine qo ?_;intro w1 hE hsz B0;obtain⟨p0,p1,p2,p3,p4⟩:=qC B0;have HB0:=q_h B0;have HB1:=q_h (HB.out.ext hE);go_wp2_with (go_at_call 214;refine q_o ?_);refine (yK (n:=n) (by omega) (HTB.out.ext HB1.out.2)).mono ?_;rintro e w2 ⟨rfl,e2⟩;have HB2:=q_h (HB1.out.ext e2);have HB02:=q_h (e2.block HB0.out);have hdl:=q_h (jI (n:=n) hnl);obtain⟨s0,hs0⟩:=qc (sV (dec n));obtain⟨s1,hs1⟩:=qc (sV ([108]++dec n));obtain⟨s2,hs2⟩:=qc (sV ([108]++dec n ++ [58]))
   have t1:∀w,(binOp .add 9 (.string ⟨#[108]⟩) s0).run Tryz.prog w=.ok s1 w:=by
    rw[hs0.out,hs1.out];exact xe [108] (dec n) (by have:=hdl.out;simp;omega)
   have t2:∀w,(binOp .add 9 s1 (.string ⟨#[58]⟩)).run Tryz.prog w=.ok s2 w:=by
    rw[hs1.out,hs2.out];exact xe ([108]++dec n) [58] (by have:=hdl.out;simp;omega)
   rw[<-hs0.out];clear p0 p1 p2 p3 p4
   have HW:Hid (Calls Tryz.prog 213 #[.pointer (some ⟨b,0,none⟩),s2] w2 (fun e w'=>(∃v,e=.returned v)/\xX W b h0 w'/\Oth b w2 w')):=by
    rw[hs2.out,hh0.out];refine (zD HB2.out (by have:=hdl.out;simp;omega)).mono ?_;rintro e w' ⟨rfl,h1,h2⟩;exact⟨⟨_,rfl⟩,h1,h2⟩
   go_wp2_with (go_at_call 213;refine q_o ?_);refine HW.out.mono ?_;rintro e w3 ⟨⟨v3,rfl⟩,b3,o3⟩
   have HB3:Hid (xX W b (h0++zA (vs.take 0)) w3):=by
    rw[List.take_zero];unfold zA;rw[List.append_nil];exact b3
   have HB03:=q_h (o3.blk HB02.out (by have:=HB.out.1.lt;omega) (by decide));have HO3:Hid (Oth b w w3):=(Oth.ext (hE.trans e2)).trans o3;have HX3:Hid (w.heap.size<w3.heap.size):=qE HB03.out;clear HW b3 o3 t1 t2 HB2 HB02 HB1;obtain⟨p0,p1,p2,p3,p4⟩:=qC HB03.out;go_wp2_with fail
   go_loopw [21] (fun iv wr=>∃i:Nat,i<=n/\iv=.int .i64 (i:Int)/\Hid (xX W b (h0++zA (vs.take i)) wr)/\Hid (Oth b w wr)) (fun iv _=>n-(intOf iv).toNat)
   case atStart=>exact⟨0,Nat.zero_le _,rfl,HB3,HO3⟩
   case round =>
    clear HB3 HO3 p0 p1 p2 p3 p4;obtain⟨i,hi9,rfl,HBI,HOI⟩:=hrel
    by_cases hlt:i<n
    case neg =>
     have u1:decide ((i:Int)<(n:Int))=false:=q_f (by omega);have u1':decide (i<n)=false:=q_f hlt
     have HBF:Hid (xX W b (h0++zA vs) wr):=by
      have e9:vs.take i=vs:=List.take_of_length_le (by have:=hn.out;omega);rw[<-e9];exact HBI.out
     obtain⟨q,hq⟩:=qc (h0++zA vs).length;have hq6:decide ((q:Int)<=65536)=true:=q_t (by have:=hq.out;have:=HLL.out;omega);have hq6':decide (q<=65536)=true:=q_t (by have:=hq.out;have:=HLL.out;omega);go_wp2_with (go_at_call 216;refine q_o ?_);refine (Ku HBF.out).mono ?_;rintro e w5 ⟨rfl,e5⟩;rw[<-hq.out];have HB5:=q_h (HBF.out.ext e5);have HO5:=q_h (HOI.out.trans (Oth.ext e5));go_wp2
     first|go_ret|skip
     rw[hQ.out];exact⟨rfl,HB5.out,HO5.out⟩
    have u1:decide ((i:Int)<(n:Int))=true:=q_t (by omega);have u1':decide (i<n)=true:=q_t hlt;have u2:(i:Int)<(n:Int):=by omega
    obtain⟨g,off,rfl,hx⟩:=HLV.out.addr (by omega);obtain⟨d0,d1,d2,d3,d4,k0,k1',k2',k3,k4,hvi⟩:=hx i hlt;obtain⟨dz,db,D1,m1,j1,D2,m2,j2,D3,m3,j3,hdd⟩:=hvi.cells;simp only[Value.agg.injEq,Array.mk.injEq,List.cons.injEq,and_true] at hdd;obtain⟨rfl,rfl,rfl,rfl,rfl⟩:=hdd;have HVI:=q_h hvi;replace k0:=HBI.out.2.cell k0;replace k1':=HBI.out.2.cell k1';replace k2':=HBI.out.2.cell k2';replace k3:=HBI.out.2.cell k3;replace k4:=HBI.out.2.cell k4;obtain⟨wq,hwq⟩:∃wq,wq=wr:=⟨_,rfl⟩
    subst hwq;clear hx hvi;go_upto_region 6 with (fail);refine qo ?_;intro w4 e4 hsz4 B4;obtain⟨r0,r1,r2,r3,r4⟩:=qC B4;have HB4:=q_h (HBI.out.ext e4);have HO4:=q_h (HOI.out.trans (Oth.ext e4));clear k0 k1' k2' k3 k4;have hsi:=vG vs i (by have:=hn.out;omega);have hle:=ZV vs (i+1)
    have HW:Hid (Calls Tryz.prog 178 #[.pointer (some ⟨b,0,none⟩),.agg #[.int .i64 dz,.bool db,.slice D1 m1 j1,.slice D2 m2 j2,.slice D3 m3 j3]] w4 (YG W b (h0++zA (vs.take (i+1))) w4 (.bool true))):=by
     rw[hsi,<-List.append_assoc];refine Qu HT m (vs[i]?.getD default) ?_ W w4 b _ _ HVI.out (yx vs i HSM.out (by have:=hn.out;omega)) HTB.out HB4.out ?_
     ·have h1:=yw vs i (by have:=hn.out;omega);have:=HSZ.out;omega
     ·have h2:=HLL.out;rw[hsi] at hle;rw[List.length_append] at h2 hle ⊢;omega
    clear hsi hle;go_wp2_with (go_at_call 178;refine q_o ?_);refine HW.out.mono ?_;rintro e w5 ⟨rfl,b5,o5⟩;have HB5:=q_h b5;have HO5:=q_h (HO4.out.trans o5);clear HW b5 o5 r0 r1 r2 r3 r4 HBI HOI;go_wp2;go_roundw
    case rel=>exact⟨i+1,by omega,by go_num,HB5,HO5⟩
    case measure=>simp[intOf];omega
theorem XZ {y:Nat}(h0:0<y) (h:y<10):dg y=[y]:=by
 have:y=1\/y=2\/y=3\/y=4\/y=5\/y=6\/y=7\/y=8\/y=9:=by omega
 rcases this with h|h|h|h|h|h|h|h|h<;>subst h<;>(rw[dg];simp[bs,zt])
theorem Xh(h0:0<=z) (h9:z<10):Go.Lib.itoa z=[UInt8.ofNat (48+z.toNat)]:=by
 obtain⟨j,rfl⟩:=Int.eq_ofNat_of_zero_le h0;rw[Go.Lib.itoa_nonneg,Go.Lib.decDigits_one (by omega)]
 rfl
def RetB (w:World) (l:Byt) (e:Ending) (w':World):Prop:=∃v,e=.returned (.tuple #[v,.int .i64 0])/\GrB w.heap.size w' v l/\Ext w w'
theorem vK(HT:kF){V:Vl}(hv:VlV true N w V v) (hd:kL V<=8) (hs:y7 V) (ht:zu w) (hl:(enc V).length<=65536) :
  Calls Tryz.prog 134 #[v] w (RetB w (enc V)):=by
 have HV:=q_h hv;have HS:=q_h hs;have HTB:=q_h ht;obtain⟨z,nb,A1,n1,c1,A2,n2,c2,A3,n3,c3,rfl⟩:=hv.cells;have HD:Hid (decide (kL V<=8)=true):=q_t hd;clear hv hs ht hd;go_enter Tryz.func134,Tryz.ntmps134;go_upto_region 1 with (fail);refine qo ?_;intro w1 hE hsz B0;obtain⟨p0,p1,p2,p3,p4⟩:=qC B0;have HB0:=q_h B0;go_wp2_with (go_at_call 177;refine q_o ?_);refine (Qw (szV V) V (q_r) w1 _ 8 (by omega) (VlV.ext hE HV.out)).mono ?_;rintro e w2 ⟨rfl,e2⟩;rw[HD.out];have HE2:=q_h (hE.trans e2);have HB02:=q_h (e2.block HB0.out);clear p0 p1 p2 p3 p4 e2 hE;go_upto_region 4 with (fail)
 generalize hw3:w2.alloc _=w3
 have HB3:Hid (xX w2 w2.heap.size [] w3):=by rw[<-hw3];exact JK (Ext.refl _) (q_r)
 have HX3:Hid (Ext w2 w3):=by rw[<-hw3];exact (Ext.refl _).alloc _
 clear hw3;obtain⟨p0,p1,p2,p3,p4⟩:=qC (HX3.out.block HB02.out);go_wp2_with (go_at_call 178;refine q_o ?_);refine (Qu HT (szV V) V (q_r) w2 w3 _ [] _ (VlV.ext HE2.out HV.out) HS.out (HTB.out.ext HE2.out) HB3.out (by simpa using hl)).mono ?_;rintro e w4 ⟨rfl,b4,-⟩;have HB4:=q_h b4;clear b4 p0 p1 p2 p3 p4;go_wp2_with (go_at_call 179;refine q_o ?_);refine (Xu HB4.out).mono ?_;rintro e w5 ⟨v5,rfl,g5,e5⟩;have HG5:Hid (GrB w.heap.size w5 v5 (enc V)):=qw.low g5 HE2.out.size;have HE5:Hid (Ext w w5):=(HE2.out.trans HB4.out.2).trans e5;clear g5 e5;go_wp2
 first|go_ret2|skip
 exact⟨v5,rfl,HG5.out,HE5.out⟩
theorem zy:(Tryz.prog.info? 117).map (·.size)=some 5:=by kernel_rfl
theorem ByV.own{l:Byt}(h:ByV w (.slice (some ⟨b,0,none⟩) n c) l) (k:Chg lo hi w w') (hb:b<lo\/hi<=b):ByV w' (.slice (some ⟨b,0,none⟩) n c) l:=by
 obtain⟨A,c',hv,h1,h2,h3⟩:=h;injection hv with hA hn hc
 subst hA;refine⟨_,c',by rw[hn,hc],h1,h2,fun h=>?_⟩;obtain⟨b2,off,hA2,hx⟩:=h3 h;injection hA2 with hA2
 injection hA2 with e1 e2 _
 subst e1;subst e2;exact⟨b,0,rfl,fun i hi=>k.cell (hx i hi) hb⟩
def Qq (l:Byt) (w:World):Nat:=grownCap w l.length 0 5
def Yz (l:Byt) (w:World):World:=w.drew.alloc (.cells (bytesRow ⟨l.toArray⟩ (Qq l w)) 5 ((bytesRow ⟨l.toArray⟩ (Qq l w)).size,(bytesRow ⟨l.toArray⟩ (Qq l w)).size+1))
theorem Jc (l:Byt) (w:World):(convert 9 27 (sV l)).run Tryz.prog w=.ok (.slice (some ⟨w.heap.size,0,none⟩) l.length (Qq l w)) (Yz l w):=by
 have h:=run_bytes_of_string (P:=Tryz.prog) w 9 27 5 ⟨l.toArray⟩ zJ Tryz.underlying27 Tryz.underlying5;have e:(⟨l.toArray⟩:ByteArray).size=l.length:=by show l.toArray.size=_;rw[List.size_toArray]
 rw[e] at h;exact h
theorem JB (l:Byt) (w:World):Ext w (Yz l w):=(Ext.refl w).drew.alloc _
theorem qP (b o j:Nat):(⟨b,o,none⟩:Addr).add j=⟨b,o+j,none⟩:=by unfold Addr.add;split<;>simp_all
theorem kw {P:Program}{t e ty:TypeId}{i:TypeInfo}(ht:P.underlying t=some (.slice e)) (hi:P.info? e=some i) (b:Option Addr) (n k:Nat) (hle:n<=k) (A:Option Addr) (c:Nat) (w:World) :
  (Builtin.append_ #[t,t] ty #[.slice b n k,.slice A 0 c]).run P w=.ok (.slice b n k) w:=by
 cases A<;>cases b<;>simp[Builtin.append_,run_underlying ht,Builtin.lenOf,Builtin.firstCells,sizeOf,typeInfo,hi,storeCells,loadCells,loadCellsFrom,hle]
def GbB (base:Nat) (w:World) (v:Value) (l:Byt):Prop:=∃g cap,v=.slice (some ⟨g,0,none⟩) l.length cap/\base<=g/\(∃cs fr,w.heap[g]?=some (.cells cs 5 fr))/\l.length<=cap/\cap<=maxLen/\(∀i,i<l.length->w.cell? ⟨g,i,none⟩=some (.int .u8 (chZ l i)))/\∀j,j<cap->(w.cell? ⟨g,j,none⟩).isSome=true/\w.frozen? ⟨g,j,none⟩=false
theorem GbB.by {base:Nat}{w:World}{v:Value}{l:Byt}(h:GbB base w v l):ByV w v l:=by
 obtain⟨g,cap,rfl,h1,h2,h3,h4,h5,h6⟩:=h;exact⟨_,cap,rfl,h3,h4,fun _=>⟨g,0,rfl,fun i hi=>by rw[Nat.zero_add];exact h5 i hi⟩⟩
theorem GbB.cnv{l:Byt}(hb0:base<=w.heap.size) (hl:l.length<=65536):GbB base (Yz l w) (.slice (some ⟨w.heap.size,0,none⟩) l.length (Qq l w)) l:=by
 have hb:(Yz l w).heap[w.heap.size]?=some (.cells (bytesRow ⟨l.toArray⟩ (Qq l w)) 5 ((bytesRow ⟨l.toArray⟩ (Qq l w)).size,(bytesRow ⟨l.toArray⟩ (Qq l w)).size+1)):=heap_alloc_new w.drew _
 have hsz:Qq l w<=(bytesRow ⟨l.toArray⟩ (Qq l w)).size:=by
  have h1:l.length<=Qq l w:=grownCap_ge _ _ _ _;have hq:(⟨l.toArray⟩:ByteArray).size=l.length:=by show l.toArray.size=_;rw[List.size_toArray]
  simp[bytesRow]
  omega
 refine⟨_,_,rfl,hb0,⟨_,_,hb⟩,grownCap_ge _ _ _ _,grownCap_le_maxLen _ _ _ _ (by unfold maxLen;omega),fun i hi=>?_,fun j hj=>⟨?_,?_⟩⟩
 ·rw[qh hb];have h9:=bytesRow_at ⟨l.toArray⟩ (Qq l w) i (by show i<l.toArray.size;rw[List.size_toArray];exact hi);rw[h9,kQ hi]
  rfl
 ·rw[qh hb,Array.getElem?_eq_getElem (by omega)]
  rfl
 ·unfold World.frozen?;rw[hb];have:¬(bytesRow ⟨l.toArray⟩ (Qq l w)).size<=j:=by omega
  simp[this]
end
section
structure Ob where
 links:List Byt
 data:Byt
structure Tg where
 name:Byt
 target:Byt
structure Shf where
 size:Int
 seq:Int
 half:Int
 used:Int
 objs:List Ob
 tags:List Tg
structure qM where
 page:Int
 data:Byt
 bar:Bool
def wH (o:Ob):Vl:=.lst (o.links.map .txt)
def qK (o:Ob):Byt:=nmB (enc (.lst [wH o,.txt o.data]))
def obC (o:Ob):Int:=if 16<o.links.length\/1024<o.data.length then 3 else if o.links.all QS then 0 else 10
def obE (o:Ob):Byt:=enc (.lst [.int 0,wH o,.txt o.data])
def tgE (t:Tg):Byt:=enc (.lst [.int 1,.txt t.name,.txt t.target])
def pgN (e:Byt):Nat:=(4+e.length+63) / 64
def isLow (c:UInt8):Bool:=97<=c.toNat&&c.toNat<=122
def KJ (c:UInt8):Bool:=isLow c||(48<=c.toNat&&c.toNat<=57)||c.toNat == 46||c.toNat == 45
def XX (s:Byt):Bool:=QS s||(match s with|[]=>false|c :: _=>isLow c&&(s.length<=24&&s.all KJ))
def xJ (known:List Byt) (o:Ob):Bool:=obC o == 0&&(!known.contains (qK o)&&o.links.all (known.contains ·))
def vw:List Byt->List Ob->Bool
 | _,[]=>true
 | known,o :: l=>xJ known o&&vw (known ++ [qK o]) l
def QH (known:List Byt):Option Byt->List Tg->Bool
 | _,[]=>true
 | p,t :: l=>XX t.name&&(known.contains t.target&&((match p with|none=>true|some q=>Go.Op.bytesLess q t.name)&&QH known (some t.name) l))
def pgs (s:Shf):Nat:=(s.objs.map fun o=>pgN (obE o)).sum+(s.tags.map fun t=>pgN (tgE t)).sum
def xy (s:Shf):List Byt:=s.objs.map qK
def qV (n:Int):Int:=(n-2).tdiv 2
def headB (s:Shf):Bool:=decide (8<=s.size)&&(decide (s.size<=4096)&&(decide (0<=s.seq)&&(decide (s.seq<=2147483647)&&(decide (0<=s.half)&&(decide (s.half<=1)&&decide (s.used<=qV s.size))))))
def qN (s:Shf):Bool:=headB s&&(vw [] s.objs&&(QH (xy s) none s.tags&&decide ((pgs s:Int)<=s.used)))
def b4 (n:Int):Byt:=[UInt8.ofNat (n / 16777216 % 256).toNat,UInt8.ofNat (n / 65536 % 256).toNat,UInt8.ofNat (n / 256 % 256).toNat,UInt8.ofNat (n % 256).toNat]
def xB (seq half used:Int):Byt:=[70,83,66,49]++b4 seq ++ [UInt8.ofNat (half % 256).toNat]++b4 used++List.replicate 51 0
theorem ja (a b c:Int):(xB a b c).length=64:=by simp[xB,b4]
def jG (e:Byt):Byt:=b4 e.length++e++List.replicate (64*pgN e-4-e.length) 0
def wrA (e:Byt) (page:Int):List qM:=(List.range (pgN e)).map fun (i:Nat)=>⟨page+i,((jG e).drop (64*i)).take 64,false⟩
def comA (s:Shf):List qM:=[⟨0,[],true⟩,⟨s.seq.tmod 2,xB s.seq s.half s.used,false⟩,⟨0,[],true⟩]
def XC (s:Shf) (e:Byt):Option (Shf×List qM) :=
 if qV s.size<s.used+pgN e\/s.seq=2147483647 then none
 else
  let t:Shf:={ s with used:=s.used+pgN e,seq:=s.seq+1 }
  some (t,wrA e (2+s.half*qV s.size+s.used)++comA t)
instance:DecidableEq Ob:=fun a b=>by
 cases a;cases b
 rename_i a1 a2 b1 b2
 exact if h:a1=b1/\a2=b2 then .isTrue (by rw[h.1,h.2]) else .isFalse (fun e=>h (by injection e with e1 e2;exact⟨e1,e2⟩))
def zeroS:Shf:=⟨0,0,0,0,[],[]⟩
def yA (s:Shf) (o:Ob):Shf×List qM×Byt×Int :=
 if qN s=false then (zeroS,[],[],1)
 else if obC o≠0 then (zeroS,[],[],obC o)
 else match (xy s).idxOf? (qK o) with
  | some i=>if s.objs[i]?=some o then (s,[],qK o,0) else (zeroS,[],[],18)
  | none =>
   if o.links.all ((xy s).contains ·)=false then (zeroS,[],[],6)
   else match XC s (obE o) with
    | none=>(zeroS,[],[],17)
    | some (t,acts)=>({ t with objs:=s.objs ++ [o] },acts,qK o,0)
end
section
open Go.RowKit
instance:Inhabited Ob:=⟨⟨[],[]⟩⟩
instance:Inhabited Tg:=⟨⟨[],[]⟩⟩
instance:Inhabited qM:=⟨⟨0,[],false⟩⟩
def jT (R:Nat->Value->Prop) (w:World) (v:Value) (n:Nat):Prop:=∃(A:Option Addr) (c:Nat),v=.slice A n c/\n<=c/\c<=maxLen/\(0<n->∃g off,A=some ⟨g,off,none⟩/\∀i,i<n->∃x,w.cell? ⟨g,off+i,none⟩=some x/\R i x)
def Q4 (R:Nat->Value->Value->Prop) (w:World) (v:Value) (n:Nat):Prop:=∃(A:Option Addr) (c:Nat),v=.slice A n c/\n<=c/\c<=maxLen/\(0<n->∃g off,A=some ⟨g,off,none⟩/\∀i,i<n->∃x y,w.cell? ⟨g,off+i*2,none⟩=some x/\w.cell? ⟨g,off+i*2+1,none⟩=some y/\R i x y)
def KO (R:Nat->Value->Value->Value->Prop) (w:World) (v:Value) (n:Nat):Prop:=∃(A:Option Addr) (c:Nat),v=.slice A n c/\n<=c/\c<=maxLen/\(0<n->∃g off,A=some ⟨g,off,none⟩/\∀i,i<n->∃x y z,w.cell? ⟨g,off+i*3,none⟩=some x/\w.cell? ⟨g,off+i*3+1,none⟩=some y/\w.cell? ⟨g,off+i*3+2,none⟩=some z/\R i x y z)
section
variable {w w':World}{v:Value}{n:Nat}
theorem jT.ext {R R':Nat->Value->Prop}(h:jT R w v n) (e:Ext w w') (H:∀i x,i<n->R i x->R' i x):jT R' w' v n:=by
 obtain⟨A,c,h1,h2,h3,h4⟩:=h;refine⟨A,c,h1,h2,h3,fun hn=>?_⟩;obtain⟨g,off,h5,h6⟩:=h4 hn;exact⟨g,off,h5,fun i hi=>by obtain⟨x,h7,h8⟩:=h6 i hi;exact⟨x,e.cell h7,H i x hi h8⟩⟩
theorem Q4.ext {R R':Nat->Value->Value->Prop}(h:Q4 R w v n) (e:Ext w w') (H:∀i x y,i<n->R i x y->R' i x y):Q4 R' w' v n:=by
 obtain⟨A,c,h1,h2,h3,h4⟩:=h;refine⟨A,c,h1,h2,h3,fun hn=>?_⟩;obtain⟨g,off,h5,h6⟩:=h4 hn;exact⟨g,off,h5,fun i hi=>by obtain⟨x,y,h7,h8,h9⟩:=h6 i hi;exact⟨x,y,e.cell h7,e.cell h8,H i x y hi h9⟩⟩
theorem KO.ext {R R':Nat->Value->Value->Value->Prop}(h:KO R w v n) (e:Ext w w') (H:∀i x y z,i<n->R i x y z->R' i x y z):KO R' w' v n:=by
 obtain⟨A,c,h1,h2,h3,h4⟩:=h;refine⟨A,c,h1,h2,h3,fun hn=>?_⟩;obtain⟨g,off,h5,h6⟩:=h4 hn;exact⟨g,off,h5,fun i hi=>by obtain⟨x,y,z,h7,h8,h9,h0⟩:=h6 i hi;exact⟨x,y,z,e.cell h7,e.cell h8,e.cell h9,H i x y z hi h0⟩⟩
theorem jT.form {R:Nat->Value->Prop}(h:jT R w v n):∃A c,v=.slice A n c/\n<=c/\c<=maxLen:=by
 obtain⟨A,c,h1,h2,h3,-⟩:=h;exact⟨A,c,h1,h2,h3⟩
theorem Q4.form {R:Nat->Value->Value->Prop}(h:Q4 R w v n):∃A c,v=.slice A n c/\n<=c/\c<=maxLen:=by
 obtain⟨A,c,h1,h2,h3,-⟩:=h;exact⟨A,c,h1,h2,h3⟩
theorem KO.form {R:Nat->Value->Value->Value->Prop}(h:KO R w v n):∃A c,v=.slice A n c/\n<=c/\c<=maxLen:=by
 obtain⟨A,c,h1,h2,h3,-⟩:=h;exact⟨A,c,h1,h2,h3⟩
theorem jT.addr {R:Nat->Value->Prop}(h:jT R w (.slice A n k) n) (hn:0<n):∃g off,A=some ⟨g,off,none⟩/\∀i,i<n->∃x,w.cell? ⟨g,off+i,none⟩=some x/\R i x:=by
 obtain⟨A',c,h1,-,-,h4⟩:=h;obtain⟨rfl,-,-⟩:=Value.slice.inj h1;exact h4 hn
theorem Q4.addr {R:Nat->Value->Value->Prop}(h:Q4 R w (.slice A n k) n) (hn:0<n):∃g off,A=some ⟨g,off,none⟩/\∀i,i<n->∃x y,w.cell? ⟨g,off+i*2,none⟩=some x/\w.cell? ⟨g,off+i*2+1,none⟩=some y/\R i x y:=by
 obtain⟨A',c,h1,-,-,h4⟩:=h;obtain⟨rfl,-,-⟩:=Value.slice.inj h1;exact h4 hn
theorem KO.addr {R:Nat->Value->Value->Value->Prop}(h:KO R w (.slice A n k) n) (hn:0<n):∃g off,A=some ⟨g,off,none⟩/\∀i,i<n->∃x y z,w.cell? ⟨g,off+i*3,none⟩=some x/\w.cell? ⟨g,off+i*3+1,none⟩=some y/\w.cell? ⟨g,off+i*3+2,none⟩=some z/\R i x y z:=by
 obtain⟨A',c,h1,-,-,h4⟩:=h;obtain⟨rfl,-,-⟩:=Value.slice.inj h1;exact h4 hn
end
def zF (w:World) (v:Value) (l:List Byt):Prop:=jT (fun i x=>x=sV (l.getD i [])) w v l.length
def kS (w:World) (v:Value) (l:List Byt):Prop:=jT (fun i x=>ByV w x (l.getD i [])) w v l.length
def ObR (w:World) (x y:Value) (o:Ob):Prop:=zF w x o.links/\ByV w y o.data
def vN (w:World) (v:Value) (l:List Ob):Prop:=Q4 (fun i x y=>ObR w x y (l.getD i default)) w v l.length
def wZ (w:World) (v:Value) (l:List Tg):Prop:=Q4 (fun i x y=>x=sV (l.getD i default).name/\y=sV (l.getD i default).target) w v l.length
def ActR (w:World) (x y z:Value) (a:qM):Prop:=x=.int .i64 a.page/\ByV w y a.data/\z=.bool a.bar
def qZ (w:World) (v:Value) (l:List qM):Prop:=KO (fun i x y z=>ActR w x y z (l.getD i default)) w v l.length
def ShfV (w:World) (v:Value) (s:Shf):Prop:=∃x y,v=.agg #[.int .i64 s.size,.int .i64 s.seq,.int .i64 s.half,.int .i64 s.used,x,y]/\vN w x s.objs/\wZ w y s.tags
section
variable {w w':World}
theorem zF.ext{l:List Byt}(h:zF w v l) (e:Ext w w'):zF w' v l:=jT.ext h e (fun _ _ _ h=>h)
theorem kS.ext{l:List Byt}(h:kS w v l) (e:Ext w w'):kS w' v l:=jT.ext h e (fun _ _ _ h=>h.ext e)
theorem ObR.ext {x y:Value}{o:Ob}(h:ObR w x y o) (e:Ext w w'):ObR w' x y o:=⟨h.1.ext e,h.2.ext e⟩
theorem vN.ext{l:List Ob}(h:vN w v l) (e:Ext w w'):vN w' v l:=Q4.ext h e (fun _ _ _ _ h=>h.ext e)
theorem wZ.ext{l:List Tg}(h:wZ w v l) (e:Ext w w'):wZ w' v l:=Q4.ext h e (fun _ _ _ _ h=>h)
theorem qZ.ext{l:List qM}(h:qZ w v l) (e:Ext w w'):qZ w' v l:=KO.ext h e (fun _ _ _ _ _ h=>⟨h.1,h.2.1.ext e,h.2.2⟩)
end
theorem ByV.form{l:Byt}(h:ByV w v l):∃A c,v=.slice A l.length c/\l.length<=c/\c<=maxLen:=by
 obtain⟨A,c,h1,h2,h3,-⟩:=h;exact⟨A,c,h1,h2,h3⟩
theorem ByV.addr{l:Byt}(h:ByV w (.slice A n k) l) (hn:0<n):∃g off,A=some ⟨g,off,none⟩/\∀i,i<n->w.cell? ⟨g,off+i,none⟩=some (.int .u8 (chZ l i)):=by
 obtain⟨A',c,h1,-,-,h4⟩:=h;obtain⟨rfl,rfl,-⟩:=Value.slice.inj h1;exact h4 hn
theorem GbB.ext{l:Byt}(h:GbB base w v l) (e:Ext w w'):GbB base w' v l:=by
 obtain⟨g,cap,rfl,h1,⟨cs,fr,h2⟩,h3,h4,h5,h6⟩:=h;refine⟨g,cap,rfl,h1,⟨cs,fr,e.block h2⟩,h3,h4,fun i hi=>e.cell (h5 i hi),fun j hj=>?_⟩;rw[qh (e.block h2),<-qh h2];refine⟨(h6 j hj).1,?_⟩;have h9:=(h6 j hj).2;unfold World.frozen? at h9 ⊢;rw[h2] at h9;rw[e.block h2];exact h9
theorem GbB.mono {b':Nat}{l:Byt}(h:GbB base w v l) (hb:b'<=base):GbB b' w v l:=by
 obtain⟨g,cap,rfl,h1,h2⟩:=h;exact⟨g,cap,rfl,by omega,h2⟩
theorem GbB.form{l:Byt}(h:GbB base w v l):∃g cap,v=.slice (some ⟨g,0,none⟩) l.length cap/\base<=g/\g<w.heap.size/\l.length<=cap/\cap<=maxLen:=by
 obtain⟨g,cap,rfl,h1,⟨cs,fr,h2⟩,h3,h4,-⟩:=h;exact⟨g,cap,rfl,h1,qE h2,h3,h4⟩
theorem GrB.ext{l:Byt}(h:GrB base w v l) (e:Ext w w'):GrB base w' v l:=qw.ext h e
end
section
section
variable {P:Program}{ops:Array Oper}{Q:Exit->Act->World->Prop}{S:World->Prop}{late:List Nat}
theorem sF (i:Nat){oi:Oper}{fuel:Nat}{listed:Array Bool}{a:Act}(hi:ops.toList[i]?=some oi:=by rfl)
  (hs:Region.noSelect ops=true:=by kernel_rfl) (hf:Region.free .any ops listed i=true:=by kernel_rfl) (hr:(Region.ready .any ops listed).contains i=true:=by kernel_rfl)
  (hQ:∀c a w,Q (.panic c) (a.put oi.dst undef) w->Q (.panic c) a w:=by exact fun _ _ _ h=>h) (hg:Region.wanted oi (yielded ops a.tmps)=false:=by rfl)
  {L':Array Bool}{A':Act}(hL:listed.setIfInBounds i true=L':=by first|(simp only[nr];done)|(simp only[nr];rfl)|rfl) (hA:a.put oi.dst undef=A':=by first|(simp only[nr];done)|(simp only[nr];rfl)|rfl)
  (h:zK P ops Q S late fuel L' A' w):zK P ops Q S late (fuel+1) listed a w :=
 jZ hi hs hf hr hQ (Or.inr ⟨hg,rfl⟩) (by rw[hL,hA];exact h)
end
end
section
open Go.RowKit
theorem XR {a b:Byt}(h:sV a=sV b):a=b:=by
 unfold sV at h;injection h with h
 injection h with h
 have:=congrArg Array.toList h;simpa using this
theorem Jb (a b:Byt):Instr.sameNow .string (sV a) (sV b)=some (decide (a=b)):=by
 unfold sV Instr.sameNow
 by_cases h:a=b
 ·subst h;have:((⟨a.toArray⟩:ByteArray) == ⟨a.toArray⟩)=true:=(MapKept.bytes_beq _ _).2 rfl;simp[this]
 ·have h1:((⟨a.toArray⟩:ByteArray) == ⟨b.toArray⟩)=false:=by
   cases h2:((⟨a.toArray⟩:ByteArray) == ⟨b.toArray⟩) with
   | false=>rfl
   | true =>
    have h3:=(MapKept.bytes_beq _ _).1 h2;exact absurd (XR (by unfold sV;rw[h3])) h
  simp[h1,h]
def ixM:List (Byt×Value)->Byt->Option Nat
 | [],_=>none
 | p :: l,k=>if k=p.1 then some 0 else (ixM l k).map (· + 1)
def lkM:List (Byt×Value)->Byt->Option Value
 | [],_=>none
 | p :: l,k=>if k=p.1 then some p.2 else lkM l k
def puM (v:Value):List (Byt×Value)->Byt->List (Byt×Value)
 | [],k=>[(k,v)]
 | p :: l,k=>if k=p.1 then (k,v) :: l else p :: puM v l k
theorem je {l:List (Byt×Value)}{k:Byt}(v:Value) (h:ixM l k=none):lkM l k=none/\puM v l k=l ++ [(k,v)]:=by
 induction l with
 | nil=>exact⟨rfl,rfl⟩
 | cons p l ih =>
  unfold ixM at h;unfold lkM puM
  by_cases h9:k=p.1
  ·rw[if_pos h9] at h;cases h
  ·rw[if_neg h9] at h ⊢;rw[if_neg h9];have:=ih (by simpa using h);exact⟨this.1,by rw[this.2];rfl⟩
theorem Jo {l:List (Byt×Value)}{k:Byt}(h:ixM l k=none):∀p∈l,p.1≠k:=by
 induction l with
 | nil=>intro p hp;cases hp
 | cons q l ih =>
  unfold ixM at h
  by_cases h9:k=q.1
  ·rw[if_pos h9] at h;cases h
  ·rw[if_neg h9] at h;intro p hp
   rcases List.mem_cons.1 hp with rfl|hp
   ·exact fun e=>h9 e.symm
   ·exact ih (by simpa using h) p hp
theorem yC {l:List (Byt×Value)}{k:Byt}(v:Value) (h:ixM l k=some j):∃u,l[j]?=some (k,u)/\lkM l k=some u/\puM v l k=l.set j (k,v):=by
 induction l generalizing j with
 | nil=>cases h
 | cons p l ih =>
  unfold ixM at h;unfold lkM puM
  by_cases h9:k=p.1
  ·rw[if_pos h9] at h ⊢;rw[if_pos h9];obtain rfl:0=j:=by simpa using h
   obtain⟨a,u⟩:=p;subst h9;exact⟨u,rfl,rfl,rfl⟩
  ·rw[if_neg h9] at h ⊢;rw[if_neg h9];simp only[Option.map_eq_some_iff] at h;obtain⟨m,hm,rfl⟩:=h;obtain⟨u,h1,h2,h3⟩:=ih hm;exact⟨u,by simpa using h1,h2,by rw[h3];rfl⟩
theorem wJ {l:List (Byt×Value)}{k:Byt}(h:lkM l k=none):ixM l k=none:=by
 cases h1:ixM l k with
 | none=>rfl
 | some j =>
  obtain⟨u,-,h2,-⟩:=yC (.int .i64 0) h1;rw[h] at h2;cases h2
def Z4 (es:List MapEntry) (l:List (Byt×Value)):Prop:=es.map (fun e=>(e.key,e.val))=l.map (fun p=>(sV p.1,p.2))
theorem ZP (k:Byt):∀(es:List MapEntry) (l:List (Byt×Value)) (i:Nat),Z4 es l->Instr.findNow .string (sV k) es i=some (match ixM l k,lkM l k with|some j,some v=>some (i+j,v)|_,_=>none)
 | [],[],i,_=>rfl
 | [],_ :: _,_,h=>by unfold Z4 at h;simp at h
 | _ :: _,[],_,h=>by unfold Z4 at h;simp at h
 | e :: es,p :: l,i,h=>by
  unfold Z4 at h;simp only[List.map_cons,List.cons.injEq,Prod.mk.injEq] at h;obtain⟨⟨h1,h2⟩,h3⟩:=h;have ih:=ZP k es l (i+1) h3;unfold Instr.findNow;rw[h1,Jb];unfold ixM lkM
  by_cases h9:k=p.1
  ·rw[if_pos h9,if_pos h9,q_t h9];simp[h2]
  ·rw[if_neg h9,if_neg h9,q_f h9];simp only[];rw[ih];cases h5:ixM l k with
   | none=>simp
   | some j =>
    cases h6:lkM l k with
    | none=>simp
    | some v=>simp only[Option.map_some];rw[show i+1+j=i+(j+1) by omega]
def MpS (w:World) (g:Nat) (l:List (Byt×Value)):Prop:=∃es clock,w.heap[g]?=some (.map es clock)/\Z4 es.toList l/\MapKept.Stamped es clock
theorem MpS.ext{l:List (Byt×Value)}(h:MpS w g l) (e:Ext w w'):MpS w' g l:=by
 obtain⟨es,k,h1,h2⟩:=h;exact⟨es,k,e.block h1,h2⟩
theorem MpS.chg{l:List (Byt×Value)}(h:MpS w g l) (e:Chg lo hi w w') (hg:g<lo\/hi<=g):MpS w' g l:=by
 obtain⟨es,k,h1,h2⟩:=h;exact⟨es,k,e.blk h1 hg,h2⟩
theorem MpS.lt{l:List (Byt×Value)}(h:MpS w g l):g<w.heap.size:=by
 obtain⟨es,k,h1,-⟩:=h;exact (Array.getElem?_eq_some_iff.1 h1).1
theorem ZI (k:Byt):MapKept.IsKey .string (sV k):=trivial
section
variable {mt et:TypeId}{z:Value}
theorem Xb (hm:Tryz.prog.underlying mt=some (.map 9 et))(hz:(zeroValue et).run Tryz.prog w=.ok z w){l:List (Byt×Value)}(h:MpS w g l) (k:Byt) (cm:Bool) :
  (Instr.lookup mt (.map (some g)) (sV k) cm).run Tryz.prog w=.ok (if cm then .tuple #[(lkM l k).getD z,.bool (lkM l k).isSome] else (lkM l k).getD z) w:=by
 obtain⟨es,q,h1,h2,-⟩:=h;have hc:∀em,(Instr.checkKey em 10000 9 (sV k)).run Tryz.prog w=.ok () w:=fun em=>MapKept.run_checkKey zJ (ZI k) em 9999
 have hf:(Instr.findKey 9 (sV k) es.toList).run Tryz.prog w=.ok (match ixM l k,lkM l k with|some j,some v=>some (0+j,v)|_,_=>none) w:=MapKept.run_findKey zJ (ZP k es.toList l 0 h2);unfold Instr.lookup;simp only[Sem.run_bind,run_underlying hm,Result.andThen_ok,MapKept.run_getObj_map h1,Sem.run_pure,hc,hf];cases h5:ixM l k with
 | none =>
  rw[(je z h5).1];cases cm<;>simp[hz]
 | some j =>
  obtain⟨u,-,h6,-⟩:=yC z h5;rw[h6];cases cm<;>simp
theorem vC{o o':Obj}(h:w.heap[g]?=some o):(w.heap.setIfInBounds g o')[g]?=some o':=by
 have hg:g<w.heap.size:=(Array.getElem?_eq_some_iff.1 h).1;rw[Array.getElem?_setIfInBounds,if_pos rfl,if_pos hg]
theorem Qr{es:Array MapEntry}(h:w.heap[g]?=some (.map es k)) (o:Obj):Chg g (g+1) w { w with heap:=w.heap.setIfInBounds g o } :=
 ⟨rfl,rfl,rfl,by simp,fun i _ hd=>by
  have hne:¬g=i:=by
   rintro rfl
   rcases hd with h1|h1|⟨cs,fr,h1⟩
   ·omega
   ·omega
   ·rw[h] at h1;cases h1
  show (w.heap.setIfInBounds g o)[i]?=w.heap[i]?
  rw[Array.getElem?_setIfInBounds,if_neg hne]⟩
theorem ZT {es:List MapEntry}{l:List (Byt×Value)}(h:Z4 es l){p:Byt×Value}(hj:l[j]?=some p):∃e,es[j]?=some e/\e.key=sV p.1/\e.val=p.2:=by
 have h1:(es.map fun e=>(e.key,e.val))[j]?=(l.map fun p=>(sV p.1,p.2))[j]?:=by rw[show es.map (fun e=>(e.key,e.val))=_ from h]
 rw[List.getElem?_map,List.getElem?_map,hj] at h1;cases h2:es[j]? with
 | none=>rw[h2] at h1;simp at h1
 | some e =>
  rw[h2] at h1;simp only[Option.map_some,Option.some.injEq,Prod.mk.injEq] at h1;exact⟨e,rfl,h1.1,h1.2⟩
theorem Qm {es:List MapEntry}{l:List (Byt×Value)}(h:Z4 es l){e:MapEntry}(he:e∈es):∃p∈l,e.key=sV p.1/\e.val=p.2:=by
 have h1:(e.key,e.val)∈es.map fun e=>(e.key,e.val):=List.mem_map.2 ⟨e,he,rfl⟩
 rw[show es.map (fun e=>(e.key,e.val))=_ from h] at h1;obtain⟨p,hp,h2⟩:=List.mem_map.1 h1;injection h2 with h3 h4
 exact⟨p,hp,h3.symm,h4.symm⟩
theorem Xn {es:List MapEntry}{l:List (Byt×Value)}(h:Z4 es l) (j:Nat) (k:Byt) (v:Value):Z4 (es.modify j fun e=>{ e with key:=sV k,val:=v }) (l.set j (k,v)):=by
 unfold Z4;refine List.ext_getElem? fun i=>?_
 have h1:(es.map fun e=>(e.key,e.val))[i]?=(l.map fun p=>(sV p.1,p.2))[i]?:=by rw[show es.map (fun e=>(e.key,e.val))=_ from h]
 rw[List.getElem?_map,List.getElem?_map] at h1;rw[List.getElem?_map,List.getElem?_map,List.getElem?_modify,List.getElem?_set]
 by_cases hij:j=i
 ·subst hij;rw[if_pos rfl];cases h2:es[j]? with
  | none =>
   rw[h2] at h1
   have h3:l[j]?=none:=by
    cases h4:l[j]? with
    | none=>rfl
    | some p=>rw[h4] at h1;simp at h1
   rw[if_neg (by rw[List.getElem?_eq_none_iff] at h3;omega)]
   rfl
  | some e =>
   rw[h2] at h1
   have h3:j<l.length:=by
    cases h4:l[j]? with
    | none=>rw[h4] at h1;simp at h1
    | some p=>exact (List.getElem?_eq_some_iff.1 h4).1
   rw[if_pos h3]
   simp
 ·rw[if_neg hij];rw[show (fun e=>if j=i then ({ e with key:=sV k,val:=v }:MapEntry) else e)=id by funext e;rw[if_neg hij];rfl];simpa using h1
theorem Xa (hm:Tryz.prog.underlying mt=some (.map 9 et)){l:List (Byt×Value)}(h:MpS w g l) (k:Byt) (v:Value) :
  ∃w',(Instr.mapUpdate mt (.map (some g)) (sV k) v).run Tryz.prog w=.ok () w'/\MpS w' g (puM v l k)/\Chg g (g+1) w w':=by
 obtain⟨es,q,h1,h2,hst⟩:=h;have hc:∀em,(Instr.checkKey em 10000 9 (sV k)).run Tryz.prog w=.ok () w:=fun em=>MapKept.run_checkKey zJ (ZI k) em 9999
 have hf:(Instr.findKey 9 (sV k) es.toList).run Tryz.prog w=.ok (match ixM l k,lkM l k with|some j,some v=>some (0+j,v)|_,_=>none) w:=MapKept.run_findKey zJ (ZP k es.toList l 0 h2);unfold Instr.mapUpdate;simp only[Sem.run_bind,run_underlying hm,Result.andThen_ok,MapKept.run_getObj_map h1,Sem.run_pure,hc,hf];cases h5:ixM l k with
 | none =>
  rw[(je v h5).1,(je v h5).2];simp only[Result.andThen_ok];rw[MapKept.run_setObj_map _ h1]
  exact⟨_,rfl,⟨_,_,vC h1,(by
   unfold Z4 at h2 ⊢;rw[Array.toList_push,List.map_append,List.map_append,h2]
   rfl),MapKept.stamped_push hst fun x hx e=>by
    obtain⟨p,hp,h6,-⟩:=Qm h2 hx
    exact Jo h5 p hp (XR (h6.symm.trans e))⟩,Qr h1 _⟩
 | some j =>
  obtain⟨u,h7,h6,h8⟩:=yC v h5;rw[h6,h8];obtain⟨e,h9,h10,-⟩:=ZT h2 h7
  have h11:((es[0+j]?).map (·.key)).getD (sV k)=sV k:=by
   rw[Nat.zero_add,<-Array.getElem?_toList,h9];exact h10
  simp only[Result.andThen_ok,Sem.run_bind];rw[h11,MapKept.run_keyThatStays (ZI k),Result.andThen_ok,MapKept.run_setObj_map _ h1,Nat.zero_add]
  exact⟨_,rfl,⟨_,_,vC h1,(by
   rw[Array.toList_modify]
   exact Xn h2 j k v),MapKept.stamped_modify hst _ _ (fun _ _=>rfl) (fun e' _ he'=>by
    rw[<-Array.getElem?_toList,h9] at he'
    exact (Option.some.inj he') ▸ h10.symm)⟩,Qr h1 _⟩
end
end
section
open Go.RowKit
structure Cls (ET:TypeId) (k:Nat) (z0:Value) (bz:Nat):Prop where
 inf:(Tryz.prog.info? ET).map (fun i=>(i.zero,i.size,i.bytes))=some (some z0,k,bz)
 cells:z0.cells.size=k
 pos:0<k
 lk:k<=10
 le:bz<=100
 ne:ET≠196
def qy (ET:TypeId) (k base:Nat) (w:World) (v:Value) (n:Nat) (xs:List Value):Prop:=base<=w.heap.size/\w.ownsRow base ET k v n xs
section
variable {ET:TypeId}{k:Nat}{z0:Value}{bz:Nat}
theorem qy.empty(hb:base<=g) (h:w.heap[g]?=some (.cells #[] ET (0,0))):qy ET k base w (.slice (some ⟨g,0,none⟩) 0 0) 0 [] :=
 ⟨by have:=qE h;omega,by simp,.inr ⟨g,0,#[],rfl,hb,h,q_r,Nat.zero_le _,by simp,by simp⟩⟩
theorem qy.ext{xs:List Value}(h:qy ET k base w v n xs) (e:Ext w w'):qy ET k base w' v n xs:=by
 refine⟨q_l h.1 e.size,h.2.1,?_⟩
 rcases h.2.2 with h0|⟨g,cap,cur,hv,hb,hh,h1,h2,h3,h4⟩
 ·exact .inl h0
 ·exact .inr ⟨g,cap,cur,hv,hb,e.block hh,h1,h2,h3,h4⟩
theorem xO (hc:Cls ET k z0 bz){xs:List Value}(t ty:TypeId) (ht:Tryz.prog.underlying t=some (.slice ET)) (h:qy ET k base w v n xs){a:Addr}{news:List Value}(hl:news.length=m*k)
  (hnews:∀j u,news[j]?=some u->w.cell? (a.add j)=some u) (h1:∀u∈news,u.oneCell'=true) (hn:n+m<=1000000) :
  ∃v' w',(Builtin.append_ #[t,t] ty #[v,.slice (some a) m c]).run Tryz.prog w=.ok v' w'/\qy ET k base w' v' (n+m) (xs++news)/\(v'.ownBlock=v.ownBlock\/v'.ownBlock=some w.heap.size)/\(∃g',base<=g'/\(v.ownBlock=some g'\/g'=w.heap.size)/\Chg g' (g'+1) w w'):=by
 obtain⟨i0,hi0,hz0,hz1,hz2⟩:=info_parts hc.inf;obtain⟨hb0,hown⟩:=h;have hle:=hc.le
 obtain⟨v',w',hrun,hO,hgr,-,hat⟩:=run_append_own_at (P:=Tryz.prog) w base t ty ET i0 _ k bz ht hi0 hz0 hz1 hz2 hc.cells hc.pos v n xs hown a m c news (by omega) hnews h1 (by unfold maxLen;omega)
  (q_l (Nat.mul_le_mul hn hc.le) (by decide)) hb0
 refine⟨v',w',hrun,⟨q_l hb0 hgr.size,hO⟩,hat,?_⟩;have hT:NoU w w.heap.size:=fun cs fr h=>by rw[Array.getElem?_eq_none (q_r)] at h;cases h
 rcases hown.2 with ⟨rfl,h0⟩|⟨g0,cap0,cur,rfl,hbb,hh,_⟩
 ·exact⟨w.heap.size,hb0,.inr rfl,xk hgr (fun k hk=>by simp[Value.ownBlock] at hk) hT⟩
 ·have hT0:NoU w g0:=NoU.mk hh hc.ne;exact⟨g0,hbb,.inl rfl,xk hgr (fun k hk=>by simpa[Value.ownBlock] using hk.symm) hT0⟩
theorem zo (hc:Cls ET k z0 bz){xs:List Value}{ops:Array Oper}{rest:List Oper}{o:Oper}{a:Act}{Q:Exit->Act->World->Prop}(hgd:o.guard=none) (s x:Operand) (t:TypeId) (ht:Tryz.prog.underlying t=some (.slice ET))
  (ho:o.op=.call { callee:=.builtin .append,args:=#[s,x],argTypes:=#[t,t] }) (hs:a.eval s=v) (h:qy ET k base w v n xs){ad:Addr}{news:List Value}(hx:a.eval x=.slice (some ad) m c) (hl:news.length=m*k)
  (hnews:∀j u,news[j]?=some u->w.cell? (ad.add j)=some u) (h1:∀u∈news,u.oneCell'=true) (hn:n+m<=1000000)
  (hK:∀v' w',qy ET k base w' v' (n+m) (xs++news)->(v'.ownBlock=v.ownBlock\/v'.ownBlock=some w.heap.size)->(∃g',base<=g'/\(v.ownBlock=some g'\/g'=w.heap.size)/\Chg g' (g'+1) w w')->wpList Tryz.prog ops Q rest (a.put o.dst v') w'):wpList Tryz.prog ops Q (o :: rest) a w:=by
 refine wpList_plain hgd fun _ hK'=>?_
 obtain⟨v',w',hrun,h2,h3,h4⟩:=xO hc t o.type ht h hl hnews h1 hn (c:=c);unfold Oper.wp execOp;simp only[ho,resolve,invoke,builtin,Sem.run_bind,Sem.run_pure,Result.andThen_ok,List.map_toArray,List.map_cons,List.map_nil,hs,hx,hrun];exact hK' _ _ (hK v' w' h2 h3 h4)
theorem qy.at_{xs:List Value}(h:qy ET k base w v n xs) (hn:0<n):∃g cap,v=.slice (some ⟨g,0,none⟩) n cap/\base<=g/\n<=cap/\cap<=maxLen/\∀j u,xs[j]?=some u->w.cell? ⟨g,j,none⟩=some u:=by
 have hl:=h.2.1
 rcases h.2.2 with ⟨-,h⟩|⟨g,cap,cur,hv,hb,hg,hnc,hcm,hcs,htk⟩
 ·omega
 ·refine⟨g,cap,hv,hb,hnc,hcm,fun j u hj=>?_⟩;rw[qh hg]
  have hjl:j<n*k:=by
   rw[<-hl];exact (List.getElem?_eq_some_iff.1 hj).1
  have h9:(cur.toList.take (n*k))[j]?=some u:=by rw[htk];exact hj
  rw[List.getElem?_take,if_pos hjl] at h9;simpa using h9
theorem qy.own_lt{xs:List Value}(h:qy ET k base w v n xs):∀k,v.ownBlock=some k->base<=k/\k<w.heap.size:=by
 rcases h.2.2 with ⟨rfl,h0⟩|⟨g,cap,cur,rfl,hb,hh,-⟩
 ·intro k hk;simp[Value.ownBlock] at hk
 ·intro k hk;obtain rfl:g=k:=by simpa[Value.ownBlock] using hk
  exact⟨hb,qE hh⟩
theorem qy.form{xs:List Value}(h:qy ET k base w v n xs):∃A c,v=.slice A n c:=by
 rcases h.2.2 with ⟨rfl,h0⟩|⟨g,cap,cur,rfl,_⟩
 ·exact⟨_,_,by rw[h0]⟩
 ·exact⟨_,_,rfl⟩
end
end
end Go.Proofs.YtdeeekdbhhenpaaGreatDoor
