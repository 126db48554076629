import Derived.Test.YtdeeekdbhhenpaaGreatDoorWc04
import Derived.Deep.CutBlock
import Derived.Deep.AppendLies
import Derived.Shelf.Bits.Mul64
import Derived.Laws.IdiomCopy
import Derived.Laws.BitsLemmas
import Derived.Shelf.Strconv.Itoa3
import Derived.Shelf.Bytes.BufferK
import Derived.Shelf.Bytes.Bytes
import Derived.Shelf.Bytes.Len
import Derived.Shelf.Bytes.String
import Derived.Lib.SmallJoins
import Derived.Deep.Upon
set_option linter.all false
set_option maxHeartbeats 8000000
set_option maxRecDepth 100000
namespace Go.Proofs.YtdeeekdbhhenpaaGreatDoor
variable {w w':World} {N n lo hi k g i m base c b d:Nat} {v:Value} {z:Int} {A:Option Addr}
section
open Go.RowKit
theorem jA.upd(h:jA N w v z) (u:Upd g w w') (hN:N<=g) (ht:NoU w g):jA N w' v z:=by
 obtain⟨s,hv,hs⟩:=h;exact⟨s,hv,hs.upd u hN ht⟩
theorem jZ{row:Option Nat}(h:w.grownBy w' row)(hg:∀k,row=some k->k=g) (ht:NoU w g):Chg g (g+1) w w':=by
 have hb:=(Below.refl w.heap.size w)
 refine⟨h.os,h.tape,h.output,h.size,fun k hk hc=>h.block k hk (fun e=>?_)⟩;have:=hg k e.symm;subst this
 rcases hc with hc|hc|⟨cs,fr,hc⟩
 ·omega
 ·omega
 ·exact ht cs fr hc
theorem kw {p:Nat->Prop}(h:∀j,j<k->p j) (hk:p k):∀j,j<k+1->p j:=by
 intro j hj
 rcases Nat.lt_or_ge j k with h1|h1
 ·exact h j h1
 ·obtain rfl:j=k:=by omega
  exact hk
end
section
open Go.RowKit
theorem q0u (b o j:Nat):(⟨b,o,none⟩:Addr).add j=⟨b,o+j,none⟩:=by
 unfold Addr.add;split
 ·rename_i e;subst e;rfl
 ·rfl
section
variable {N lo hi:Nat}{w w':World}{v:Value}{m n:Nat}{A:q_m}
end
end
section
open Go.RowKit
theorem qY {F:World->Prop}{o0:Obj}(h:∀w1,Ext w w1->w.heap.size+1<=w1.heap.size->w1.heap[w.heap.size]?=some o0->F w1):F (w.alloc o0).drew:=by
 refine h _ ((Ext.refl w).alloc _).drew ?_ (heap_alloc_new w o0);have:=(qo (F:=fun W=>w.heap.size+1<=W.heap.size) (w:=w) (o0:=o0) (fun _ _ h _=>h))
 exact this
def kH (n:Nat) (p:Nat->Bool):Bool:=(List.range n).any p
theorem zF{p:Nat->Bool}(hi:i<n) (h:p i=true):kH n p=true:=by
 unfold kH;rw[List.any_eq_true];exact⟨i,List.mem_range.2 hi,h⟩
theorem zg{p:Nat->Bool}:kH n p=false↔∀i,i<n->p i=false:=by simp[kH]
def yt (w:World) (r:Bool) (e:Ending) (w':World):Prop:=∃z:Int,e=.returned (.int .i64 z)/\Hid (r=decide (0<=z))/\Ext w w'
instance:Inhabited Vl:=⟨.int 0⟩
def Emp (v:Value):Prop:=∃A c,v=.slice A 0 c
mutual
def VlV (nn:Bool) (N:Nat) (w:World):Vl->Value->Prop
 | .int z,v=>∃a b c d,v=.agg #[.int .i64 0,a,b,c,d]/\jA N w (.agg #[a,b]) z/\Emp c/\Emp d
 | .txt l,v=>∃b c d,v=.agg #[.int .i64 1,.bool false,b,c,d]/\Emp b/\(ByV w c l/\(nn=true->∃a k,c=.slice (some a) l.length k/\a.block<w.heap.size))/\Emp d
 | .lst vs,v=>∃b c A k,v=.agg #[.int .i64 2,.bool false,b,c,.slice A vs.length k]/\Emp b/\Emp c/\vs.length<=k/\k<=maxLen/\(0<vs.length->∃g off,A=some ⟨g,off,none⟩/\VlL nn N w vs g off)
def VlL (nn:Bool) (N:Nat) (w:World):List Vl->Nat->Nat->Prop
 | [],_,_=>True
 | v :: r,g,off=>(∃c0 c1 c2 c3 c4,w.cell? ⟨g,off,none⟩=some c0/\w.cell? ⟨g,off+1,none⟩=some c1/\w.cell? ⟨g,off+2,none⟩=some c2/\w.cell? ⟨g,off+3,none⟩=some c3/\w.cell? ⟨g,off+4,none⟩=some c4/\VlV nn N w v (.agg #[c0,c1,c2,c3,c4]))/\VlL nn N w r g (off+5)
end
mutual
theorem VlV.ext {nn:Bool}(e:Ext w w'):∀ {V:Vl}{v:Value},VlV nn N w V v->VlV nn N w' V v
 | .int z,v,h=>by
  unfold VlV at h ⊢;obtain⟨a,b,c,d,h0,h1,h2,h3⟩:=h;exact⟨a,b,c,d,h0,h1.ext e,h2,h3⟩
 | .txt l,v,h=>by
  unfold VlV at h ⊢;obtain⟨b,c,d,h0,h1,h2,h3⟩:=h;exact⟨b,c,d,h0,h1,⟨h2.1.ext e,fun hn=>by obtain⟨a,k,h8,h9⟩:=h2.2 hn;exact⟨a,k,h8,Nat.lt_of_lt_of_le h9 e.size⟩⟩,h3⟩
 | .lst vs,v,h=>by
  unfold VlV at h ⊢;obtain⟨b,c,A,k,h0,h1,h2,h3,h4,h5⟩:=h;refine⟨b,c,A,k,h0,h1,h2,h3,h4,fun h=>?_⟩;obtain⟨g,off,hA,hl⟩:=h5 h;exact⟨g,off,hA,VlL.ext e hl⟩
theorem VlL.ext {nn:Bool}(e:Ext w w'):∀ {vs:List Vl}{g off:Nat},VlL nn N w vs g off->VlL nn N w' vs g off
 | [],_,_,_=>by unfold VlL;trivial
 | v :: r,g,off,h=>by
  unfold VlL at h ⊢;obtain⟨⟨c0,c1,c2,c3,c4,h0,h1,h2,h3,h4,h5⟩,h6⟩:=h;exact⟨⟨c0,c1,c2,c3,c4,e.cell h0,e.cell h1,e.cell h2,e.cell h3,e.cell h4,VlV.ext e h5⟩,VlL.ext e h6⟩
end
theorem VlL.get {nn:Bool}:∀ {vs:List Vl}{g off:Nat},VlL nn N w vs g off->∀i,i<vs.length->∃c0 c1 c2 c3 c4,w.cell? ⟨g,off+i*5,none⟩=some c0/\w.cell? ⟨g,off+i*5+1,none⟩=some c1/\w.cell? ⟨g,off+i*5+2,none⟩=some c2/\w.cell? ⟨g,off+i*5+3,none⟩=some c3/\w.cell? ⟨g,off+i*5+4,none⟩=some c4/\VlV nn N w (vs[i]?.getD default) (.agg #[c0,c1,c2,c3,c4])
 | [],_,_,_,i,hi=>absurd hi (Nat.not_lt_zero i)
 | v :: r,g,off,h,0,_=>by
  unfold VlL at h;exact h.1
 | v :: r,g,off,h,i+1,hi=>by
  unfold VlL at h;have h1:=VlL.get h.2 i (by simpa using hi);rw[show off+5+i*5=off+(i+1)*5 by omega] at h1;exact h1
def LvV (nn:Bool) (N:Nat) (w:World) (v:Value) (n:Nat) (W:Nat->Vl):Prop:=∃(A:Option Addr) (k:Nat),v=.slice A n k/\n<=k/\k<=maxLen/\(0<n->∃g off,A=some ⟨g,off,none⟩/\∀i,i<n->∃c0 c1 c2 c3 c4,w.cell? ⟨g,off+i*5,none⟩=some c0/\w.cell? ⟨g,off+i*5+1,none⟩=some c1/\w.cell? ⟨g,off+i*5+2,none⟩=some c2/\w.cell? ⟨g,off+i*5+3,none⟩=some c3/\w.cell? ⟨g,off+i*5+4,none⟩=some c4/\VlV nn N w (W i) (.agg #[c0,c1,c2,c3,c4]))
theorem LvV.form {nn:Bool}{W:Nat->Vl}(h:LvV nn N w v n W):∃A c,v=.slice A n c/\n<=c/\c<=maxLen:=by
 obtain⟨A,k,h0,h1,h2,-⟩:=h;exact⟨A,k,h0,h1,h2⟩
theorem LvV.addr {nn:Bool}{W:Nat->Vl}(h:LvV nn N w (.slice A n k) n W) (hn:0<n):∃g off,A=some ⟨g,off,none⟩/\∀i,i<n->∃c0 c1 c2 c3 c4,w.cell? ⟨g,off+i*5,none⟩=some c0/\w.cell? ⟨g,off+i*5+1,none⟩=some c1/\w.cell? ⟨g,off+i*5+2,none⟩=some c2/\w.cell? ⟨g,off+i*5+3,none⟩=some c3/\w.cell? ⟨g,off+i*5+4,none⟩=some c4/\VlV nn N w (W i) (.agg #[c0,c1,c2,c3,c4]):=by
 obtain⟨A',k',h0,h1,h2,h3⟩:=h;injection h0 with hA
 subst hA;exact h3 hn
theorem LvV.ext {nn:Bool}{W:Nat->Vl}(h:LvV nn N w v n W) (e:Ext w w'):LvV nn N w' v n W:=by
 obtain⟨A,k,h0,h1,h2,h3⟩:=h;refine⟨A,k,h0,h1,h2,fun hn=>?_⟩;obtain⟨g,off,hA,hx⟩:=h3 hn;refine⟨g,off,hA,fun i hi=>?_⟩;obtain⟨c0,c1,c2,c3,c4,k0,k1,k2,k3,k4,k5⟩:=hx i hi;exact⟨c0,c1,c2,c3,c4,e.cell k0,e.cell k1,e.cell k2,e.cell k3,e.cell k4,VlV.ext e k5⟩
theorem VlV.lst {nn:Bool}{vs:List Vl}(h:VlV nn N w (.lst vs) v):∃b c u,v=.agg #[.int .i64 2,.bool false,b,c,u]/\Emp b/\Emp c/\LvV nn N w u vs.length (fun i=>vs[i]?.getD default):=by
 unfold VlV at h;obtain⟨b,c,A,k,h0,h1,h2,h3,h4,h5⟩:=h;refine⟨b,c,_,h0,h1,h2,A,k,rfl,h3,h4,fun hn=>?_⟩;obtain⟨g,off,hA,hl⟩:=h5 hn;exact⟨g,off,hA,fun i hi=>VlL.get hl i hi⟩
theorem YC {lo hi:Nat}{nn:Bool}{W:Nat->Vl}(h:LvV nn N w v n W) (gd:Nat) (g:Nat->Bool)
  (hf:∀i,i<n->∀w' u,Ext w w'->VlV nn N w' (W i) u->Calls Tryz.prog 211 #[u,.pointer (some ⟨gd,0,none⟩)] w' (qH w' (.bool (g i)))) :
  Calls Tryz.prog 239 #[v,.func (.func 211) #[] #[.pointer (some ⟨gd,0,none⟩)]] w (yt w (kH n g)):=by
 obtain⟨r,hr⟩:=qf (kH n g);rw[<-hr.out];obtain⟨A,c,rfl,hnc,hcm⟩:=h.form;unfold maxLen at hcm;have hI:=h;have HF:=q_h hf;clear h hf;go_enter Tryz.func239,Tryz.ntmps239;go_wp2
 go_loopw [8] (fun i wr=>∃k:Nat,k<=n/\i=.int .i64 k/\Hid (∀j,j<k->g j=false)/\Ext w wr) (fun i _=>n-(intOf i).toNat)
 case atStart=>exact⟨0,Nat.zero_le _,rfl,fun j hj=>absurd hj (by omega),Ext.refl w⟩
 case round =>
  obtain⟨k,hk,rfl,HA,hE⟩:=hrel
  by_cases hlt:k<n
  ·obtain⟨b,off,rfl,hx⟩:=(hI.ext hE).addr (by omega);obtain⟨c0,c1,c2,c3,c4,k0,k1,k2,k3,k4,hv⟩:=hx k hlt;clear hx;go_wp2_with (go_at_call 211;refine q_o ?_);refine (HF.out k hlt _ _ hE hv).mono ?_;rintro e w1 ⟨rfl,e1⟩;replace hE:=hE.trans e1;obtain⟨o,ho⟩:=qf (g k);rw[<-ho.out];cases o with
   | false =>
    go_wp2;go_roundw
    case rel=>exact⟨k+1,by omega,by go_num,kw (p:=fun j=>g j=false) HA.out ho.out.symm,hE⟩
    case measure=>simp[intOf];omega
   | true =>
    have HT:Hid (r=true):=by rw[Hid,hr.out];exact zF hlt ho.out.symm
    go_wp2;go_ret;exact⟨_,rfl,by rw[Hid,HT.out];symm;simp,hE⟩
  ·have HT:Hid (r=false):=by rw[Hid,hr.out];exact zg.2 (fun j hj=>HA.out j (by omega))
   go_wp2;go_ret;exact⟨_,rfl,by rw[Hid,HT.out];rfl,hE⟩
theorem WJ {lo hi:Nat}{nn:Bool}{W:Nat->Vl}(h:LvV nn N w v n W) (gd:Nat) (g:Nat->Bool)
  (hf:∀i,i<n->∀w' u,Ext w w'->VlV nn N w' (W i) u->Calls Tryz.prog 211 #[u,.pointer (some ⟨gd,0,none⟩)] w' (qH w' (.bool (g i)))) :
  Calls Tryz.prog 210 #[v,.func (.func 211) #[] #[.pointer (some ⟨gd,0,none⟩)]] w (qH w (.bool (kH n g))):=by
 obtain⟨r,hr⟩:=qf (kH n g);rw[<-hr.out];obtain⟨A,c,rfl,hnc,hcm⟩:=h.form;have hI:=h;have HF:=q_h hf;clear h hf;go_enter Tryz.func210,Tryz.ntmps210;go_wp2_with (go_at_call 239;refine q_o ?_);refine (YC (lo:=0) (hi:=0) hI gd g HF.out).mono ?_;rintro e w1 ⟨z,rfl,hz,e1⟩;rw[<-hr.out] at hz;go_wp2;go_ret;exact⟨qx hz.out.symm,e1⟩
mutual
def szV:Vl->Nat
 | .int _=>1
 | .txt _=>1
 | .lst l=>szL l+1
def szL:List Vl->Nat
 | []=>0
 | v :: r=>szV v+szL r
end
theorem xO:∀(l:List Vl) (i:Nat),i<l.length->szV (l[i]?.getD default)<=szL l
 | [],i,h=>absurd h (Nat.not_lt_zero i)
 | v :: r,0,_=>by unfold szL;show szV v<=_;omega
 | v :: r,i+1,h=>by
  unfold szL;have:=xO r i (by simpa using h)
  show szV (r[i]?.getD default)<=_
  omega
theorem Zq:∀(l:List Vl) (d:Nat),xG l<=d↔∀i,i<l.length->zX (l[i]?.getD default)<=d
 | [],d=>by unfold xG;exact⟨fun _ i h=>absurd h (Nat.not_lt_zero i),fun _=>Nat.zero_le _⟩
 | v :: r,d=>by
  unfold xG
  constructor
  ·intro h i hi;cases i with
   | zero=>show zX v<=d;omega
   | succ i=>exact (Zq r d).1 (by omega) i (by simpa using hi)
  ·intro h;have h0:zX v<=d:=h 0 (by simp);have h1:=(Zq r d).2 (fun i hi=>h (i+1) (by simpa using hi));omega
theorem q1K (l:List Vl) (d:Nat):(!kH l.length fun i=>!decide (zX (l[i]?.getD default)<=d))=decide (xG l<=d):=by
 rw[Bool.eq_iff_iff,Bool.not_eq_true',zg,decide_eq_true_eq,Zq]
 constructor
 ·intro h i hi;have:=h i hi;simpa using this
 ·intro h i hi;simpa using h i hi
theorem qA{t:TypeId}{x0 x1 x2 x3 x4:Value}(h:w.heap[g]?=some (.cells #[x0,x1,x2,x3,x4] t (0,0))):w.cell? ⟨g,0,none⟩=some x0/\w.cell? ⟨g,1,none⟩=some x1/\w.cell? ⟨g,2,none⟩=some x2/\w.cell? ⟨g,3,none⟩=some x3/\w.cell? ⟨g,4,none⟩=some x4:=by
 refine⟨?_,?_,?_,?_,?_⟩<;>rw[qj h]<;>rfl
theorem VJ {nn:Bool}{gd:Nat}{V:Vl}{u:Value}{t:TypeId}(hd:w.heap[gd]?=some (.cells #[.int .i64 ((d+1:Nat):Int)] t (0,0))) (hb:d<1000) (hu:VlV nn N w V u)
  (H:∀w',Ext w w'->Calls Tryz.prog 177 #[u,.int .i64 (d:Int)] w' (qH w' (.bool (decide (zX V<=d))))) :
  Calls Tryz.prog 211 #[u,.pointer (some ⟨gd,0,none⟩)] w (qH w (.bool (!decide (zX V<=d)))):=by
 obtain⟨r,hr⟩:=qf (decide (zX V<=d));rw[<-hr.out] at H ⊢;have HH:=q_h H
 obtain⟨c0,c1,c2,c3,c4,rfl⟩:∃c0 c1 c2 c3 c4,u=.agg #[c0,c1,c2,c3,c4]:=by
  cases V with
  | int z=>unfold VlV at hu;obtain⟨a,b,c,d,h0,-⟩:=hu;exact⟨_,_,_,_,_,h0⟩
  | txt l=>unfold VlV at hu;obtain⟨b,c,d,h0,-⟩:=hu;exact⟨_,_,_,_,_,h0⟩
  | lst l=>unfold VlV at hu;obtain⟨b,c,A,k,h0,-⟩:=hu;exact⟨_,_,_,_,_,h0⟩
 clear hu H hr;have q0:w.cell? ⟨gd,0,none⟩=some (.int .i64 ((d+1:Nat):Int)):=qj hd 0;have t1:IntKind.i64.wrap (((d+1:Nat):Int)-1)=(d:Int):=by rw[wrp (by omega) (by omega)];omega
 obtain⟨D,hD⟩:=qf (((d+1:Nat):Int));rw[<-hD.out] at q0 t1;go_enter Tryz.func211,Tryz.ntmps211;go_upto_region 1 with (fail);refine qo ?_;intro W hE hsz B0;replace q0:=hE.cell q0;obtain⟨p0,p1,p2,p3,p4⟩:=qA B0;go_wp2_with (go_at_call 177;refine q_o ?_);refine (HH.out _ hE).mono ?_;rintro e w1 ⟨rfl,e1⟩;go_wp2
 first|go_ret|skip
 exact⟨rfl,hE.trans e1⟩
theorem Ju {nn:Bool}{N:Nat}:∀(m:Nat) (V:Vl),szV V<=m->∀(w:World) (v:Value) (d:Nat),d<1000->VlV nn N w V v ->
  Calls Tryz.prog 177 #[v,.int .i64 (d:Int)] w (qH w (.bool (decide (zX V<=d))))
 | 0,V,hm,_,_,_,_,_=>by cases V<;>(unfold szV at hm;omega)
 | m+1,V,hm,w,v,d,hb,hv=>by
  cases V with
  | int z =>
   have hr:decide (zX (.int z)<=d)=true:=q_t (by unfold zX;omega);rw[hr];unfold VlV at hv;obtain⟨a,b,c,e,rfl,hI,⟨A1,k1,rfl⟩,⟨A2,k2,rfl⟩⟩:=hv;obtain⟨nb,A,n,k,hab,hnb,hG,-⟩:=hI.parts;simp only[Value.agg.injEq,Array.mk.injEq,List.cons.injEq,and_true] at hab;obtain⟨rfl,rfl⟩:=hab;have HG:=q_h hG;have HOK:Hid (okB nb (dg z.natAbs)=true):=by rw[hnb.out];exact jV z
   clear hI hG hnb;go_enter Tryz.func177,Tryz.ntmps177;go_upto_region 1 with (fail);refine zu ?_;intro W hE hsz B0 B1;obtain⟨p0,p1,p2,p3,p4⟩:=qA B0;cases nb
   ·go_wp2_with (go_at_call 209;refine q_o ?_);refine (Xt (HG.out.ext hE)).mono ?_;rintro e w1 ⟨rfl,e1⟩;rw[HOK.out];go_wp2
    first|go_ret|skip
    exact⟨rfl,hE.trans e1⟩
   ·go_wp2_with (go_at_call 209;refine q_o ?_);refine (Xt (HG.out.ext hE)).mono ?_;rintro e w1 ⟨rfl,e1⟩;rw[HOK.out];go_wp2
    first|go_ret|skip
    exact⟨rfl,hE.trans e1⟩
  | txt l =>
   have hr:decide (zX (.txt l)<=d)=true:=q_t (by unfold zX;omega);rw[hr];unfold VlV at hv;obtain⟨b,c,e,rfl,⟨A1,k1,rfl⟩,-,⟨A2,k2,rfl⟩⟩:=hv;go_enter Tryz.func177,Tryz.ntmps177;go_upto_region 1 with (fail);refine zu ?_;intro W hE hsz B0 B1;obtain⟨p0,p1,p2,p3,p4⟩:=qA B0;go_wp2
   first|go_ret|skip
   exact⟨rfl,hE⟩
  | lst vs =>
   obtain⟨b,c,u,rfl,⟨A1,k1,rfl⟩,⟨A2,k2,rfl⟩,hL⟩:=hv.lst;have HL:=q_h hL;obtain⟨A3,k3,rfl,-⟩:=hL.form;clear hL hv;cases d with
   | zero =>
    have hr:decide (zX (.lst vs)<=0)=false:=q_f (by unfold zX;omega);rw[hr];go_enter Tryz.func177,Tryz.ntmps177;go_upto_region 1 with (fail);refine zu ?_;intro W hE hsz B0 B1;obtain⟨p0,p1,p2,p3,p4⟩:=qA B0;have q0:W.cell? ⟨w.heap.size+1,0,none⟩=some (.int .i64 0):=qj B1 0;go_wp2
    first|go_ret|skip
    exact⟨rfl,hE⟩
   | succ d =>
    have hr:decide (zX (.lst vs)<=d+1)=decide (xG vs<=d):=by
     unfold zX;exact decide_eq_decide.2 (by omega)
    rw[hr,<-q1K];obtain⟨r,hr2⟩:=qf (kH vs.length fun i=>!decide (zX (vs[i]?.getD default)<=d));rw[<-hr2.out];obtain⟨D,hD⟩:=qf (((d+1:Nat):Int));rw[<-hD.out];have t1:(D == 0)=false:=by have:=hD.out;simp;omega
    go_enter Tryz.func177,Tryz.ntmps177;go_upto_region 1 with (fail);refine zu ?_;intro W hE hsz B0 B1;obtain⟨p0,p1,p2,p3,p4⟩:=qA B0;have q0:W.cell? ⟨w.heap.size+1,0,none⟩=some (.int .i64 D):=qj B1 0;have HB1:=q_h B1;go_wp2_with (go_at_call 210;refine q_o ?_);refine (WJ (lo:=0) (hi:=0) (HL.out.ext hE) (w.heap.size+1) (fun i=>!decide (zX (vs[i]?.getD default)<=d)) (fun i hi w' u e hu=>?_)).mono ?_
    ·have hb1:=e.block HB1.out;rw[hD.out] at hb1;refine VJ hb1 (by omega) hu fun w2 e2=>?_
     refine Ju m (vs[i]?.getD default) ?_ w2 u d (by omega) (VlV.ext e2 hu);have h1:=xO vs i hi;unfold szV at hm;omega
    rintro e w1 ⟨rfl,e1⟩;rw[<-hr2.out];go_wp2
    first|go_ret|skip
    exact⟨rfl,hE.trans e1⟩
theorem vZ (g:Nat):∀(vs:List Value) (o:Nat) (w w':World),Upd g w w'->Upd g w (w'.setCells g o vs)
 | [],_,_,_,h=>h
 | v :: r,o,w,w',h=>vZ g r (o+1) w _ (h.set o v)
theorem Qc (g:Nat) (t:TypeId) (fr:Nat×Nat):∀(vs:List Value) (o:Nat) (cs:Array Value) (w:World),w.heap[g]?=some (.cells cs t fr)->∃cs',(w.setCells g o vs).heap[g]?=some (.cells cs' t fr)/\cs'.size=cs.size
 | [],_,cs,_,h=>⟨cs,h,rfl⟩
 | v :: r,o,cs,w,h=>by
  obtain⟨cs',h1,h2⟩:=Qc g t fr r (o+1) _ (w.setCell ⟨g,o,none⟩ v) (heap_set h o v);exact⟨cs',h1,by rw[h2];simp⟩
theorem q0t (b o j:Nat):(⟨b,o,none⟩:Addr).add j=⟨b,o+j,none⟩:=by unfold Addr.add;split<;>simp_all
theorem jo {ops:Array Oper}{rest:List Oper}{o:Oper}{a:Act}{Q:Exit->Act->World->Prop}
  (hg:o.guard=none) (d x:Operand) (dT sT:TypeId) (hop:o.op=Op.call { callee:=Callee.builtin Builtin.copy,args:=#[d,x],argTypes:=#[dT,sT] })
  (v u:Value) (hd:a.eval d=v) (hx:a.eval x=u){v':Value}(hr:(Builtin.copy_ #[dT,sT] o.type #[v,u]).run Tryz.prog w=.ok v' w') (hK:wpList Tryz.prog ops Q rest (a.put o.dst v') w') :
  wpList Tryz.prog ops Q (o :: rest) a w:=by
 refine wpList_plain hg fun K hK'=>?_
 unfold Oper.wp;simp[execOp,hop,resolve,invoke,builtin,hd,hx,hr,Result.andThen]
 exact hK' _ _ hK
end
section
def av (n:Nat) (A:q_m) (x:q_v) (i:Nat):Rat:=sum n (fun c=>A i c*x c)
def bas (A:q_m) (p:List Nat) (i s:Nat):Rat:=A i (p[s]?.getD 0)
def fits (r:Nat) (B X:q_m) (i j:Nat):Rat:=sum r (fun s=>B i s*sum r (fun t=>X s t*B j t))
end
section
variable {m n:Nat}{A M X:q_m}{P:q_v}{p:List Nat}
def gf (A X:q_m) (p:List Nat) (i j:Nat):Rat:=fits p.length (bas A p) X i j
def hd (A X:q_m) (P:q_v) (p:List Nat) (i:Nat):Rat:=gf A X p i i*P i
end
section
open Go.RowKit
structure One (ET:TypeId) (z0:Value) (bz:Nat):Prop where
 inf:(Tryz.prog.info? ET).map (fun i=>(i.zero,i.size,i.bytes))=some (some z0,1,bz)
 cells:z0.cells.size=1
 le:bz<=24
 ne:ET≠196
def qB (ET:TypeId) (base:Nat) (w:World) (v:Value) (xs:List Value):Prop:=base<=w.heap.size/\w.ownsRow base ET 1 v xs.length xs
section
variable {ET:TypeId}{base:Nat}{w w':World}{v:Value}{xs:List Value}
theorem qB.nil (h:base<=w.heap.size):qB ET base w (.slice none 0 0) []:=⟨h,by simp,.inl ⟨rfl,rfl⟩⟩
theorem qB.empty(hb:base<=g) (h:w.heap[g]?=some (.cells #[] ET (0,0))):qB ET base w (.slice (some ⟨g,0,none⟩) 0 0) [] :=
 ⟨by have:=qK h;omega,by simp,.inr ⟨g,0,#[],rfl,hb,h,q_r,Nat.zero_le _,rfl,rfl⟩⟩
theorem qB.form (h:qB ET base w v xs):∃A c,v=.slice A xs.length c/\xs.length<=c:=by
 rcases h.2.2 with ⟨rfl,h0⟩|⟨g,cap,cur,rfl,_,_,hc,_⟩
 ·exact⟨_,_,by rw[h0],by omega⟩
 ·exact⟨_,_,rfl,hc⟩
theorem qB.ext (h:qB ET base w v xs) (e:Ext w w'):qB ET base w' v xs:=by
 refine⟨q_l h.1 e.size,h.2.1,?_⟩
 rcases h.2.2 with h0|⟨g,cap,cur,hv,hb,hh,h1,h2,h3,h4⟩
 ·exact .inl h0
 ·exact .inr ⟨g,cap,cur,hv,hb,e.block hh,h1,h2,h3,h4⟩
theorem qB.chg {l u:Nat}(h:qB ET base w v xs) (c:Chg l u w w') (hd:u<=base):qB ET base w' v xs:=by
 refine⟨q_l h.1 c.size,h.2.1,?_⟩
 rcases h.2.2 with h0|⟨g,cap,cur,hv,hb,hh,h1,h2,h3,h4⟩
 ·exact .inl h0
 ·exact .inr ⟨g,cap,cur,hv,hb,c.blk hh (by omega),h1,h2,h3,h4⟩
theorem qB.far {l u:Nat}(h:qB ET base w v xs) (c:Chg l u w w') (hd:∀k,v.ownBlock=some k->k<l\/u<=k):qB ET base w' v xs:=by
 refine⟨q_l h.1 c.size,h.2.1,?_⟩
 rcases h.2.2 with h0|⟨g,cap,cur,rfl,hb,hh,h1,h2,h3,h4⟩
 ·exact .inl h0
 ·exact .inr ⟨g,cap,cur,rfl,hb,c.blk hh (hd g rfl),h1,h2,h3,h4⟩
theorem qB.low {b':Nat}(h:qB ET base w v xs) (hb:b'<=base):qB ET b' w v xs:=by
 refine⟨q_l hb h.1,h.2.1,?_⟩
 rcases h.2.2 with h0|⟨g,cap,cur,hv,hb0,h3⟩
 ·exact .inl h0
 ·exact .inr ⟨g,cap,cur,hv,by omega,h3⟩
theorem qB.own_lt (h:qB ET base w v xs):∀k,v.ownBlock=some k->base<=k/\k<w.heap.size:=by
 rcases h.2.2 with ⟨rfl,h0⟩|⟨g,cap,cur,rfl,hb,hh,-⟩
 ·intro k hk;simp[Value.ownBlock] at hk
 ·intro k hk;obtain rfl:g=k:=by simpa[Value.ownBlock] using hk
  exact⟨hb,qK hh⟩
theorem qB.at_ (h:qB ET base w v xs) (hn:0<xs.length):∃g cap,v=.slice (some ⟨g,0,none⟩) xs.length cap/\base<=g/\g<w.heap.size/\cap<=maxLen/\xs.length<=cap/\(∃cs,w.heap[g]?=some (.cells cs ET (0,0))/\cs.size=cap)/\∀j (hj:j<xs.length),w.cell? ⟨g,j,none⟩=some xs[j]:=by
 rcases h.2.2 with ⟨-,h⟩|⟨g,cap,cur,hv,hb,hg,hnc,hcm,hcs,htk⟩
 ·omega
 ·refine⟨g,cap,hv,hb,qK hg,hcm,hnc,⟨cur,hg,by omega⟩,fun j hj=>?_⟩;rw[qj hg];have h9:(cur.toList.take (xs.length*1))[j]?=some xs[j]:=by rw[htk];exact List.getElem?_eq_getElem hj
  rw[List.getElem?_take] at h9;rw[if_pos (by omega)] at h9;simpa using h9
theorem yP {z0:Value}{bz:Nat}(ho:One ET z0 bz) (t ty:TypeId) (ht:Tryz.prog.underlying t=some (.slice ET)) (h:qB ET base w v xs){off:Nat}{news:List Value}(hl:news.length=m)
  (hnews:∀j u,news[j]?=some u->w.cell? ⟨b,off+j,none⟩=some u) (h1:∀u∈news,u.oneCell'=true) (hm:0<m) (hn:xs.length+m<=1000000000) :
  ∃g cap w',(Builtin.append_ #[t,t] ty #[v,.slice (some ⟨b,off,none⟩) m c]).run Tryz.prog w=.ok (.slice (some ⟨g,0,none⟩) (xs.length+m) cap) w'/\qB ET base w' (.slice (some ⟨g,0,none⟩) (xs.length+m) cap) (xs++news)/\(v.ownBlock=some g\/g=w.heap.size) /\
   (∃g',base<=g'/\(v.ownBlock=some g'\/g'=w.heap.size)/\Chg g' (g'+1) w w'/\NoU w g'):=by
 obtain⟨i0,hi0,hz0,hz1,hz2⟩:=info_parts ho.inf;obtain⟨hb0,hown⟩:=h;have hle:=ho.le
 obtain⟨g,cap,w',hrun,hO,hgr,hat,hlt⟩:=run_append_lies (P:=Tryz.prog) w t ty base ET i0 _ 1 bz ht hi0 hz0 hz1 hz2 ho.cells (by omega) v xs.length xs hown ⟨b,off,none⟩ m c news (by omega)
  (fun j u hj=>by rw[q0u];exact hnews j u hj) h1 hm (by unfold maxLen;omega)
  (q_l (Nat.mul_le_mul hn ho.le) (by decide)) hb0 w.heap.size rfl
 refine⟨g,cap,w',hrun,⟨q_l hb0 hgr.size,?_⟩,hat,?_⟩
 ·rw[List.length_append,hl];exact hO
 ·have hT:NoU w w.heap.size:=fun cs fr h=>by rw[Array.getElem?_eq_none (q_r)] at h;cases h
  rcases hown.2 with ⟨rfl,h0⟩|⟨g0,cap0,cur,rfl,hbb,hh,_⟩
  ·exact⟨w.heap.size,hb0,.inr rfl,jZ hgr (fun k hk=>by simp[Value.ownBlock] at hk) hT,hT⟩
  ·have hT0:NoU w g0:=NoU.mk hh ho.ne;exact⟨g0,hbb,.inl rfl,jZ hgr (fun k hk=>by simpa[Value.ownBlock] using hk.symm) hT0,hT0⟩
end
theorem xe {ET:TypeId}{xs:List Value}{z0:Value}{bz:Nat}(h0:One ET z0 bz){o:Oper}{a:Act}{K:Act->World->Prop}{Q:Exit->Act->World->Prop}(s x:Operand) (t:TypeId) (ht:Tryz.prog.underlying t=some (.slice ET))
  (ho:o.op=.call { callee:=.builtin .append,args:=#[s,x],argTypes:=#[t,t] }) (hs:a.eval s=v) (h:qB ET base w v xs){off:Nat}{news:List Value}(hx:a.eval x=.slice (some ⟨b,off,none⟩) m c) (hl:news.length=m)
  (hnews:∀j u,news[j]?=some u->w.cell? ⟨b,off+j,none⟩=some u) (h1:∀u∈news,u.oneCell'=true) (hm:0<m) (hn:xs.length+m<=1000000000)
  (hK:∀g cap w',qB ET base w' (.slice (some ⟨g,0,none⟩) (xs.length+m) cap) (xs++news)->(v.ownBlock=some g\/g=w.heap.size)->(∃g',base<=g'/\(v.ownBlock=some g'\/g'=w.heap.size)/\Chg g' (g'+1) w w'/\NoU w g')->K (a.put o.dst (.slice (some ⟨g,0,none⟩) (xs.length+m) cap)) w'):o.wp Tryz.prog a w K Q:=by
 obtain⟨g,cap,w',hrun,h2,h3,h4⟩:=yP h0 t o.type ht h hl hnews h1 hm hn (c:=c);unfold Oper.wp execOp;simp only[ho,resolve,invoke,builtin,Sem.run_bind,Sem.run_pure,Result.andThen_ok,List.map_toArray,List.map_cons,List.map_nil,hs,hx,hrun];exact hK g cap w' h2 h3 h4
theorem zB {ET:TypeId}{xs:List Value}{z0:Value}{bz:Nat}(h0:One ET z0 bz){ops:Array Oper}{rest:List Oper}{o:Oper}{a:Act}{Q:Exit->Act->World->Prop}(hgd:o.guard=none) (s x:Operand) (t:TypeId) (ht:Tryz.prog.underlying t=some (.slice ET))
  (ho:o.op=.call { callee:=.builtin .append,args:=#[s,x],argTypes:=#[t,t] }) (hs:a.eval s=v) (h:qB ET base w v xs){off:Nat}{news:List Value}(hx:a.eval x=.slice (some ⟨b,off,none⟩) m c) (hl:news.length=m)
  (hnews:∀j u,news[j]?=some u->w.cell? ⟨b,off+j,none⟩=some u) (h1:∀u∈news,u.oneCell'=true) (hm:0<m) (hn:xs.length+m<=1000000000)
  (hK:∀g cap w',qB ET base w' (.slice (some ⟨g,0,none⟩) (xs.length+m) cap) (xs++news)->(v.ownBlock=some g\/g=w.heap.size)->(∃g',base<=g'/\(v.ownBlock=some g'\/g'=w.heap.size)/\Chg g' (g'+1) w w'/\NoU w g')->wpList Tryz.prog ops Q rest (a.put o.dst (.slice (some ⟨g,0,none⟩) (xs.length+m) cap)) w'):wpList Tryz.prog ops Q (o :: rest) a w :=
 wpList_plain hgd fun _ hK'=>xe h0 s x t ht ho hs h hx hl hnews h1 hm hn (fun g cap w' a1 a2 a3=>hK' _ _ (hK g cap w' a1 a2 a3))
theorem jP {ET:TypeId}{xs:List Value}{z0:Value}{bz:Nat}(h0:One ET z0 bz){ops:Array Oper}{o:Oper}{a:Act}{K:Act->World->Prop}{Q:Exit->Act->World->Prop}{E:Prop}(hgd:o.guard=none) (s x:Operand) (t:TypeId) (ht:Tryz.prog.underlying t=some (.slice ET))
  (ho:o.op=.call { callee:=.builtin .append,args:=#[s,x],argTypes:=#[t,t] }) (hs:a.eval s=v) (h:qB ET base w v xs){off:Nat}{news:List Value}(hx:a.eval x=.slice (some ⟨b,off,none⟩) m c) (hl:news.length=m)
  (hnews:∀j u,news[j]?=some u->w.cell? ⟨b,off+j,none⟩=some u) (h1:∀u∈news,u.oneCell'=true) (hm:0<m) (hn:xs.length+m<=1000000000)
  (hK:∀g cap w',qB ET base w' (.slice (some ⟨g,0,none⟩) (xs.length+m) cap) (xs++news)->(v.ownBlock=some g\/g=w.heap.size)->(∃g',base<=g'/\(v.ownBlock=some g'\/g'=w.heap.size)/\Chg g' (g'+1) w w'/\NoU w g')->K (a.put o.dst (.slice (some ⟨g,0,none⟩) (xs.length+m) cap)) w') :
  if Region.wanted o (yielded ops a.tmps)=true then Oper.wp Tryz.prog o a w K Q else E:=by
 have hw:Region.wanted o (yielded ops a.tmps)=true:=by simp[Region.wanted,hgd]
 rw[if_pos hw];exact xe h0 s x t ht ho hs h hx hl hnews h1 hm hn hK
theorem jD{u:Value}{t:TypeId}{fr:Nat×Nat}(h:w.heap[g]?=some (.cells #[u] t fr)):∀j x,[u][j]?=some x->w.cell? ⟨g,0+j,none⟩=some x:=by
 intro j x hj;rw[Nat.zero_add,qj h];simpa using hj
end
section
open Go.RowKit
def byC (l:Byt):List Value:=Go.Lib.byteCells l
theorem qy (l:Byt):(byC l).length=l.length:=Go.Lib.byteCells_length l
theorem zY (a b:Byt):byC (a++b)=byC a++byC b:=Go.Lib.byteCells_append a b
theorem zt {l:Byt}(h:i<l.length):(byC l)[i]?=some (.int .u8 (chZ l i)):=by
 unfold byC Go.Lib.byteCells;rw[List.getElem?_map,List.getElem?_eq_getElem h,jF h]
 rfl
theorem kX:One 5 (.int .u8 0) 1:=⟨by kernel_rfl,rfl,by omega,by decide⟩
def GrB (base:Nat) (w:World) (v:Value) (l:Byt):Prop:=qB 5 base w v (byC l)
theorem GrB.by {base:Nat}{w:World}{v:Value}{l:Byt}(h:GrB base w v l):ByV w v l:=by
 have h':qB 5 base w v (byC l):=h
 rcases Nat.eq_zero_or_pos l.length with h0|h0
 ·obtain⟨A,c,rfl,hc⟩:=h'.form;rw[qy] at hc ⊢;refine⟨A,c,rfl,hc,?_,fun h9=>absurd h9 (by omega)⟩
  rcases h'.2.2 with ⟨hv,-⟩|⟨g,cap,cur,hv,-,-,-,hm,-⟩
  ·injection hv with _ _ h3
   rw[h3];exact Nat.zero_le _
  ·injection hv with _ _ h3
   rw[h3];exact hm
 ·obtain⟨g,cap,rfl,-,-,hm,hc,-,hx⟩:=h'.at_ (by rw[qy];exact h0);rw[qy] at hc ⊢;refine⟨_,cap,rfl,hc,hm,fun _=>⟨g,0,rfl,fun i hi=>?_⟩⟩;have h9:=hx i (by rw[qy];exact hi);have h8:=zt hi;rw[List.getElem?_eq_getElem (by rw[qy];exact hi)] at h8;injection h8 with h8
  rw[Nat.zero_add,h9,h8]
theorem ku{l:Byt}(h:ByV w v l):(convert 27 9 v).run Tryz.prog w=.ok (sV l) w:=by
 obtain⟨A,c,rfl,-,-,hx⟩:=h
 rcases Nat.eq_zero_or_pos l.length with h0|h0
 ·have e:l=[]:=List.eq_nil_of_length_eq_zero h0;subst e;cases A with
  | none=>exact run_convert_bytes_nil w 27 5 Tryz.underlying27 Tryz.underlying5 0 c 9 xh
  | some a=>exact run_convert_bytes_back w 27 9 5 a c [] Tryz.underlying27 Tryz.underlying5 xh (fun j hj=>absurd hj (Nat.not_lt_zero j))
 ·obtain⟨b,off,rfl,hc⟩:=hx h0;refine run_convert_bytes_back w 27 9 5 ⟨b,off,none⟩ c l Tryz.underlying27 Tryz.underlying5 xh (fun j hj=>?_);have e:(⟨b,off,none⟩:Addr).add j=⟨b,off+j,none⟩:=by unfold Addr.add;split<;>simp_all
  rw[e,hc j hj,jF hj]
theorem Yr{u:Value}{t:TypeId}{fr:Nat×Nat}(h:w.heap[g]?=some (.cells #[u,v] t fr)):∀j x,[u,v][j]?=some x->w.cell? ⟨g,0+j,none⟩=some x:=by
 intro j x hj;rw[Nat.zero_add,qj h];simpa using hj
theorem Yq {a b:Int}:∀x∈[Value.int .u8 a,Value.int .u8 b],x.oneCell'=true:=by
 intro x hx
 rcases List.mem_cons.1 hx with rfl|hx
 ·rfl
 ·rw[List.mem_singleton.1 hx];rfl
def nmP (l:Byt) (i:Nat):Byt:=(List.range i).flatMap fun j=>[Xv (dgB l j / 16),Xv (dgB l j % 16)]
theorem Ja (l:Byt) (i:Nat):nmP l (i+1)=nmP l i ++ [Xv (dgB l i / 16),Xv (dgB l i % 16)]:=by
 unfold nmP;rw[List.range_succ,List.flatMap_append]
 rfl
theorem yD (l:Byt) (i:Nat):(nmP l i).length=2*i:=by
 unfold nmP;rw[Q3 (fun j=>Xv (dgB l j / 16)) (fun j=>Xv (dgB l j % 16)),List.length_range]
theorem VR (a b:UInt8):byC [a,b]=[.int .u8 (a.toNat:Int),.int .u8 (b.toNat:Int)]:=rfl
theorem QV(hn:n<16) (w:World):(Instr.index 9 (.string ⟨#[48,49,50,51,52,53,54,55,56,57,97,98,99,100,101,102]⟩) (.int .u8 (n:Int))).run Tryz.prog w=.ok (.int .u8 ((Xv n).toNat:Int)) w:=by
 exact jT (s:=⟨#[48,49,50,51,52,53,54,55,56,57,97,98,99,100,101,102]⟩) (i:=n) (k:=.u8) (by show n<16;exact hn) w
theorem q2t (l:Byt)(hi:i<16) (w:World):(Instr.index 176 (.agg (dgC l)) (.int .i64 (i:Int))).run Tryz.prog w=.ok (.int .u8 ((dgB l i:Nat):Int)) w:=by
 have:i=0\/i=1\/i=2\/i=3\/i=4\/i=5\/i=6\/i=7\/i=8\/i=9\/i=10\/i=11\/i=12\/i=13\/i=14\/i=15:=by omega
 rcases this with rfl|rfl|rfl|rfl|rfl|rfl|rfl|rfl|rfl|rfl|rfl|rfl|rfl|rfl|rfl|rfl<;>(show _=_;kernel_rfl)
theorem q1P {l:Byt}(h:ByV w v l):Calls Tryz.prog 69 #[v] w (qH w (sV (nmB l))):=by
 have HV:=q_h h;obtain⟨Q,hQ⟩:=qf (qH w (sV (nmB l)));rw[<-hQ.out];go_enter Tryz.func69,Tryz.ntmps69;go_wp2_with (go_at_call 133;refine q_o ?_);refine (q2S HV.out).mono ?_;rintro e w1 ⟨rfl,e1⟩;obtain⟨cs,hcs⟩:=qf (dgC l);rw[<-hcs.out];have HE1:=q_h e1;have HG1:Hid (GrB w.heap.size w1 (.slice none 0 0) (nmP l 0)):=qB.nil e1.size;clear e1;go_wp2_with fail
 go_loopw [8,3] (fun iv tv wr=>∃(i:Nat) (A:Option Addr) (c:Nat),i<=16/\iv=.int .i64 (i:Int)/\tv=.slice A (2*i) c/\Hid (GrB w.heap.size wr (.slice A (2*i) c) (nmP l i))/\Hid (Ext w wr)) (fun iv _ _=>16-(intOf iv).toNat)
 case atStart=>exact⟨0,none,0,Nat.zero_le _,rfl,rfl,HG1,HE1⟩
 case round =>
  clear HG1 HE1;obtain⟨i,A,c,hi9,rfl,rfl,HG,HE⟩:=hrel
  by_cases hlt:i<16
  case pos =>
   have u1:decide ((i:Int)<16)=true:=q_t (by omega);have u1':decide (i<16)=true:=q_t hlt;obtain⟨z,hz⟩:=qf (((dgB l i:Nat):Int))
   have hix:∀w,(Instr.index 176 (.agg cs) (.int .i64 (i:Int))).run Tryz.prog w=.ok (.int .u8 z) w:=by
    rw[hcs.out,hz.out];exact q2t l hlt
   have hdb:dgB l i<256:=Nat.mod_lt _ (by decide);have hzb:0<=z/\z<256:=by have:=hz.out;omega
   obtain⟨a,ha⟩:=qf (((dgB l i / 16:Nat):Int));obtain⟨b,hb⟩:=qf (((dgB l i % 16:Nat):Int));have u2:z / 16=a:=by rw[hz.out,ha.out];omega
   have u3:bits .and .u8 z 15=b:=by rw[u8_and15 z hzb.1 hzb.2,hz.out,hb.out];omega
   obtain⟨z1,hz1⟩:=qf (((Xv (dgB l i / 16)).toNat:Int));obtain⟨z2,hz2⟩:=qf (((Xv (dgB l i % 16)).toNat:Int))
   have u4:∀w,(Instr.index 9 (.string ⟨#[48,49,50,51,52,53,54,55,56,57,97,98,99,100,101,102]⟩) (.int .u8 a)).run Tryz.prog w=.ok (.int .u8 z1) w:=by
    rw[ha.out,hz1.out];exact QV (by omega)
   have u5:∀w,(Instr.index 9 (.string ⟨#[48,49,50,51,52,53,54,55,56,57,97,98,99,100,101,102]⟩) (.int .u8 b)).run Tryz.prog w=.ok (.int .u8 z2) w:=by
    rw[hb.out,hz2.out];exact QV (by omega)
   obtain⟨wq,hwq⟩:∃wq,wq=wr:=⟨_,rfl⟩
   subst hwq;go_upto_region 5 with (fail);have eC:=HE.out.drew;refine ql (fun w'=>True) [] (by kernel_rfl) (by exact trivial) (fun hHeld=>?_);refine sP 0 (h:=?_);refine sP 1 (h:=?_);refine sP 2 (h:=?_);refine sP 3 (h:=?_);refine sP 4 (h:=?_);refine sP 5 (h:=?_);refine sP 6 (h:=?_);refine qg (i:=7) rfl (by kernel_rfl) (fun K hK=>?_);go_simp;refine qo (F:=fun W=>K _ W.drew) ?_;intro w6 e6 hsz6 B6;replace eC:Ext w w6.drew:=(HE.out.trans e6).drew;have hG6:GrB w.heap.size w6.drew (.slice A (2*i) c) (nmP l i):=qB.ext HG.out e6.drew;have b6:w6.drew.heap[wq.heap.size]?=some (.cells #[.int .u8 z1,.int .u8 z2] 5 (0,0)):=B6;clear hHeld;refine hK.out _ _ (by exact trivial) fun hHeld=>?_
   clear hK K;try simp only[nr]
   refine qg (i:=8) rfl (by kernel_rfl) (fun K hK=>?_);refine xe kX _ _ 27 Tryz.underlying27 rfl (by rfl) hG6 (m:=2) (c:=2) (news:=[.int .u8 z1,.int .u8 z2]) (by rfl) rfl (Yr b6) Yq (by omega) (by rw[qy,yD];omega) ?_;intro g cap w7 hG7 _ ⟨g',hg',_,C7,_⟩;replace eC:=C7.ext eC hg';clear hHeld;refine hK.out _ _ (by exact trivial) fun hHeld=>?_
   clear hK K;try simp only[nr]
   refine sP 9 (h:=?_);refine qm (by kernel_rfl) ?_ _;clear hHeld
   have HG2:Hid (GrB w.heap.size w7 (.slice (some ⟨g,0,none⟩) (2*(i+1)) cap) (nmP l (i+1))):=by
    rw[qy,yD] at hG7;unfold GrB;rw[Hid,Ja,zY,VR,<-hz1.out,<-hz2.out];exact hG7
   have HE2:Hid (Ext w w7):=eC;rw[qy,yD];clear hG7 C7 eC HG HE hix u2 u3 u4 u5;go_wp2;go_roundw
   case rel=>exact⟨i+1,_,cap,by omega,by go_num,rfl,HG2,HE2⟩
   case measure=>simp[intOf];omega
  have u1:decide ((i:Int)<16)=false:=q_f (by omega);have u1':decide (i<16)=false:=q_f hlt
  have HN:Hid (nmP l i=nmB l):=by
   rw[Hid,show i=16 by omega]
   rfl
  have hb:=GrB.by HG.out
  have hcv:=ku hb;obtain⟨sv,hsv⟩:=qf (sV (nmP l i));rw[<-hsv.out] at hcv;go_wp2
  show Q (Ending.returned sv) wr
  rw[hQ.out,hsv.out,HN.out];exact⟨rfl,HE.out⟩
end
section
open Go.RowKit Go.Shelf
def YJ:Go.Shelf.Ren:=⟨fun|129=>156|171=>214|243=>244|246=>256|283=>261|284=>262|285=>263|286=>264|317=>268|318=>269|319=>270|320=>271|337=>277|338=>278|_=>0,fun|0=>0|2=>2|3=>3|4=>4|5=>5|9=>9|20=>20|37=>27|46=>142|51=>196|53=>198|171=>292|173=>294|212=>298|213=>299|232=>312|233=>313|_=>0,fun|17=>3|18=>6|19=>7|_=>0⟩
theorem WX:Go.Proofs.Lays.n171 Tryz.prog YJ:=by
 constructor
 all_goals first|kernel_rfl|(intro w;kernel_rfl)
theorem q1y:Go.Proofs.LaysM.n171 Tryz.prog YJ:=by
 constructor
 ·exact WX
 all_goals first|kernel_rfl|(intro w;kernel_rfl)|trace_state
def kG (w:World):Prop:=Go.Lib.TabIs Tryz.prog w "internal/strconv.uint64pow10" .u64 Go.Lib.pow10Tab
theorem Vs (w:World) (k:Nat) (os:Array Obj):Ext w (Go.Sort.grow (w.drewN k) os) :=
 ⟨rfl,rfl,rfl,by show w.heap.size<=(w.heap++os).size;simp,fun j hj=>by show (w.heap++os)[j]?=_;rw[Array.getElem?_append_left hj]⟩
theorem Zt(hn:n<=9223372036854775807)(ht:kG w):Calls Tryz.prog 214 #[.int .i64 (n:Int)] w (qH w (sV (dec n))):=by
 have h:=Any.strconv_Itoa (P:=Tryz.prog) (ρ:=YJ) q1y (n:Int) (by omega) (by omega) w ht;refine Calls.mono (show Calls Tryz.prog 214 _ _ _ from h) ?_;rintro e w' ⟨rfl,k,os,rfl⟩;refine⟨by rw[Go.Lib.itoa_nonneg];rfl,?_⟩;exact Vs w k os
def wO:Go.Shelf.Ren:=⟨fun|178=>213|179=>240|180=>215|181=>216|182=>241|183=>179|184=>254|251=>242|252=>243|290=>255|324=>260|_=>0,fun|0=>0|3=>3|4=>4|5=>5|9=>9|20=>20|37=>27|75=>249|80=>279|91=>215|93=>217|130=>219|131=>102|_=>0,fun|14=>2|_=>0⟩
theorem q0X:Go.Proofs.LaysM.n178 Tryz.prog wO:=by
 constructor
 ·constructor
  all_goals first|kernel_rfl|(intro w;kernel_rfl)
 all_goals first|kernel_rfl|(intro w;kernel_rfl)
theorem q2H:Go.Proofs.LaysM.n180 Tryz.prog wO:=by
 constructor
 ·constructor
  all_goals first|kernel_rfl|(intro w;kernel_rfl)
 all_goals first|kernel_rfl|(intro w;kernel_rfl)
theorem q2G:Go.Proofs.LaysM.n181 Tryz.prog wO:=by
 constructor
 ·constructor
  all_goals first|kernel_rfl|(intro w;kernel_rfl)
 all_goals first|kernel_rfl|(intro w;kernel_rfl)
theorem q2F:Go.Proofs.LaysM.n182 Tryz.prog wO:=by
 constructor
 ·constructor
  all_goals first|kernel_rfl|(intro w;kernel_rfl)
 all_goals first|kernel_rfl|(intro w;kernel_rfl)
theorem q2E:Go.Proofs.LaysM.n183 Tryz.prog wO:=by
 constructor
 ·constructor
  all_goals first|kernel_rfl|(intro w;kernel_rfl)
 all_goals first|kernel_rfl|(intro w;kernel_rfl)
def yY (W:World) (b:Nat) (l:Byt) (w:World):Prop:=Go.Lib.IsBuffer 217 5 W.heap.size b (byC l) w/\Ext W w
def Oth (b:Nat) (w w':World):Prop:=Go.Lib.OthersKept 5 (some b) w w'
theorem Oth.trans{a c d:World}(h:Oth b a c) (k:Oth b c d):Oth b a d:=Go.Lib.OthersKept.trans h k
theorem Oth.ext(e:Ext w w'):Oth b w w':=fun k o h _ _=>e.block h
theorem Oth.blk(h:Oth b w w'){cs:Array Value}{t:TypeId}{fr:Nat×Nat}(hb:w.heap[g]?=some (.cells cs t fr)) (hg:g≠b) (ht:t≠5):w'.heap[g]?=some (.cells cs t fr) :=
 h g _ hb (fun e=>hg (by injection e)) (fun c fz e=>by injection e with _ e2 _;exact ht e2)
theorem yY.ext {W:World}{l:Byt}(h:yY W b l w) (e:Ext w w'):yY W b l w':=by
 obtain⟨⟨hB,v,lr,hb,hr,hne⟩,hE⟩:=h;refine⟨⟨hB,v,lr,e.block hb,?_,hne⟩,hE.trans e⟩;have h9:qB 5 W.heap.size w v (byC l):=⟨hE.size,hr⟩
 exact (h9.ext e).2
def q31 (W:World) (b:Nat) (l:Byt) (w:World) (v:Value) (e:Ending) (w':World):Prop:=e=.returned v/\yY W b l w'/\Oth b w w'
theorem jg (l:Byt):∀v∈byC l,v.oneCell'=true:=Go.Lib.byteCells_one l
theorem kR {W:World}{l s:Byt}(h:yY W b l w) (hl:l.length+s.length<=1000000) :
  Calls Tryz.prog 213 #[.pointer (some ⟨b,0,none⟩),sV s] w (q31 W b (l++s) w (.tuple #[.int .i64 (s.length:Int),.nilIface])):=by
 have h9:=Any.Buffer_WriteString_k (P:=Tryz.prog) (ρ:=wO) q0X W.heap.size b (byC l) ⟨s.toArray⟩ w h.1 h.2.size (jg l) (by rw[qy];show l.length+s.toArray.size<=_;rw[List.size_toArray];omega);refine Calls.mono (show Calls Tryz.prog 213 _ _ _ from h9) ?_;rintro e w' ⟨rfl,h1,h2,h3⟩;refine⟨rfl,⟨?_,Below.trans h.2 h2⟩,h3⟩;rw[zY];exact h1
theorem VP {W:World}{l:Byt}(h:yY W b l w) :
  Calls Tryz.prog 216 #[.pointer (some ⟨b,0,none⟩)] w (qH w (.int .i64 (l.length:Int))):=by
 have h9:=Any.Buffer_Len (P:=Tryz.prog) (ρ:=wO) q2G W.heap.size b (byC l) w h.1;refine Calls.mono (show Calls Tryz.prog 216 _ _ _ from h9) ?_;rintro e w' ⟨rfl,k,rfl⟩;rw[qy];exact⟨rfl,(Ext.refl w).drewN k⟩
theorem q0k {W:World}{l s:Byt}{a:Addr}(h:yY W b l w) (hs:ByV W (.slice (some a) n k) s) (hn:n=s.length) (hl:l.length+s.length<=1000000) (ha:a.block<W.heap.size\/0<n) :
  Calls Tryz.prog 215 #[.pointer (some ⟨b,0,none⟩),.slice (some a) n k] w (q31 W b (l++s) w (.tuple #[.int .i64 (s.length:Int),.nilIface])):=by
 subst hn;obtain⟨A,c,hv,hnc,hcm,hx⟩:=hs;injection hv with hA hn2 hc2
 have hlt:a.block<W.heap.size:=by
  rcases ha with h1|h1
  ·exact h1
  ·obtain⟨b2,off,hA2,hx2⟩:=hx h1;rw[hA2] at hA;injection hA with hA
   rw[hA];exact cell_lt (hx2 0 h1)
 have h9:=Any.Buffer_Write_k (P:=Tryz.prog) (ρ:=wO) q2H W.heap.size b (byC l) (byC s) a s.length k w h.1 h.2.size (jg l) (qy s) hlt (fun j v hj=>by
  have hjl:j<s.length:=by
   have:=(List.getElem?_eq_some_iff.1 hj).1
   rwa [qy] at this
  obtain⟨b2,off,hA2,hx2⟩:=hx (by omega);rw[hA2] at hA;injection hA with hA
  rw[zt hjl] at hj;injection hj with hj
  rw[hA,<-hj,show ((⟨b2,off,none⟩:Addr).add j)=⟨b2,off+j,none⟩ by unfold Addr.add;split<;>simp_all]
  exact h.2.cell (hx2 j hjl)) (jg s) (by rw[qy];omega)
 refine Calls.mono (show Calls Tryz.prog 215 _ _ _ from h9) ?_;rintro e w' ⟨rfl,h1,h2,h3⟩;refine⟨rfl,⟨?_,Below.trans h.2 h2⟩,h3⟩;rw[zY];exact h1
theorem q0l {W:World}{l:Byt}(h:yY W b l w) :
  Calls Tryz.prog 179 #[.pointer (some ⟨b,0,none⟩)] w (fun e w'=>∃v,e=.returned v/\GrB W.heap.size w' v l/\Ext w w'):=by
 have h9:=Any.Buffer_Bytes (P:=Tryz.prog) (ρ:=wO) q2E W.heap.size b (byC l) w h.1;refine Calls.mono (show Calls Tryz.prog 179 _ _ _ from h9) ?_;rintro e w' ⟨v,rfl,h1,k,rfl⟩;exact⟨v,rfl,⟨h.2.size,h1⟩,(Ext.refl w).drewN k⟩
theorem q1V {W:World}(hE:Ext W w) (hs:W.heap.size<=w.heap.size):yY W w.heap.size [] (w.alloc (.cells #[.slice none 0 0,.int .i64 0,.int .i8 0] 217)):=by
 exact⟨⟨hs,.slice none 0 0,0,heap_alloc_new w _,World.ownsRow_nil _ _ _ _,by simp[Value.ownBlock]⟩,hE.alloc _⟩
theorem Qz (a b:Byt) (h:a.length+b.length<=1000000) (w:World):(Op.stringOp .add ⟨a.toArray⟩ ⟨b.toArray⟩).run Tryz.prog w=.ok (sV (a++b)) w:=by
 unfold Op.stringOp;have h1:(⟨a.toArray⟩:ByteArray).size=a.length:=by show a.toArray.size=_;rw[List.size_toArray]
 have h2:(⟨b.toArray⟩:ByteArray).size=b.length:=by show b.toArray.size=_;rw[List.size_toArray]
 simp only[h1,h2]
 rw[if_neg (by
  have:IntKind.i64.max=9223372036854775807:=by decide
  omega)]
 unfold sV
 have e:(⟨a.toArray⟩:ByteArray) ++ ⟨b.toArray⟩=⟨(a++b).toArray⟩:=by
  apply ByteArray.ext
  rw[ByteArray.data_append]
  simp
 rw[e]
 rfl
theorem zL (a b:Byt) (h:a.length+b.length<=1000000) (w:World):(binOp .add 9 (sV a) (sV b)).run Tryz.prog w=.ok (sV (a++b)) w:=by
 unfold sV;rw[binOp_string_add];exact Qz a b h w
end
section
open Go.RowKit
theorem kG.ext(h:kG w) (e:Ext w w'):kG w':=by
 unfold kG Go.Lib.TabIs at *;exact Go.Joins.var_stays (g:=3) (by kernel_rfl) h e (q_r)
theorem xA(h:n<=65536):(dec n).length<=5:=by
 unfold dec;rw[Go.Lib.decDigits_length]
 by_cases h0:n<10
 ·rw[Go.Lib.nDigits_small h0];omega
 rw[Go.Lib.nDigits_big h0]
 by_cases h1:n / 10<10
 ·rw[Go.Lib.nDigits_small h1];omega
 rw[Go.Lib.nDigits_big h1]
 by_cases h2:n / 10 / 10<10
 ·rw[Go.Lib.nDigits_small h2];omega
 rw[Go.Lib.nDigits_big h2]
 by_cases h3:n / 10 / 10 / 10<10
 ·rw[Go.Lib.nDigits_small h3];omega
 rw[Go.Lib.nDigits_big h3,Go.Lib.nDigits_small (by omega)];omega
theorem VlV.cells {nn:Bool}{V:Vl}(h:VlV nn N w V v):∃(z:Int) (nb:Bool) (A1:Option Addr) (n1 c1:Nat) (A2:Option Addr) (n2 c2:Nat) (A3:Option Addr) (n3 c3:Nat),v=.agg #[.int .i64 z,.bool nb,.slice A1 n1 c1,.slice A2 n2 c2,.slice A3 n3 c3]:=by
 cases V with
 | int z =>
  unfold VlV at h;obtain⟨a,b,c,e,rfl,hI,⟨A1,k1,rfl⟩,⟨A2,k2,rfl⟩⟩:=h;obtain⟨nb,A,n,k,hab,-⟩:=hI.parts;simp only[Value.agg.injEq,Array.mk.injEq,List.cons.injEq,and_true] at hab;obtain⟨rfl,rfl⟩:=hab;exact⟨_,_,_,_,_,_,_,_,_,_,_,rfl⟩
 | txt l =>
  unfold VlV at h;obtain⟨b,c,e,rfl,⟨A1,k1,rfl⟩,⟨⟨A3,k3,rfl,-⟩,-⟩,⟨A2,k2,rfl⟩⟩:=h;exact⟨_,_,_,_,_,_,_,_,_,_,_,rfl⟩
 | lst l =>
  unfold VlV at h;obtain⟨b,c,A,k,rfl,⟨A1,k1,rfl⟩,⟨A2,k2,rfl⟩,-⟩:=h;exact⟨_,_,_,_,_,_,_,_,_,_,_,rfl⟩
mutual
theorem Vw:∀V:Vl,1<=(enc V).length
 | .int z=>by unfold enc;simp
 | .txt l=>by unfold enc;simp
 | .lst l=>by unfold enc;simp
end
theorem y8 (vs:List Vl) (i:Nat) (h:i<vs.length):zV (vs.take (i+1))=zV (vs.take i)++enc (vs[i]?.getD default):=by
 rw[List.take_add_one,List.getElem?_eq_getElem h,Zi]
 show _++zV [vs[i]]=_
 unfold zV;unfold zV;rw[List.append_nil]
 rfl
theorem Zh (vs:List Vl) (i:Nat):(zV (vs.take i)).length<=(zV vs).length:=by
 have h:zV vs=zV (vs.take i)++zV (vs.drop i):=by rw[<-Zi,List.take_append_drop]
 rw[h,List.length_append];omega
theorem jS:∀(l:List Vl) (i:Nat),XX l->i<l.length->jR (l[i]?.getD default)
 | [],i,_,h=>absurd h (Nat.not_lt_zero i)
 | v :: r,0,hs,_=>by unfold XX at hs;exact hs.1
 | v :: r,i+1,hs,h=>by
  unfold XX at hs;exact jS r i hs.2 (by simpa using h)
def x9:Prop:=∀(N:Nat) (w:World) (v:Value) (z:Int),jA N w v z->0<=z->z<10->kG w->Calls Tryz.prog 212 #[v] w (qH w (sV (Go.Lib.itoa z)))
theorem Js {N:Nat}(HT:x9):∀(m:Nat) (V:Vl),szV V<=m->∀(W w:World) (b:Nat) (l:Byt) (v:Value),VlV true N W V v->jR V->kG W->yY W b l w->l.length+(enc V).length<=65536 ->
  Calls Tryz.prog 178 #[.pointer (some ⟨b,0,none⟩),v] w (q31 W b (l++enc V) w (.bool true))
 | 0,V,hm,_,_,_,_,_,_,_,_,_,_=>by cases V<;>(unfold szV at hm;omega)
 | m+1,V,hm,W,w,b,l,v,hv,hs,ht,hb,hl=>by
  have HB:=q_h hb;have HTB:=q_h ht;have hll:l.length<=65536:=by omega
  obtain⟨Q,hQ⟩:=qf (q31 W b (l++enc V) w (.bool true));rw[<-hQ.out];cases V with
  | int z =>
   unfold VlV at hv;obtain⟨x1,x2,x3,x4,rfl,hI,⟨A1,k1,rfl⟩,⟨A2,k2,rfl⟩⟩:=hv;have HI:=q_h hI;obtain⟨nb,A,n,k,hab,-⟩:=hI.parts;simp only[Value.agg.injEq,Array.mk.injEq,List.cons.injEq,and_true] at hab;obtain⟨rfl,rfl⟩:=hab;have hz:0<=z/\z<10:=by unfold jR at hs;exact hs
   obtain⟨ch,hch⟩:=qf (UInt8.ofNat (48+z.toNat))
   have HIT:Hid (Go.Lib.itoa z=[ch]):=by
    obtain⟨j,rfl⟩:=Int.eq_ofNat_of_zero_le hz.1;rw[Hid,Go.Lib.itoa_nonneg,Go.Lib.decDigits_one (by omega),hch.out]
    rfl
   obtain⟨zc,hzc⟩:=qf (chZ [ch] 0)
   have hzc2:(zc != 45)=true:=by
    have h9:zc=48+z:=by
     rw[hzc.out,hch.out]
     show ((UInt8.ofNat (48+z.toNat)).toNat:Int)=_
     rw[UInt8.toNat_ofNat'];omega
    simp
    omega
   obtain⟨B,hB⟩:=qf (⟨[ch].toArray⟩:ByteArray);have hsz:B.size=1:=by rw[hB.out];rfl
   have hix:∀w,(Instr.index 9 (.string B) (.int .i64 0)).run Tryz.prog w=.ok (.int .u8 zc) w:=by
    have h9:=jT (s:=B) (i:=0) (k:=.i64) (by omega);rw[hB.out,wC,<-hB.out,<-hzc.out] at h9;exact h9
   have HS0:Hid (sV (Go.Lib.itoa z)=.string B):=by rw[Hid,HIT.out,hB.out];rfl
   obtain⟨s1,hs1⟩:=qf (sV ([105] ++ [ch]));obtain⟨s2,hs2⟩:=qf (sV ([105] ++ [ch] ++ [59]))
   have t1:∀w,(Op.stringOp .add ⟨#[105]⟩ B).run Tryz.prog w=.ok s1 w:=by
    rw[hB.out,hs1.out];exact Qz [105] [ch] (by simp)
   have t2:∀w,(binOp .add 9 s1 (.string ⟨#[59]⟩)).run Tryz.prog w=.ok s2 w:=by
    rw[hs1.out,hs2.out];exact zL ([105] ++ [ch]) [59] (by simp)
   have HEN:Hid (enc (.int z)=[105] ++ [ch] ++ [59]):=by rw[Hid];unfold enc;rw[HIT.out];rfl
   have HZ:=q_h hz;clear hb ht hI hch hzc hB HIT hs hm hz;go_enter Tryz.func178,Tryz.ntmps178;go_upto_region 1 with (fail);refine qo ?_;intro w1 hE hsz1 B0;obtain⟨p0,p1,p2,p3,p4⟩:=qA B0;have HB1:=q_h (HB.out.ext hE);go_wp2_with (go_at_call 212;refine q_o ?_);refine (HT N _ _ z (HI.out.ext HB1.out.2) HZ.out.1 HZ.out.2 (HTB.out.ext HB1.out.2)).mono ?_;rintro e w2 ⟨rfl,e2⟩;rw[HS0.out];have HB2:=q_h (HB1.out.ext e2)
   have HW:Hid (Calls Tryz.prog 213 #[.pointer (some ⟨b,0,none⟩),s2] w2 (fun e w'=>(∃v,e=.returned v)/\yY W b (l++enc (.int z)) w'/\Oth b w2 w')):=by
    rw[hs2.out,HEN.out];refine (kR HB2.out (by simp;omega)).mono ?_;rintro e w' ⟨rfl,h1,h2⟩;exact⟨⟨_,rfl⟩,h1,h2⟩
   clear p0 p1 p2 p3 p4;go_wp2_with (go_at_call 213;refine q_o ?_);refine HW.out.mono ?_;rintro e w4 ⟨⟨v4,rfl⟩,b4,o4⟩;have HB4:=q_h b4;have HO4:Hid (Oth b w w4):=(Oth.ext (hE.trans e2)).trans o4;clear HW b4 o4;obtain⟨q,hq⟩:=qf (l++enc (.int z)).length;have hq6:decide ((q:Int)<=65536)=true:=q_t (by have:=hq.out;rw[List.length_append] at this;omega);have hq6':decide (q<=65536)=true:=q_t (by have:=hq.out;rw[List.length_append] at this;omega);go_wp2_with (go_at_call 216;refine q_o ?_);refine (VP HB4.out).mono ?_;rintro e w5 ⟨rfl,e5⟩;rw[<-hq.out];have HB5:=q_h (HB4.out.ext e5);have HO5:=q_h (HO4.out.trans (Oth.ext e5));go_wp2
   first|go_ret|skip
   rw[hQ.out];exact⟨rfl,HB5.out,HO5.out⟩
  | txt s =>
   unfold VlV at hv;obtain⟨c1,c2,c3,rfl,⟨A1,k1,rfl⟩,⟨hby,hnil⟩,⟨A2,k2,rfl⟩⟩:=hv;obtain⟨a,k,rfl,hA9⟩:=hnil rfl;have HS:=q_h hby;have hsl:s.length<=65536:=by unfold enc at hl;simp at hl;omega
   obtain⟨n,hn⟩:=qf s.length;rw[<-hn.out] at HS ⊢;clear hby hb ht hnil;go_enter Tryz.func178,Tryz.ntmps178;go_upto_region 1 with (fail);refine qo ?_;intro w1 hE hsz B0;obtain⟨p0,p1,p2,p3,p4⟩:=qA B0;have HB0:=q_h B0;have HB1:=q_h (HB.out.ext hE);go_wp2_with (go_at_call 214;refine q_o ?_);refine (Zt (n:=n) (by have:=hn.out;omega) (HTB.out.ext HB1.out.2)).mono ?_;rintro e w2 ⟨rfl,e2⟩;have HB2:=q_h (HB1.out.ext e2);have HB02:=q_h (e2.block HB0.out);have hdl:=q_h (xA (n:=n) (by have:=hn.out;omega));obtain⟨s0,hs0⟩:=qf (sV (dec n));obtain⟨s1,hs1⟩:=qf (sV ([116]++dec n));obtain⟨s2,hs2⟩:=qf (sV ([116]++dec n ++ [58]))
   have t1:∀w,(binOp .add 9 (.string ⟨#[116]⟩) s0).run Tryz.prog w=.ok s1 w:=by
    rw[hs0.out,hs1.out];exact zL [116] (dec n) (by have:=hdl.out;simp;omega)
   have t2:∀w,(binOp .add 9 s1 (.string ⟨#[58]⟩)).run Tryz.prog w=.ok s2 w:=by
    rw[hs1.out,hs2.out];exact zL ([116]++dec n) [58] (by have:=hdl.out;simp;omega)
   rw[<-hs0.out];clear p0 p1 p2 p3 p4
   have HW:Hid (Calls Tryz.prog 213 #[.pointer (some ⟨b,0,none⟩),s2] w2 (fun e w'=>(∃v,e=.returned v)/\yY W b (l++([116]++dec n ++ [58])) w'/\Oth b w2 w')):=by
    rw[hs2.out];refine (kR HB2.out (by have:=hdl.out;simp;omega)).mono ?_;rintro e w' ⟨rfl,h1,h2⟩;exact⟨⟨_,rfl⟩,h1,h2⟩
   go_wp2_with (go_at_call 213;refine q_o ?_);refine HW.out.mono ?_;rintro e w3 ⟨⟨v3,rfl⟩,b3,o3⟩;have HB3:=q_h b3;have HB03:=q_h (o3.blk HB02.out (by have:=HB.out.1.lt;omega) (by decide));have HO3:Hid (Oth b w w3):=(Oth.ext (hE.trans e2)).trans o3;have hn6:decide (65536<(n:Int))=false:=q_f (by have:=hn.out;omega);have hn6':decide (65536<n)=false:=q_f (by have:=hn.out;omega);clear HW b3 o3 t1 t2 HB2 HB02;obtain⟨p0,p1,p2,p3,p4⟩:=qA HB03.out
   have HW:Hid (Calls Tryz.prog 215 #[.pointer (some ⟨b,0,none⟩),.slice (some a) n k] w3 (fun e w'=>(∃v,e=.returned v)/\yY W b (l++enc (.txt s)) w'/\Oth b w3 w')):=by
    refine (q0k HB3.out HS.out hn.out ?_ ?_).mono ?_
    ·have:=hdl.out;have:=hn.out;simp;omega
    ·exact .inl hA9
    rintro e w' ⟨rfl,h1,h2⟩;refine⟨⟨_,rfl⟩,?_,h2⟩;have e9:l++([116]++dec n ++ [58])++s=l++enc (.txt s):=by unfold enc;rw[hn.out];simp
    rw[<-e9];exact h1
   go_wp2_with (go_at_call 215;refine q_o ?_);refine HW.out.mono ?_;rintro e w4 ⟨⟨v4,rfl⟩,b4,o4⟩;have HB4:=q_h b4;have HO4:=q_h (HO3.out.trans o4);clear HW b4 o4 p0 p1 p2 p3 p4;obtain⟨q,hq⟩:=qf (l++enc (.txt s)).length;have hq6:decide ((q:Int)<=65536)=true:=q_t (by have:=hq.out;rw[List.length_append] at this;omega);have hq6':decide (q<=65536)=true:=q_t (by have:=hq.out;rw[List.length_append] at this;omega);go_wp2_with (go_at_call 216;refine q_o ?_);refine (VP HB4.out).mono ?_;rintro e w5 ⟨rfl,e5⟩;rw[<-hq.out];have HB5:=q_h (HB4.out.ext e5);have HO5:=q_h (HO4.out.trans (Oth.ext e5));go_wp2
   first|go_ret|skip
   rw[hQ.out];exact⟨rfl,HB5.out,HO5.out⟩
  | lst vs =>
   obtain⟨c1,c2,u,rfl,⟨A1,k1,rfl⟩,⟨A2,k2,rfl⟩,hL⟩:=hv.lst;obtain⟨A,k,rfl,hnk,hkm⟩:=hL.form;unfold maxLen at hkm;have HLV:=q_h hL;obtain⟨n,hn⟩:=qf vs.length
   have hnl:n<=65536:=by
    unfold jR at hs;have:=hn.out;omega
   have HSM:Hid (XX vs):=by unfold jR at hs;exact hs.2
   obtain⟨h0,hh0⟩:=qf (l++([108]++dec n ++ [58]));have HEN:Hid (l++enc (.lst vs)=h0++zV vs):=by rw[Hid,hh0.out,hn.out];unfold enc;simp
   have HLL:Hid ((h0++zV vs).length<=65536):=by rw[Hid,<-HEN.out,List.length_append];exact hl
   have HSZ:Hid (szL vs<=m):=by unfold szV at hm;show szL vs<=m;omega
   rw[<-hn.out] at HLV hnk ⊢;rw[HEN.out] at hQ;clear hb ht hL hv hs hl hm;go_enter Tryz.func178,Tryz.ntmps178;go_upto_region 1 with (fail);refine qo ?_;intro w1 hE hsz B0;obtain⟨p0,p1,p2,p3,p4⟩:=qA B0;have HB0:=q_h B0;have HB1:=q_h (HB.out.ext hE);go_wp2_with (go_at_call 214;refine q_o ?_);refine (Zt (n:=n) (by omega) (HTB.out.ext HB1.out.2)).mono ?_;rintro e w2 ⟨rfl,e2⟩;have HB2:=q_h (HB1.out.ext e2);have HB02:=q_h (e2.block HB0.out);have hdl:=q_h (xA (n:=n) hnl);obtain⟨s0,hs0⟩:=qf (sV (dec n));obtain⟨s1,hs1⟩:=qf (sV ([108]++dec n));obtain⟨s2,hs2⟩:=qf (sV ([108]++dec n ++ [58]))
   have t1:∀w,(binOp .add 9 (.string ⟨#[108]⟩) s0).run Tryz.prog w=.ok s1 w:=by
    rw[hs0.out,hs1.out];exact zL [108] (dec n) (by have:=hdl.out;simp;omega)
   have t2:∀w,(binOp .add 9 s1 (.string ⟨#[58]⟩)).run Tryz.prog w=.ok s2 w:=by
    rw[hs1.out,hs2.out];exact zL ([108]++dec n) [58] (by have:=hdl.out;simp;omega)
   rw[<-hs0.out];clear p0 p1 p2 p3 p4
   have HW:Hid (Calls Tryz.prog 213 #[.pointer (some ⟨b,0,none⟩),s2] w2 (fun e w'=>(∃v,e=.returned v)/\yY W b h0 w'/\Oth b w2 w')):=by
    rw[hs2.out,hh0.out];refine (kR HB2.out (by have:=hdl.out;simp;omega)).mono ?_;rintro e w' ⟨rfl,h1,h2⟩;exact⟨⟨_,rfl⟩,h1,h2⟩
   go_wp2_with (go_at_call 213;refine q_o ?_);refine HW.out.mono ?_;rintro e w3 ⟨⟨v3,rfl⟩,b3,o3⟩
   have HB3:Hid (yY W b (h0++zV (vs.take 0)) w3):=by
    rw[List.take_zero];unfold zV;rw[List.append_nil];exact b3
   have HB03:=q_h (o3.blk HB02.out (by have:=HB.out.1.lt;omega) (by decide));have HO3:Hid (Oth b w w3):=(Oth.ext (hE.trans e2)).trans o3;have HX3:Hid (w.heap.size<w3.heap.size):=qK HB03.out;clear HW b3 o3 t1 t2 HB2 HB02 HB1;obtain⟨p0,p1,p2,p3,p4⟩:=qA HB03.out;go_wp2_with fail
   go_loopw [21] (fun iv wr=>∃i:Nat,i<=n/\iv=.int .i64 (i:Int)/\Hid (yY W b (h0++zV (vs.take i)) wr)/\Hid (Oth b w wr)) (fun iv _=>n-(intOf iv).toNat)
   case atStart=>exact⟨0,Nat.zero_le _,rfl,HB3,HO3⟩
   case round =>
    clear HB3 HO3 p0 p1 p2 p3 p4;obtain⟨i,hi9,rfl,HBI,HOI⟩:=hrel
    by_cases hlt:i<n
    case neg =>
     have u1:decide ((i:Int)<(n:Int))=false:=q_f (by omega);have u1':decide (i<n)=false:=q_f hlt
     have HBF:Hid (yY W b (h0++zV vs) wr):=by
      have e9:vs.take i=vs:=List.take_of_length_le (by have:=hn.out;omega);rw[<-e9];exact HBI.out
     obtain⟨q,hq⟩:=qf (h0++zV vs).length;have hq6:decide ((q:Int)<=65536)=true:=q_t (by have:=hq.out;have:=HLL.out;omega);have hq6':decide (q<=65536)=true:=q_t (by have:=hq.out;have:=HLL.out;omega);go_wp2_with (go_at_call 216;refine q_o ?_);refine (VP HBF.out).mono ?_;rintro e w5 ⟨rfl,e5⟩;rw[<-hq.out];have HB5:=q_h (HBF.out.ext e5);have HO5:=q_h (HOI.out.trans (Oth.ext e5));go_wp2
     first|go_ret|skip
     rw[hQ.out];exact⟨rfl,HB5.out,HO5.out⟩
    have u1:decide ((i:Int)<(n:Int))=true:=q_t (by omega);have u1':decide (i<n)=true:=q_t hlt;have u2:(i:Int)<(n:Int):=by omega
    obtain⟨g,off,rfl,hx⟩:=HLV.out.addr (by omega);obtain⟨d0,d1,d2,d3,d4,k0,k1',k2',k3,k4,hvi⟩:=hx i hlt;obtain⟨dz,db,D1,m1,j1,D2,m2,j2,D3,m3,j3,hdd⟩:=hvi.cells;simp only[Value.agg.injEq,Array.mk.injEq,List.cons.injEq,and_true] at hdd;obtain⟨rfl,rfl,rfl,rfl,rfl⟩:=hdd;have HVI:=q_h hvi;replace k0:=HBI.out.2.cell k0;replace k1':=HBI.out.2.cell k1';replace k2':=HBI.out.2.cell k2';replace k3:=HBI.out.2.cell k3;replace k4:=HBI.out.2.cell k4;obtain⟨wq,hwq⟩:∃wq,wq=wr:=⟨_,rfl⟩
    subst hwq;clear hx hvi;go_upto_region 6 with (fail);refine qo ?_;intro w4 e4 hsz4 B4;obtain⟨r0,r1,r2,r3,r4⟩:=qA B4;have HB4:=q_h (HBI.out.ext e4);have HO4:=q_h (HOI.out.trans (Oth.ext e4));clear k0 k1' k2' k3 k4;have hsi:=y8 vs i (by have:=hn.out;omega);have hle:=Zh vs (i+1)
    have HW:Hid (Calls Tryz.prog 178 #[.pointer (some ⟨b,0,none⟩),.agg #[.int .i64 dz,.bool db,.slice D1 m1 j1,.slice D2 m2 j2,.slice D3 m3 j3]] w4 (q31 W b (h0++zV (vs.take (i+1))) w4 (.bool true))):=by
     rw[hsi,<-List.append_assoc];refine Js HT m (vs[i]?.getD default) ?_ W w4 b _ _ HVI.out (jS vs i HSM.out (by have:=hn.out;omega)) HTB.out HB4.out ?_
     ·have h1:=xO vs i (by have:=hn.out;omega);have:=HSZ.out;omega
     ·have h2:=HLL.out;rw[hsi] at hle;rw[List.length_append] at h2 hle ⊢;omega
    clear hsi hle;go_wp2_with (go_at_call 178;refine q_o ?_);refine HW.out.mono ?_;rintro e w5 ⟨rfl,b5,o5⟩;have HB5:=q_h b5;have HO5:=q_h (HO4.out.trans o5);clear HW b5 o5 r0 r1 r2 r3 r4 HBI HOI;go_wp2;go_roundw
    case rel=>exact⟨i+1,by omega,by go_num,HB5,HO5⟩
    case measure=>simp[intOf];omega
theorem KO(h:n<10):dec n=[UInt8.ofNat (48+n)]:=Go.Lib.decDigits_one h
theorem q1M(h:¬n<10):dec n=dec (n / 10)++dec (n % 10):=by
 rw[KO (Nat.mod_lt n (by decide))];unfold dec;rw[Go.Lib.decDigits,dif_neg h]
theorem xm:∀(m n:Nat),n<=m->n<=65536->∀w:World,Calls Tryz.prog 199 #[.int .i64 (n:Int)] w (qH w (sV (dec n)))
 | m,n,hm,hn,w=>by
  by_cases h10:n<10
  ·have u1:decide ((n:Int)<10)=true:=q_t (by omega);have u1':decide (n<10)=true:=q_t h10;obtain⟨z,hz⟩:=qf (((UInt8.ofNat (48+n)).toNat:Int));have u2:IntKind.i64.wrap (48+(n:Int))=48+(n:Int):=wrp (by omega) (by omega);have u3:IntKind.u8.wrap (48+(n:Int))=z:=by rw[hz.out,UInt8.toNat_ofNat',QO];omega
   obtain⟨s0,hs0⟩:=qf (sV (dec n));rw[<-hs0.out];go_enter Tryz.func199,Tryz.ntmps199;go_upto_region 2 with (fail);refine wp_region_lit ?_;refine wpList_plain rfl (fun K hK=>?_);go_simp;refine hK _ _ ?_;clear hK K;try simp only[nr]
   refine wpList_plain rfl (fun K hK=>?_);go_simp;refine hK _ _ ?_;clear hK K;try simp only[nr]
   refine wpList_plain rfl (fun K hK=>?_);go_simp;refine hK _ _ ?_;clear hK K;try simp only[nr]
   refine wpList_plain rfl (fun K hK=>?_);go_simp;refine hK _ _ ?_;clear hK K;try simp only[nr]
   refine qo (F:=fun W=>wpList _ _ _ _ _ W) ?_;intro w1 e1 hsz1 B1
   have hcv:(convert 27 9 (.slice (some ⟨w.heap.size,0,none⟩) 1 1)).run Tryz.prog w1=.ok s0 w1:=by
    rw[hs0.out,KO h10];refine ku (l:=[UInt8.ofNat (48+n)]) ⟨_,1,rfl,q_r,by unfold maxLen;omega,fun _=>⟨_,0,rfl,fun i hi=>?_⟩⟩;have hi0:i=0:=by simpa using hi
    subst hi0;rw[qj B1]
    show some (Value.int .u8 z)=_
    rw[hz.out]
    rfl
   refine wpList_plain rfl (fun K hK=>?_);go_simp;refine hK _ _ ?_;clear hK K;try simp only[nr]
   refine wpList_plain rfl (fun K hK=>?_);go_simp;refine hK _ _ ?_;clear hK K;try simp only[nr]
   go_wp2
   first|go_ret|skip
   exact⟨rfl,e1⟩
  ·have u1:decide ((n:Int)<10)=false:=q_f (by omega);have u1':decide (n<10)=false:=q_f h10;cases m with
   | zero=>omega
   | succ m =>
   have HQ:=q_h (xm m (n / 10) (by omega) (by omega));have HR:=q_h (xm m (n % 10) (by omega) (by omega));obtain⟨q,hq⟩:=qf (n / 10);obtain⟨r,hr⟩:=qf (n % 10);rw[<-hq.out] at HQ;rw[<-hr.out] at HR;have t1:(n:Int) / 10=(q:Int):=by rw[hq.out];omega
   have t2:(n:Int) % 10=(r:Int):=by rw[hr.out];omega
   have t1':(n:Int).tdiv 10=(q:Int):=by rw[Int.tdiv_eq_ediv_of_nonneg (by omega)];exact t1
   have t2':(n:Int).tmod 10=(r:Int):=by rw[Int.tmod_eq_emod_of_nonneg (by omega)];exact t2
   have t3:n / 10=q:=hq.out.symm;have t4:n % 10=r:=hr.out.symm;have hlq:(dec q).length<=5:=xA (by have:=hq.out;omega);have hlr:(dec r).length<=5:=xA (by have:=hr.out;omega);obtain⟨s1,hs1⟩:=qf (sV (dec q));obtain⟨s2,hs2⟩:=qf (sV (dec r));obtain⟨s0,hs0⟩:=qf (sV (dec n))
   have t5:∀w,(binOp .add 9 s1 s2).run Tryz.prog w=.ok s0 w:=by
    rw[hs1.out,hs2.out,hs0.out,q1M h10,<-hq.out,<-hr.out];exact zL (dec q) (dec r) (by omega)
   have HN:Hid (n<=65536):=hn;rw[<-hs1.out] at HQ;rw[<-hs2.out] at HR;rw[<-hs0.out];clear hlq hlr h10;go_enter Tryz.func199,Tryz.ntmps199;go_wp2_with (go_at_call_of 199 q;refine q_o ?_);refine (HQ.out w).mono ?_;rintro e w1 ⟨rfl,e1⟩;go_wp2_with (go_at_call_of 199 r;refine q_o ?_);refine (HR.out w1).mono ?_;rintro e w2 ⟨rfl,e2⟩;go_wp2
   first|go_ret|skip
   exact⟨rfl,e1.trans e2⟩
theorem VE (vs:List Vl) (i:Nat) (h:i<vs.length):xG (vs.take (i+1))=max (xG (vs.take i)) (zX (vs[i]?.getD default)):=by
 rw[List.take_add_one,List.getElem?_eq_getElem h,Jn]
 show max _ (xG [vs[i]])=_
 have e:xG [vs[i]]=zX vs[i]:=by unfold xG;unfold xG;omega
 rw[e]
 rfl
theorem q0f (vs:List Vl):xG vs<=szL vs:=by
 have key:∀(k:Nat) ,(∀V,szV V<=k->zX V<=szV V)/\(∀vs,szL vs<=k->xG vs<=szL vs):=by
  intro k
  induction k with
  | zero =>
   refine⟨fun V h=>by cases V<;>(unfold szV at h;omega),fun vs h=>?_⟩;cases vs with
   | nil=>unfold xG szL;omega
   | cons v r =>
    have:1<=szV v:=by cases v<;>(unfold szV;omega)
    unfold szL at h;omega
  | succ k ih =>
   have h1:∀V,szV V<=k+1->zX V<=szV V:=fun V h=>by
    cases V with
    | int z=>unfold zX szV;omega
    | txt l=>unfold zX szV;omega
    | lst l =>
     unfold szV at h ⊢;unfold zX;have:=ih.2 l (by omega);omega
   refine⟨h1,fun vs=>?_⟩
   induction vs with
   | nil=>intro _;unfold xG szL;omega
   | cons v r ih2 =>
    intro h;unfold szL at h ⊢;unfold xG;have:=h1 v (by omega);have:=ih2 (by omega);omega
 exact (key (szL vs)).2 vs (q_r)
theorem ZZ {nn:Bool}{N:Nat}:∀(m:Nat) (V:Vl),szV V<=m->m<=1000000->∀(w:World) (v:Value),VlV nn N w V v->Calls Tryz.prog 196 #[v] w (qH w (.int .i64 (zX V:Int)))
 | 0,V,hm,_,_,_,_=>by cases V<;>(unfold szV at hm;omega)
 | m+1,V,hm,hmb,w,v,hv=>by
  cases V with
  | int z =>
   have hr:zX (.int z)=0:=by unfold zX;rfl
   rw[hr];obtain⟨kz,nb,A1,n1,c1,A2,n2,c2,A3,n3,c3,hvv⟩:=hv.cells;unfold VlV at hv;obtain⟨a,b,c,e,h9,-⟩:=hv;subst hvv;simp only[Value.agg.injEq,Array.mk.injEq,List.cons.injEq,Value.int.injEq,true_and,and_true] at h9;obtain⟨rfl,-,-,-,-⟩:=h9;go_enter Tryz.func196,Tryz.ntmps196;go_upto_region 1 with (fail);refine qo ?_;intro w1 hE hsz B0;obtain⟨p0,p1,p2,p3,p4⟩:=qA B0;go_wp2
   first|go_ret|skip
   exact⟨rfl,hE⟩
  | txt l =>
   have hr:zX (.txt l)=0:=by unfold zX;rfl
   rw[hr];obtain⟨kz,nb,A1,n1,c1,A2,n2,c2,A3,n3,c3,hvv⟩:=hv.cells;unfold VlV at hv;obtain⟨a,b,c,h9,-⟩:=hv;subst hvv;simp only[Value.agg.injEq,Array.mk.injEq,List.cons.injEq,Value.int.injEq,true_and,and_true] at h9;obtain⟨rfl,-,-,-,-⟩:=h9;go_enter Tryz.func196,Tryz.ntmps196;go_upto_region 1 with (fail);refine qo ?_;intro w1 hE hsz B0;obtain⟨p0,p1,p2,p3,p4⟩:=qA B0;go_wp2
   first|go_ret|skip
   exact⟨rfl,hE⟩
  | lst vs =>
   have hr:zX (.lst vs)=xG vs+1:=by unfold zX;rfl
   rw[hr];have hdl:xG vs<=1000000:=by have:=q0f vs;unfold szV at hm;omega
   have HSZ:Hid (szL vs<=m):=by unfold szV at hm;show szL vs<=m;omega
   obtain⟨x1,x2,u,rfl,⟨A1,k1,rfl⟩,⟨A2,k2,rfl⟩,hL⟩:=hv.lst;obtain⟨A,k,rfl,hnk,hkm⟩:=hL.form;unfold maxLen at hkm;have HLV:=q_h hL;obtain⟨n,hn⟩:=qf vs.length;rw[<-hn.out] at HLV hnk ⊢;obtain⟨R,hR⟩:=qf (((xG vs+1:Nat):Int));rw[<-hR.out];clear hL hv hm;go_enter Tryz.func196,Tryz.ntmps196;go_upto_region 1 with (fail);refine qo ?_;intro w1 hE hsz B0;obtain⟨p0,p1,p2,p3,p4⟩:=qA B0;have HB0:=q_h B0;have HE1:=q_h hE;have HD0:Hid ((0:Int)=((xG (vs.take 0):Nat):Int)):=by rw[Hid,List.take_zero];unfold xG;rfl
   clear hE B0;go_wp2_with fail
   go_loopw [4,3] (fun iv dv wr=>∃(i:Nat) (d:Int),i<=n/\iv=.int .i64 (i:Int)/\dv=.int .i64 d/\Hid (d=((xG (vs.take i):Nat):Int))/\Hid (Ext w1 wr)) (fun iv _ _=>n-(intOf iv).toNat)
   case atStart=>exact⟨0,0,Nat.zero_le _,rfl,rfl,HD0,Ext.refl _⟩
   case round =>
    clear p0 p1 p2 p3 p4 HD0;obtain⟨i,d,hi9,rfl,rfl,HD,HX⟩:=hrel;obtain⟨p0,p1,p2,p3,p4⟩:=qA (HX.out.block HB0.out)
    by_cases hlt:i<n
    case neg =>
     have u1:decide ((i:Int)<(n:Int))=false:=q_f (by omega);have u1':decide (i<n)=false:=q_f hlt
     have u2:IntKind.i64.wrap (d+1)=R:=by
      have e9:vs.take i=vs:=List.take_of_length_le (by have:=hn.out;omega);have h9:=HD.out;rw[e9] at h9;rw[hR.out,wrp (by omega) (by omega)];omega
     go_wp2
     first|go_ret|skip
     exact⟨rfl,HE1.out.trans HX.out⟩
    have u1:decide ((i:Int)<(n:Int))=true:=q_t (by omega);have u1':decide (i<n)=true:=q_t hlt;have u2:(i:Int)<(n:Int):=by omega
    obtain⟨g,off,rfl,hx⟩:=(HLV.out.ext (HE1.out.trans HX.out)).addr (by omega);obtain⟨d0,d1,d2,d3,d4,k0,k1',k2',k3,k4,hvi⟩:=hx i hlt
    have HW:Hid (Calls Tryz.prog 196 #[.agg #[d0,d1,d2,d3,d4]] wr (qH wr (.int .i64 (zX (vs[i]?.getD default):Int)))):=by
     refine ZZ m (vs[i]?.getD default) ?_ (by omega) wr _ hvi;have h1:=xO vs i (by have:=hn.out;omega);have:=HSZ.out;omega
    obtain⟨y,hy⟩:=qf ((zX (vs[i]?.getD default):Int));rw[<-hy.out] at HW;clear hx hvi;go_wp2_with (go_at_call 196;refine q_o ?_);refine HW.out.mono ?_;rintro e w5 ⟨rfl,e5⟩;have HX5:=q_h (HX.out.trans e5);have hmax:=VE vs i (by have:=hn.out;omega)
    by_cases hgt:d<y
    ·have u3:decide (d<y)=true:=q_t hgt
     have HD2:Hid (y=((xG (vs.take (i+1)):Nat):Int)):=by
      have h1:=HD.out;have h2:=hy.out;rw[Hid,hmax];omega
     clear hgt hmax k0 k1' k2' k3 k4 p0 p1 p2 p3 p4 HW e5;go_wp2;go_roundw
     case rel=>exact⟨i+1,y,by omega,by go_num,rfl,HD2,HX5⟩
     case measure=>simp[intOf];omega
    ·have u3:decide (d<y)=false:=q_f hgt
     have HD2:Hid (d=((xG (vs.take (i+1)):Nat):Int)):=by
      have h1:=HD.out;have h2:=hy.out;rw[Hid,hmax];omega
     clear hgt hmax k0 k1' k2' k3 k4 p0 p1 p2 p3 p4 HW e5;go_wp2;go_roundw
     case rel=>exact⟨i+1,d,by omega,by go_num,rfl,HD2,HX5⟩
     case measure=>simp[intOf];omega
theorem QJ {y:Nat}(h0:0<y) (h:y<10):dg y=[y]:=by
 have:y=1\/y=2\/y=3\/y=4\/y=5\/y=6\/y=7\/y=8\/y=9:=by omega
 rcases this with h|h|h|h|h|h|h|h|h<;>subst h<;>(rw[dg];simp[bs,zW])
theorem q2B {y:Nat}(h:y<10):ln y<=35184372088832:=by
 rcases Nat.eq_zero_or_pos y with h0|h0
 ·rw[h0,Z7];omega
 ·unfold ln;rw[QJ h0 h]
  show 1<=_
  omega
theorem q1G {y:Nat}(h:y<10):Value.string ((⟨#[48,49,50,51,52,53,54,55,56,57]⟩:ByteArray).extract y (y+1) ++ ⟨#[]⟩)=sV [UInt8.ofNat (48+y)]:=by
 have:y=0\/y=1\/y=2\/y=3\/y=4\/y=5\/y=6\/y=7\/y=8\/y=9:=by omega
 rcases this with h|h|h|h|h|h|h|h|h|h<;>subst h<;>(unfold sV;congr 1)
theorem J6(h:jA N w v z) (h0:0<=z) (h9:z<10):Calls Tryz.prog 198 #[v] w (qH w (sV (Go.Lib.itoa z))):=by
 obtain⟨s0,hs0⟩:=qf (sV (Go.Lib.itoa z));rw[<-hs0.out];have HI:=q_h h;obtain⟨nb,A,n,c,rfl,hnb,hG,-⟩:=h.parts;clear h hG hnb;go_enter Tryz.func198,Tryz.ntmps198;go_upto_region 1 with (fail);refine qo ?_;intro w1 hE hsz B0;obtain⟨p0,p1,f0,f1⟩:=cells2 B0;go_wp2_with (go_at_call 226;refine q_o ?_);refine (WQ (HI.out.ext hE) (q2B (by omega))).mono ?_;rintro e w2 ⟨v2,rfl,hI2,e2⟩;obtain⟨nb2,A2,n2,c2,rfl,hnb2,hG2,hln⟩:=hI2.parts;have HE2:=q_h (hE.trans e2);have B2:=e2.block B0;obtain⟨p0,p1,f0,f1⟩:=cells2 B2
 by_cases hz0:z=0
 ·subst hz0;have hn0:n2=0:=by rw[hln];exact Z7
  subst hn0
  have HS:Hid (s0=.string ⟨#[48]⟩):=by
   rw[Hid,hs0.out];have e9:Go.Lib.itoa 0=[48]:=by rw[show (0:Int)=((0:Nat):Int) from rfl,Go.Lib.itoa_nonneg,Go.Lib.decDigits_one (by omega)];rfl
   rw[e9];rfl
  clear hln hs0;go_wp2
  first|go_ret|skip
  rw[HS.out];exact⟨rfl,(HE2.out.setCell (q_r) _).setCell (q_r) _⟩
 obtain⟨y,hy⟩:=qf z.toNat;have hy1:0<y/\y<10:=by have:=hy.out;omega
 have hzy:z.natAbs=y:=by have:=hy.out;omega
 rw[hzy,QJ hy1.1 hy1.2] at hG2
 have hn1:n2=1:=by
  rw[hln,hzy];unfold ln;rw[QJ hy1.1 hy1.2]
  rfl
 clear hln;subst hn1;have hnf:nb2=false:=by rw[hnb2.out];exact q_f (by omega)
 subst hnf
 have HS:Hid (s0=sV [UInt8.ofNat (48+y)]):=by
  rw[Hid,hs0.out,show z=((y:Nat):Int) by have:=hy.out;omega,Go.Lib.itoa_nonneg,Go.Lib.decDigits_one hy1.2]
 have HDX:=q_h (q1G hy1.2);have hNw:N<=w.heap.size:=by obtain⟨sx,-,hsx⟩:=HI.out;exact hsx.le
 go_upto_region 2 with (fail);obtain⟨w3,E3,B3,U3⟩:=ex2 B2 (.bool false) (.slice A2 1 c2);rw[E3];have HI3:=hI2.upd U3 hNw (NoU.mk B2 (by decide));obtain⟨nb3,A3,n3,c3,hv3,-,hG3,-⟩:=HI3.parts;simp only[Value.agg.injEq,Array.mk.injEq,List.cons.injEq,Value.bool.injEq,Value.slice.injEq,and_true] at hv3;obtain⟨rfl,rfl,rfl,rfl⟩:=hv3;rw[hzy,QJ hy1.1 hy1.2] at hG3;obtain⟨g,off,zz,rfl,-,hgc,-,-,hzz⟩:=hG3.at_ (k:=0) (by omega);have hzz2:zz=(y:Int):=hzz.out;subst hzz2;rw[Nat.add_zero] at hgc;have HE3:Hid (Ext w w3):=(U3.chg (NoU.mk B2 (by decide))).ext HE2.out (q_r);obtain⟨p0,p1,f0,f1⟩:=cells2 B3;have t1:(y:Int) % 10=(y:Int):=by omega
 have t2:y % 10=y:=by omega
 have t3:IntKind.u32.wrap ((y:Int)+1)=((y+1:Nat):Int):=by unfold IntKind.wrap;show ((y:Int)+1) % 4294967296=_;omega
 have t4:(y:Int) / 10=0:=by omega
 have t4':y / 10=0:=by omega
 have t5:decide (0<(y:Int))=true:=q_t (by omega);have t5':decide (0<y)=true:=q_t hy1.1;clear hI2 hG2 hG3 HI3 hzz hnb2 hs0 B2 E3;go_wp2_with fail
 go_loopw [4,3] (fun iv sv wr=>((iv=.int .i64 0/\sv=.string ⟨#[]⟩)\/(iv=.int .i64 1/\sv=s0))/\wr=w3) (fun iv _ _=>1-(intOf iv).toNat)
 case atStart=>exact⟨.inl ⟨rfl,rfl⟩,rfl⟩
 case round =>
  obtain⟨hcase,rfl⟩:=hrel
  rcases hcase with ⟨rfl,rfl⟩|⟨rfl,rfl⟩
  ·go_wp2_with fail
   go_loopw [6,5,3] (fun kv gv sv wr'=>((kv=.int .i64 0/\gv=.int .u32 (y:Int)/\sv=.string ⟨#[]⟩)\/(kv=.int .i64 1/\gv=.int .u32 0/\sv=s0))/\wr'=wr) (fun kv _ _ _=>1-(intOf kv).toNat)
   case atStart=>exact⟨.inl ⟨rfl,rfl,rfl⟩,rfl⟩
   case round =>
    obtain⟨hcase,rfl⟩:=hrel
    rcases hcase with ⟨rfl,rfl,rfl⟩|⟨rfl,rfl,rfl⟩
    ·go_wp2;go_roundw
     case rel=>exact⟨.inr ⟨rfl,rfl,HDX.out.trans HS.out.symm⟩,trivial⟩
     case measure=>simp[intOf]
    ·go_wp2;go_roundw
     case rel=>exact⟨.inr ⟨rfl,rfl⟩,trivial⟩
     case measure=>simp[intOf]
  ·go_wp2
   first|go_ret|skip
   exact⟨rfl,HE3.out⟩
theorem Zc(h0:0<=z) (h9:z<10):Go.Lib.itoa z=[UInt8.ofNat (48+z.toNat)]:=by
 obtain⟨j,rfl⟩:=Int.eq_ofNat_of_zero_le h0;rw[Go.Lib.itoa_nonneg,Go.Lib.decDigits_one (by omega)]
 rfl
theorem ZX {nn:Bool}{N:Nat}:∀(m:Nat) (V:Vl),szV V<=m->∀(w:World) (v:Value),jR V->VlV nn N w V v->Calls Tryz.prog 197 #[v] w (qH w (.bool true))
 | 0,V,hm,_,_,_,_=>by cases V<;>(unfold szV at hm;omega)
 | m+1,V,hm,w,v,hs,hv=>by
  cases V with
  | int z =>
   unfold VlV at hv;obtain⟨x1,x2,x3,x4,rfl,hI,⟨A1,k1,rfl⟩,⟨A2,k2,rfl⟩⟩:=hv;have HI:=q_h hI;obtain⟨nb,A,n,k,hab,hnb,-⟩:=hI.parts;simp only[Value.agg.injEq,Array.mk.injEq,List.cons.injEq,and_true] at hab;obtain⟨rfl,rfl⟩:=hab;have hz:0<=z/\z<10:=by unfold jR at hs;exact hs
   have hnf:nb=false:=by rw[hnb.out];exact q_f (by omega)
   subst hnf;obtain⟨B,hB⟩:=qf (⟨(Go.Lib.itoa z).toArray⟩:ByteArray);have hsz:B.size=1:=by rw[hB.out,Zc hz.1 hz.2];rfl
   have HS0:Hid (sV (Go.Lib.itoa z)=.string B):=by rw[Hid,hB.out];rfl
   have HZ:=q_h hz;clear hI hnb hz hB hs hm;go_enter Tryz.func197,Tryz.ntmps197;go_upto_region 1 with (fail);refine qo ?_;intro w1 hE hsz1 B0;obtain⟨p0,p1,p2,p3,p4⟩:=qA B0;have HB0:=q_h B0;go_wp2_with (go_at_call 198;refine q_o ?_);refine (J6 (HI.out.ext hE) HZ.out.1 HZ.out.2).mono ?_;rintro e w2 ⟨rfl,e2⟩;rw[HS0.out];clear p0 p1 p2 p3 p4;obtain⟨p0,p1,p2,p3,p4⟩:=qA (e2.block HB0.out);go_wp2
   first|go_ret|skip
   exact⟨rfl,hE.trans e2⟩
  | txt l =>
   obtain⟨kz,nb,A1,n1,c1,A2,n2,c2,A3,n3,c3,hvv⟩:=hv.cells;unfold VlV at hv;obtain⟨a,b,c,h9,-,-,⟨A4,k4,rfl⟩⟩:=hv;subst hvv;simp only[Value.agg.injEq,Array.mk.injEq,List.cons.injEq,Value.int.injEq,Value.slice.injEq,true_and,and_true] at h9;obtain⟨rfl,-,-,-,rfl,rfl,rfl⟩:=h9;go_enter Tryz.func197,Tryz.ntmps197;go_upto_region 1 with (fail);refine qo ?_;intro w1 hE hsz B0;obtain⟨p0,p1,p2,p3,p4⟩:=qA B0;have HB0:=q_h B0;go_wp2_with fail
   go_loopw [4] (fun iv wr=>iv=.int .i64 0/\wr=w1) (fun _ _=>0)
   case atStart=>exact⟨rfl,rfl⟩
   case round =>
    obtain⟨rfl,rfl⟩:=hrel;go_wp2
    first|go_ret|skip
    exact⟨rfl,hE⟩
  | lst vs =>
   have HSZ:Hid (szL vs<=m):=by unfold szV at hm;show szL vs<=m;omega
   have HSM:Hid (XX vs):=by unfold jR at hs;exact hs.2
   obtain⟨x1,x2,u,rfl,⟨A1,k1,rfl⟩,⟨A2,k2,rfl⟩,hL⟩:=hv.lst;obtain⟨A,k,rfl,hnk,hkm⟩:=hL.form;unfold maxLen at hkm;have HLV:=q_h hL;obtain⟨n,hn⟩:=qf vs.length;rw[<-hn.out] at HLV hnk ⊢;clear hL hv hm hs;go_enter Tryz.func197,Tryz.ntmps197;go_upto_region 1 with (fail);refine qo ?_;intro w1 hE hsz B0;obtain⟨p0,p1,p2,p3,p4⟩:=qA B0;have HB0:=q_h B0;have HE1:=q_h hE;clear hE B0;go_wp2_with fail
   go_loopw [4] (fun iv wr=>∃i:Nat,i<=n/\iv=.int .i64 (i:Int)/\Hid (Ext w1 wr)) (fun iv _=>n-(intOf iv).toNat)
   case atStart=>exact⟨0,Nat.zero_le _,rfl,Ext.refl _⟩
   case round =>
    clear p0 p1 p2 p3 p4;obtain⟨i,hi9,rfl,HX⟩:=hrel;obtain⟨p0,p1,p2,p3,p4⟩:=qA (HX.out.block HB0.out)
    by_cases hlt:i<n
    case neg =>
     have u1:decide ((i:Int)<(n:Int))=false:=q_f (by omega);have u1':decide (i<n)=false:=q_f hlt;go_wp2
     first|go_ret|skip
     exact⟨rfl,HE1.out.trans HX.out⟩
    have u1:decide ((i:Int)<(n:Int))=true:=q_t (by omega);have u1':decide (i<n)=true:=q_t hlt;have u2:(i:Int)<(n:Int):=by omega
    obtain⟨g,off,rfl,hx⟩:=(HLV.out.ext (HE1.out.trans HX.out)).addr (by omega);obtain⟨d0,d1,d2,d3,d4,k0,k1',k2',k3,k4,hvi⟩:=hx i hlt
    have HW:Hid (Calls Tryz.prog 197 #[.agg #[d0,d1,d2,d3,d4]] wr (qH wr (.bool true))):=by
     refine ZX m (vs[i]?.getD default) ?_ wr _ (jS vs i HSM.out (by have:=hn.out;omega)) hvi;have h1:=xO vs i (by have:=hn.out;omega);have:=HSZ.out;omega
    clear hx hvi;go_wp2_with (go_at_call 197;refine q_o ?_);refine HW.out.mono ?_;rintro e w5 ⟨rfl,e5⟩;have HX5:=q_h (HX.out.trans e5);clear k0 k1' k2' k3 k4 p0 p1 p2 p3 p4 HW e5;go_wp2;go_roundw
    case rel=>exact⟨i+1,by omega,by go_num,HX5⟩
    case measure=>simp[intOf];omega
theorem wR(w:World):Calls Tryz.prog 224 #[.agg #[.bool false,.slice A 0 k]] w (qH w (.bool true)):=by
 go_enter Tryz.func224,Tryz.ntmps224;go_upto_region 1 with (fail);refine qo ?_;intro w1 hE hsz B0;obtain⟨p0,p1,-⟩:=cells2 B0;go_wp2
 first|go_ret|skip
 exact⟨rfl,hE⟩
theorem ZW(w:World):Calls Tryz.prog 225 #[.agg #[.bool false,.slice A 0 k]] w (qH w (.bool true)):=by
 go_enter Tryz.func225,Tryz.ntmps225;go_wp2
 go_loop [4] (fun i=>i=.int .i64 0) (fun _=>0)
 case atStart=>rfl
 case round =>
  subst hrel;go_wp2;go_ret;exact⟨rfl,(Ext.refl _).alloc _⟩
theorem QA {nn:Bool}{N:Nat}:∀(m:Nat) (V:Vl),szV V<=m->∀(w:World) (v:Value),N<=w.heap.size->VlV nn N w V v->Calls Tryz.prog 195 #[v] w (qH w (.bool true))
 | 0,V,hm,_,_,_,_=>by cases V<;>(unfold szV at hm;omega)
 | m+1,V,hm,w,v,hN,hv=>by
  cases V with
  | int z =>
   unfold VlV at hv;obtain⟨x1,x2,x3,x4,rfl,hI,⟨A1,k1,rfl⟩,⟨A2,k2,rfl⟩⟩:=hv;obtain⟨nb,A,n,k,hab,hnb,hG,-⟩:=hI.parts;simp only[Value.agg.injEq,Array.mk.injEq,List.cons.injEq,and_true] at hab;obtain⟨rfl,rfl⟩:=hab;have HG:=q_h hG;have HOK:Hid (okB nb (dg z.natAbs)=true):=by rw[hnb.out];exact jV z
   clear hI hnb hG hm;go_enter Tryz.func195,Tryz.ntmps195;go_upto_region 1 with (fail);refine qo ?_;intro w1 hE hsz1 B0;obtain⟨p0,p1,p2,p3,p4⟩:=qA B0;have HB0:=q_h B0;go_wp2_with (go_at_call 225;refine q_o ?_);refine (J5 (HG.out.ext hE)).mono ?_;rintro e w2 ⟨rfl,e2⟩;rw[HOK.out];have HE2:=q_h (hE.trans e2);clear p0 p1 p2 p3 p4;obtain⟨p0,p1,p2,p3,p4⟩:=qA (e2.block HB0.out);go_wp2_with fail
   go_loopw [3] (fun iv wr=>iv=.int .i64 0/\wr=w2) (fun _ _=>0)
   case atStart=>exact⟨rfl,rfl⟩
   case round =>
    obtain⟨rfl,rfl⟩:=hrel;go_wp2
    first|go_ret|skip
    exact⟨rfl,HE2.out⟩
  | txt l =>
   obtain⟨kz,nb,A1,n1,c1,A2,n2,c2,A3,n3,c3,hvv⟩:=hv.cells;unfold VlV at hv;obtain⟨b,c,d,h9,⟨A5,k5,rfl⟩,-,⟨A4,k4,rfl⟩⟩:=hv;subst hvv;simp only[Value.agg.injEq,Array.mk.injEq,List.cons.injEq,Value.int.injEq,Value.slice.injEq,Value.bool.injEq,true_and,and_true] at h9;obtain⟨rfl,rfl,⟨rfl,rfl,rfl⟩,-,rfl,rfl,rfl⟩:=h9;clear hm hN;go_enter Tryz.func195,Tryz.ntmps195;go_upto_region 1 with (fail);refine qo ?_;intro w1 hE hsz1 B0;obtain⟨p0,p1,p2,p3,p4⟩:=qA B0;have HB0:=q_h B0;go_wp2_with (go_at_call 224;refine q_o ?_);refine (wR _).mono ?_;rintro e w2 ⟨rfl,e2⟩;have HE2:=q_h (hE.trans e2);have HB2:=q_h (e2.block HB0.out);clear p0 p1 p2 p3 p4;obtain⟨p0,p1,p2,p3,p4⟩:=qA HB2.out;go_wp2_with (go_at_call 225;refine q_o ?_);refine (ZW _).mono ?_;rintro e w3 ⟨rfl,e3⟩;have HE3:=q_h (HE2.out.trans e3);clear p0 p1 p2 p3 p4;obtain⟨p0,p1,p2,p3,p4⟩:=qA (e3.block HB2.out);go_wp2_with fail
   go_loopw [3] (fun iv wr=>iv=.int .i64 0/\wr=w3) (fun _ _=>0)
   case atStart=>exact⟨rfl,rfl⟩
   case round =>
    obtain⟨rfl,rfl⟩:=hrel;go_wp2
    first|go_ret|skip
    exact⟨rfl,HE3.out⟩
  | lst vs =>
   have HSZ:Hid (szL vs<=m):=by unfold szV at hm;show szL vs<=m;omega
   obtain⟨x1,x2,u,rfl,⟨A1,k1,rfl⟩,⟨A2,k2,rfl⟩,hL⟩:=hv.lst;obtain⟨A,k,rfl,hnk,hkm⟩:=hL.form;unfold maxLen at hkm;have HLV:=q_h hL;have HN:=q_h hN;obtain⟨n,hn⟩:=qf vs.length;rw[<-hn.out] at HLV hnk ⊢;clear hL hv hm hN;go_enter Tryz.func195,Tryz.ntmps195;go_upto_region 1 with (fail);refine qo ?_;intro w1 hE hsz1 B0;obtain⟨p0,p1,p2,p3,p4⟩:=qA B0;have HB0:=q_h B0;go_wp2_with (go_at_call 224;refine q_o ?_);refine (wR _).mono ?_;rintro e w2 ⟨rfl,e2⟩;have HE2:=q_h (hE.trans e2);have HB2:=q_h (e2.block HB0.out);clear p0 p1 p2 p3 p4;obtain⟨p0,p1,p2,p3,p4⟩:=qA HB2.out;go_wp2_with (go_at_call 225;refine q_o ?_);refine (ZW _).mono ?_;rintro e w3 ⟨rfl,e3⟩;have HE3:=q_h (HE2.out.trans e3);have HB3:=q_h (e3.block HB2.out);clear p0 p1 p2 p3 p4 hE e2 e3 B0;obtain⟨p0,p1,p2,p3,p4⟩:=qA HB3.out;go_wp2_with fail
   go_loopw [3] (fun iv wr=>∃i:Nat,i<=n/\iv=.int .i64 (i:Int)/\Hid (Ext w3 wr)) (fun iv _=>n-(intOf iv).toNat)
   case atStart=>exact⟨0,Nat.zero_le _,rfl,Ext.refl _⟩
   case round =>
    clear p0 p1 p2 p3 p4;obtain⟨i,hi9,rfl,HX⟩:=hrel;obtain⟨p0,p1,p2,p3,p4⟩:=qA (HX.out.block HB3.out)
    by_cases hlt:i<n
    case neg =>
     have u1:decide ((i:Int)<(n:Int))=false:=q_f (by omega);have u1':decide (i<n)=false:=q_f hlt;go_wp2
     first|go_ret|skip
     exact⟨rfl,HE3.out.trans HX.out⟩
    have u1:decide ((i:Int)<(n:Int))=true:=q_t (by omega);have u1':decide (i<n)=true:=q_t hlt;have u2:(i:Int)<(n:Int):=by omega
    obtain⟨g,off,rfl,hx⟩:=(HLV.out.ext (HE3.out.trans HX.out)).addr (by omega);obtain⟨d0,d1,d2,d3,d4,k0,k1',k2',k3,k4,hvi⟩:=hx i hlt
    have HW:Hid (Calls Tryz.prog 195 #[.agg #[d0,d1,d2,d3,d4]] wr (qH wr (.bool true))):=by
     refine QA m (vs[i]?.getD default) ?_ wr _ (q_l HN.out (HE3.out.trans HX.out).size) hvi;have h1:=xO vs i (by have:=hn.out;omega);have:=HSZ.out;omega
    clear hx hvi;go_wp2_with (go_at_call 195;refine q_o ?_);refine HW.out.mono ?_;rintro e w5 ⟨rfl,e5⟩;have HX5:=q_h (HX.out.trans e5);clear k0 k1' k2' k3 k4 p0 p1 p2 p3 p4 HW e5;go_wp2;go_roundw
    case rel=>exact⟨i+1,by omega,by go_num,HX5⟩
    case measure=>simp[intOf];omega
def RetB (w:World) (l:Byt) (e:Ending) (w':World):Prop:=∃v,e=.returned (.tuple #[v,.int .i64 0])/\GrB w.heap.size w' v l/\Ext w w'
theorem KR(HT:x9){V:Vl}(hv:VlV true N w V v) (hd:zX V<=8) (hs:jR V) (ht:kG w) (hl:(enc V).length<=65536) :
  Calls Tryz.prog 134 #[v] w (RetB w (enc V)):=by
 have HV:=q_h hv;have HS:=q_h hs;have HTB:=q_h ht;obtain⟨z,nb,A1,n1,c1,A2,n2,c2,A3,n3,c3,rfl⟩:=hv.cells;have HD:Hid (decide (zX V<=8)=true):=q_t hd;clear hv hs ht hd;go_enter Tryz.func134,Tryz.ntmps134;go_upto_region 1 with (fail);refine qo ?_;intro w1 hE hsz B0;obtain⟨p0,p1,p2,p3,p4⟩:=qA B0;have HB0:=q_h B0;go_wp2_with (go_at_call 177;refine q_o ?_);refine (Ju (szV V) V (q_r) w1 _ 8 (by omega) (VlV.ext hE HV.out)).mono ?_;rintro e w2 ⟨rfl,e2⟩;rw[HD.out];have HE2:=q_h (hE.trans e2);have HB02:=q_h (e2.block HB0.out);clear p0 p1 p2 p3 p4 e2 hE;go_upto_region 4 with (fail)
 generalize hw3:w2.alloc _=w3
 have HB3:Hid (yY w2 w2.heap.size [] w3):=by rw[<-hw3];exact q1V (Ext.refl _) (q_r)
 have HX3:Hid (Ext w2 w3):=by rw[<-hw3];exact (Ext.refl _).alloc _
 clear hw3;obtain⟨p0,p1,p2,p3,p4⟩:=qA (HX3.out.block HB02.out);go_wp2_with (go_at_call 178;refine q_o ?_);refine (Js HT (szV V) V (q_r) w2 w3 _ [] _ (VlV.ext HE2.out HV.out) HS.out (HTB.out.ext HE2.out) HB3.out (by simpa using hl)).mono ?_;rintro e w4 ⟨rfl,b4,-⟩;have HB4:=q_h b4;clear b4 p0 p1 p2 p3 p4;go_wp2_with (go_at_call 179;refine q_o ?_);refine (q0l HB4.out).mono ?_;rintro e w5 ⟨v5,rfl,g5,e5⟩;have HG5:Hid (GrB w.heap.size w5 v5 (enc V)):=qB.low g5 HE2.out.size;have HE5:Hid (Ext w w5):=(HE2.out.trans HB4.out.2).trans e5;clear g5 e5;go_wp2
 first|go_ret2|skip
 exact⟨v5,rfl,HG5.out,HE5.out⟩
theorem zo:(Tryz.prog.info? 117).map (·.size)=some 5:=by kernel_rfl
theorem ByV.own{l:Byt}(h:ByV w (.slice (some ⟨b,0,none⟩) n c) l) (k:Chg lo hi w w') (hb:b<lo\/hi<=b):ByV w' (.slice (some ⟨b,0,none⟩) n c) l:=by
 obtain⟨A,c',hv,h1,h2,h3⟩:=h;injection hv with hA hn hc
 subst hA;refine⟨_,c',by rw[hn,hc],h1,h2,fun h=>?_⟩;obtain⟨b2,off,hA2,hx⟩:=h3 h;injection hA2 with hA2
 injection hA2 with e1 e2 _
 subst e1;subst e2;exact⟨b,0,rfl,fun i hi=>k.cell (hx i hi) hb⟩
def ZG (l:Byt) (w:World):Nat:=grownCap w l.length 0 5
def q0h (l:Byt) (w:World):World:=w.drew.alloc (.cells (bytesRow ⟨l.toArray⟩ (ZG l w)) 5 ((bytesRow ⟨l.toArray⟩ (ZG l w)).size,(bytesRow ⟨l.toArray⟩ (ZG l w)).size+1))
theorem wP (l:Byt) (w:World):(convert 9 27 (sV l)).run Tryz.prog w=.ok (.slice (some ⟨w.heap.size,0,none⟩) l.length (ZG l w)) (q0h l w):=by
 have h:=run_bytes_of_string (P:=Tryz.prog) w 9 27 5 ⟨l.toArray⟩ xh Tryz.underlying27 Tryz.underlying5;have e:(⟨l.toArray⟩:ByteArray).size=l.length:=by show l.toArray.size=_;rw[List.size_toArray]
 rw[e] at h;exact h
theorem Qa (l:Byt) (w:World):Ext w (q0h l w):=(Ext.refl w).drew.alloc _
theorem qW (b o j:Nat):(⟨b,o,none⟩:Addr).add j=⟨b,o+j,none⟩:=by unfold Addr.add;split<;>simp_all
theorem q1T {l:Byt}:∀u∈byC l,u.oneCell'=true:=by
 intro u hu;unfold byC Go.Lib.byteCells at hu;rw[List.mem_map] at hu;obtain⟨c,-,rfl⟩:=hu
 rfl
theorem kC {P:Program}{t e ty:TypeId}{i:TypeInfo}(ht:P.underlying t=some (.slice e)) (hi:P.info? e=some i) (b:Option Addr) (n k:Nat) (hle:n<=k) (A:Option Addr) (c:Nat) (w:World) :
  (Builtin.append_ #[t,t] ty #[.slice b n k,.slice A 0 c]).run P w=.ok (.slice b n k) w:=by
 cases A<;>cases b<;>simp[Builtin.append_,run_underlying ht,Builtin.lenOf,Builtin.firstCells,sizeOf,typeInfo,hi,storeCells,loadCells,loadCellsFrom,hle]
end
end Go.Proofs.YtdeeekdbhhenpaaGreatDoor
