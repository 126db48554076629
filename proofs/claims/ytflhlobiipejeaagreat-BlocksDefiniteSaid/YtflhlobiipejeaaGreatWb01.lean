import Derived.Test.YtflhlobiipejeaaGreatProg
import Derived.WalkKit
import Derived.WalkSpells
import Derived.WalkLawsBesides
import Derived.Lib.Hide
import Derived.Deep.RegionHeld3
import Derived.Deep.QuietTactic
import Derived.BigQuiet
import Derived.Maps.AppendAt
import Derived.Deep.DeepMust
set_option linter.all false
set_option maxHeartbeats 8000000
namespace Go.Proofs.YtflhlobiipejeaaGreat
variable {w w':World} {N n k g i m base c b j d:Nat} {v s:Value} {l:List Nat} {z:Int} {A:Option Addr}
section
abbrev q_m:=Nat->Nat->Rat
abbrev q_v:=Nat->Rat
def bs:Nat:=1000000000
theorem qV:0<bs:=by decide
def val:List Nat->Nat
 | []=>0
 | x :: l=>x+bs*val l
def Dig (l:List Nat):Prop:=∀x∈l,x<bs
theorem Dig.nil:Dig []:=fun _ h=>by cases h
theorem Dig.cons {x:Nat}(h:Dig (x :: l)):x<bs/\Dig l:=⟨h x (by simp),fun y hy=>h y (by simp[hy])⟩
theorem Dig.mk {x:Nat}(hx:x<bs) (h:Dig l):Dig (x :: l):=by
 intro y hy
 rcases List.mem_cons.1 hy with rfl|hy
 ·exact hx
 ·exact h y hy
theorem Dig.append {a b:List Nat}(ha:Dig a) (hb:Dig b):Dig (a++b):=by
 intro x hx
 rcases List.mem_append.1 hx with h|h
 ·exact ha x h
 ·exact hb x h
theorem Dig.take(h:Dig l) (k:Nat):Dig (l.take k):=fun x hx=>h x (List.mem_of_mem_take hx)
theorem Dig.drop(h:Dig l) (k:Nat):Dig (l.drop k):=fun x hx=>h x (List.mem_of_mem_drop hx)
theorem Dig.getD(h:Dig l) (k:Nat):l.getD k 0<bs:=by
 rw[List.getD_eq_getElem?_getD]
 rcases Nat.lt_or_ge k l.length with hk|hk
 ·rw[List.getElem?_eq_getElem hk];exact h _ (List.getElem_mem hk)
 ·rw[List.getElem?_eq_none hk];exact qV
theorem Dig.get(h:Dig l) (k:Nat):l[k]?.getD 0<bs:=by
 have:=h.getD k;rwa [List.getD_eq_getElem?_getD] at this
theorem Dig.set(h:Dig l) (k x:Nat) (hx:x<bs):Dig (l.set k x):=by
 intro y hy
 rcases List.mem_or_eq_of_mem_set hy with h1|rfl
 ·exact h y h1
 ·exact hx
theorem Dig.replicate (n:Nat):Dig (List.replicate n 0):=by
 intro x hx;rw[List.mem_replicate] at hx;rw[hx.2];exact qV
theorem val_append (a b:List Nat):val (a++b)=val a+bs ^ a.length*val b:=by
 induction a with
 | nil=>simp[val]
 | cons x a ih =>
  simp only[List.cons_append,val,ih,List.length_cons,Nat.pow_succ,Nat.mul_add];rw[Nat.add_assoc,Nat.mul_comm (bs ^ a.length) bs,Nat.mul_assoc]
theorem xG (a:List Nat) (x:Nat):val (a ++ [x])=val a+bs ^ a.length*x:=by
 rw[val_append];simp[val]
theorem zt (n:Nat):val (List.replicate n 0)=0:=by
 induction n with
 | zero=>rfl
 | succ n ih=>rw[List.replicate_succ,val,ih];simp
theorem jS(h:Dig l):val l<bs ^ l.length:=by
 induction l with
 | nil=>simp[val]
 | cons x l ih =>
  obtain⟨hx,hl⟩:=h.cons;have h1:=ih hl;simp only[val,List.length_cons,Nat.pow_succ];have h2:bs*(val l+1)<=bs*bs ^ l.length:=Nat.mul_le_mul_left bs h1;rw[Nat.mul_add] at h2;rw[Nat.mul_comm (bs ^ l.length) bs];omega
theorem XC(hk:k<l.length):val (l.take (k+1))=val (l.take k)+bs ^ k*l[k]:=by
 rw[List.take_succ_eq_append_getElem hk,xG,List.length_take,Nat.min_eq_left (by omega)]
theorem xR(hk:k<l.length):val (l.drop k)=l[k]+bs*val (l.drop (k+1)):=by
 rw[List.drop_eq_getElem_cons hk];rfl
theorem jR (l:List Nat) (k:Nat):val l=val (l.take k)+bs ^ (min k l.length)*val (l.drop k):=by
 conv=>lhs;rw[<-List.take_append_drop k l]
 rw[val_append,List.length_take]
theorem q6J(hk:k<l.length) (x:Nat):val (l.set k x)+bs ^ k*l[k]=val l+bs ^ k*x:=by
 induction l generalizing k with
 | nil=>simp at hk
 | cons y l ih =>
  cases k with
  | zero=>simp[val];omega
  | succ k =>
   have hk':k<l.length:=by simpa using hk
   have h:=ih hk';simp only[List.set_cons_succ,val,List.getElem_cons_succ,Nat.pow_succ];have e:bs*(val (l.set k x)+bs ^ k*l[k])=bs*(val l+bs ^ k*x):=by rw[h]
   rw[Nat.mul_add,Nat.mul_add] at e;have a1:bs ^ k*bs*l[k]=bs*(bs ^ k*l[k]):=by rw[Nat.mul_comm (bs ^ k) bs,Nat.mul_assoc]
   have a2:bs ^ k*bs*x=bs*(bs ^ k*x):=by rw[Nat.mul_comm (bs ^ k) bs,Nat.mul_assoc]
   rw[a1,a2];omega
def dg (n:Nat):List Nat:=if _h:n=0 then [] else (n % bs) :: dg (n / bs)
termination_by n
decreasing_by exact Nat.div_lt_self (by omega) (by decide)
theorem zO:dg 0=[]:=by rw[dg];simp
theorem QO(h:n≠0):dg n=(n % bs) :: dg (n / bs):=by rw[dg];simp[h]
theorem qC (n:Nat):val (dg n)=n:=by
 induction n using Nat.strongRecOn with
 | ind n ih =>
  by_cases h:n=0
  ·subst h;rw[zO];rfl
  ·rw[QO h,val,ih _ (Nat.div_lt_self (by omega) (by decide))];exact Nat.mod_add_div n bs
theorem qI (n:Nat):Dig (dg n):=by
 induction n using Nat.strongRecOn with
 | ind n ih =>
  by_cases h:n=0
  ·subst h;rw[zO];exact Dig.nil
  ·rw[QO h];exact Dig.mk (Nat.mod_lt _ qV) (ih _ (Nat.div_lt_self (by omega) (by decide)))
def Canon (l:List Nat):Prop:=Dig l/\l.getLast?≠some 0
theorem Canon.tail {x:Nat}(h:Canon (x :: l)):Canon l:=by
 refine⟨h.1.cons.2,fun hl=>h.2 ?_⟩;rw[List.getLast?_cons,hl];rfl
theorem Canon.val_pos(h:Canon l) (hl:l≠[]):val l≠0:=by
 induction l with
 | nil=>exact absurd rfl hl
 | cons x l ih =>
  by_cases e:l=[]
  ·subst e;have:=h.2;simp at this
   simp[val];omega
  ·have:=ih h.tail e;have h2:0<bs*val l:=Nat.mul_pos qV (by omega);simp only[val];omega
theorem Canon.eq_dg(h:Canon l):l=dg (val l):=by
 induction l with
 | nil=>rw[val,zO]
 | cons x l ih =>
  have hv:=h.val_pos (by simp);rw[QO hv];obtain⟨hx,_⟩:=h.1.cons
  have e1:val (x :: l) % bs=x:=by
   rw[val,Nat.add_mul_mod_self_left,Nat.mod_eq_of_lt hx]
  have e2:val (x :: l) / bs=val l:=by
   rw[val,Nat.add_mul_div_left _ _ qV,Nat.div_eq_of_lt hx];omega
  rw[e1,e2,<-ih h.tail]
theorem zU:dg n=[]↔n=0:=by
 constructor
 ·intro h;have:=qC n;rw[h] at this;exact this.symm
 ·rintro rfl;exact zO
theorem q0p (n:Nat):Canon (dg n):=by
 refine⟨qI n,?_⟩
 induction n using Nat.strongRecOn with
 | ind n ih =>
  by_cases h:n=0
  ·subst h;rw[zO];simp
  ·rw[QO h,List.getLast?_cons]
   by_cases e:n / bs=0
   ·rw[e,zO];have:n % bs=n:=Nat.mod_eq_of_lt (by rcases Nat.lt_or_ge n bs with h1|h1;exact h1;have:=Nat.div_pos h1 qV;omega);simp[this,h]
   ·have h1:=ih _ (Nat.div_lt_self (by omega) (by decide:1<bs));cases hl:(dg (n / bs)).getLast? with
    | none=>rw[List.getLast?_eq_none_iff,zU] at hl;exact absurd hl e
    | some y=>rw[hl] at h1;simpa using h1
theorem q3y {a:Nat}(h:dg a=dg b):a=b:=by rw[<-qC a,<-qC b,h]
def ln (n:Nat):Nat:=(dg n).length
theorem yf:ln 0=0:=by unfold ln;rw[zO];rfl
theorem qP (n:Nat):n<bs ^ ln n:=by
 have:=jS (qI n);rwa [qC] at this
theorem Canon.pow_le(h:Canon l) (hl:l≠[]):bs ^ (l.length-1)<=val l:=by
 induction l with
 | nil=>exact absurd rfl hl
 | cons x l ih =>
  by_cases e:l=[]
  ·subst e;have:=h.2;simp at this
   simp[val];omega
  ·have h1:=ih h.tail e;have hp:0<l.length:=List.length_pos_iff.2 e;obtain⟨k,hk⟩:∃k,l.length=k+1:=⟨l.length-1,by omega⟩
   rw[hk] at h1;simp only[val,List.length_cons,hk,Nat.add_sub_cancel] at *;rw[Nat.pow_succ,Nat.mul_comm];have:=Nat.mul_le_mul_left bs h1;omega
theorem jg(h:n≠0):bs ^ (ln n-1)<=n:=by
 have:=(q0p n).pow_le (fun e=>h (zU.1 e));rwa [qC] at this
theorem zo(h:n<bs ^ k):ln n<=k:=by
 by_cases e:n=0
 ·subst e;rw[yf];omega
 ·have h1:=jg e;have h2:bs ^ (ln n-1)<bs ^ k:=Nat.lt_of_le_of_lt h1 h;have:=(Nat.pow_lt_pow_iff_right (by decide:1<bs)).1 h2;omega
theorem zJ {a:Nat}(h:a<=b):ln a<=ln b:=zo (Nat.lt_of_le_of_lt h (qP b))
theorem WY (a b:Nat):ln (a+b)<=max (ln a) (ln b)+1:=by
 refine zo ?_;have h1:a<bs ^ max (ln a) (ln b):=Nat.lt_of_lt_of_le (qP a) (Nat.pow_le_pow_right qV (Nat.le_max_left _ _));have h2:b<bs ^ max (ln a) (ln b):=Nat.lt_of_lt_of_le (qP b) (Nat.pow_le_pow_right qV (Nat.le_max_right _ _));rw[Nat.pow_succ];have:bs ^ max (ln a) (ln b)*2<=bs ^ max (ln a) (ln b)*bs:=Nat.mul_le_mul_left _ (by decide);omega
theorem WX (a b:Nat):ln (a*b)<=ln a+ln b:=by
 refine zo ?_;rw[Nat.pow_add];have h1:=qP a;have h2:=qP b;exact Nat.mul_lt_mul_of_lt_of_le h1 (Nat.le_of_lt h2) (Nat.pow_pos qV)
theorem jf(h:Dig l)(hk:k<=l.length) (hz:val (l.drop k)=0) (hl:k=0\/l.getD (k-1) 0≠0):l.take k=dg (val l):=by
 have hc:Canon (l.take k):=by
  refine⟨h.take k,?_⟩
  rcases hl with rfl|hl
  ·simp
  ·by_cases k0:k=0
   ·subst k0;simp
   ·rw[List.getLast?_eq_getElem?,List.length_take,Nat.min_eq_left hk,List.getElem?_take];rw[if_pos (by omega)];rw[List.getD_eq_getElem?_getD] at hl;intro e;rw[e] at hl;exact hl rfl
 have hv:val (l.take k)=val l:=by rw[jR l k,hz];simp
 rw[<-hv];exact hc.eq_dg
theorem jo(hk:k<l.length) (hz:val (l.drop (k+1))=0) (h0:l.getD k 0=0):val (l.drop k)=0:=by
 rw[xR hk,hz];rw[List.getD_eq_getElem?_getD,List.getElem?_eq_getElem hk] at h0;simpa using h0
theorem qx (l:List Nat) (k:Nat):val (l.take (k+1))=val (l.take k)+bs ^ k*l[k]?.getD 0:=by
 rcases Nat.lt_or_ge k l.length with h|h
 ·rw[XC h,List.getElem?_eq_getElem h];rfl
 ·rw[List.take_of_length_le (by omega),List.take_of_length_le h,List.getElem?_eq_none h];simp
theorem qG(h:l.length<=k):val (l.take k)=val l:=by rw[List.take_of_length_le h]
def Q5 (x y:Nat):Int:=if x<y then -1 else if x=y then 0 else 1
theorem yl {x y:Nat}(h:x<y):Q5 x y = -1:=by unfold Q5;rw[if_pos h]
theorem VY {x y:Nat}(h:x=y):Q5 x y=0:=by unfold Q5;rw[if_neg (by omega),if_pos h]
theorem QD {x y:Nat}(h:y<x):Q5 x y=1:=by unfold Q5;rw[if_neg (by omega),if_neg (by omega)]
theorem yx {a b:List Nat}(ha:Dig a) (hab:a.length=b.length)(hk:k<a.length) (hd:a.drop (k+1)=b.drop (k+1)) (hlt:a[k]?.getD 0<b[k]?.getD 0):val a<val b:=by
 have h1:=jR a (k+1);have h2:=jR b (k+1);rw[hd] at h1;rw[qx,Nat.min_eq_left (show k+1<=a.length by omega)] at h1;rw[qx,Nat.min_eq_left (show k+1<=b.length by omega)] at h2;have h3:=jS (ha.take k);rw[List.length_take,Nat.min_eq_left (by omega)] at h3;have h4:bs ^ k*(a[k]?.getD 0+1)<=bs ^ k*b[k]?.getD 0:=Nat.mul_le_mul_left _ hlt;rw[Nat.mul_add,Nat.mul_one] at h4;rw[h1,h2];omega
theorem jB {x y:Nat}(h:(dg x).length<(dg y).length):x<y:=by
 have h1:=qP x;have hy:y≠0:=by rintro rfl;rw[zO] at h;simp at h
 have h2:=jg hy;have h3:bs ^ ln x<=bs ^ (ln y-1):=Nat.pow_le_pow_right qV (by unfold ln at *;omega);omega
theorem drop_step {a b:List Nat}(hab:a.length=b.length)(hk:k<a.length) (hd:a.drop (k+1)=b.drop (k+1)) (he:a[k]?.getD 0=b[k]?.getD 0):a.drop k=b.drop k:=by
 have hk':k<b.length:=by omega
 rw[List.drop_eq_getElem_cons hk,List.drop_eq_getElem_cons hk',hd];rw[List.getElem?_eq_getElem hk,List.getElem?_eq_getElem hk'] at he;simp only[Option.getD_some] at he;rw[he]
theorem ZC {X C A B a q:Nat}(h:X+bs ^ k*C=A+B) (hq:a+b+C=d+bs*q) (hc:c=q):X+bs ^ k*d+bs ^ (k+1)*c=A+bs ^ k*a+(B+bs ^ k*b):=by
 subst hc;have e:bs ^ k*(a+b+C)=bs ^ k*(d+bs*c):=by rw[hq]
 rw[Nat.mul_add,Nat.mul_add,Nat.mul_add] at e;rw[Nat.pow_succ,Nat.mul_assoc];omega
theorem Xf {X C A B a:Nat}(h:A+bs ^ k*C=X+B) (hq:a+bs*c=d+b+C):A+bs ^ k*a+bs ^ (k+1)*c=X+bs ^ k*d+(B+bs ^ k*b):=by
 have e:bs ^ k*(a+bs*c)=bs ^ k*(d+b+C):=by rw[hq]
 rw[Nat.mul_add,Nat.mul_add,Nat.mul_add] at e;rw[Nat.pow_succ,Nat.mul_assoc];omega
theorem Yx {a b xs:List Nat}(ha:Dig a) (hx:Dig xs){C:Nat}(hn:a.length=n) (hxn:xs.length=n) (hle:val b<=val a) (h:val (a.take n)+bs ^ n*C=val xs+val (b.take n)):val xs=val a-val b:=by
 rw[qG (by omega)] at h;have h1:=jS ha;have h2:=jS hx;rw[hn] at h1;rw[hxn] at h2;have h3:=jR b n
 have hb:val (b.take n)=val b:=by
  rcases Nat.lt_or_ge n b.length with hlt|hge
  ·rw[Nat.min_eq_left (by omega)] at h3
   rcases Nat.eq_zero_or_pos (val (b.drop n)) with h0|h0
   ·rw[h0] at h3;omega
   ·have:=Nat.mul_le_mul_left (bs ^ n) h0;rw[Nat.succ_eq_add_one,Nat.zero_add,Nat.mul_one] at this;omega
  ·exact qG hge
 rw[hb] at h
 rcases Nat.eq_zero_or_pos C with h0|h0
 ·subst h0;omega
 ·have:=Nat.mul_le_mul_left (bs ^ n) h0;rw[Nat.succ_eq_add_one,Nat.zero_add,Nat.mul_one] at this;omega
theorem Vf {X C A a D:Nat}(h:X+bs ^ k*C=A*D) (hq:a*D+C=d+bs*c):X+bs ^ k*d+bs ^ (k+1)*c=(A+bs ^ k*a)*D:=by
 have e:bs ^ k*(a*D+C)=bs ^ k*(d+bs*c):=by rw[hq]
 rw[Nat.mul_add,Nat.mul_add] at e;rw[Nat.pow_succ,Nat.mul_assoc,Nat.add_mul,Nat.mul_assoc];omega
theorem WQ {L L' V o q C a B:Nat}(hset:L'+bs ^ (i+j)*o=L+bs ^ (i+j)*d) (hinv:L+bs ^ (i+j)*C=V+bs ^ i*(a*B)) (hq:o+a*b+C=d+bs*q) :
  L'+bs ^ (i+(j+1))*q=V+bs ^ i*(a*(B+bs ^ j*b)):=by
 have e:bs ^ (i+j)*(o+a*b+C)=bs ^ (i+j)*(d+bs*q):=by rw[hq]
 simp only[Nat.mul_add] at e;have e1:bs ^ (i+(j+1))*q=bs ^ (i+j)*(bs*q):=by rw[<-Nat.add_assoc,Nat.pow_succ,Nat.mul_assoc]
 have e2:bs ^ i*(a*(B+bs ^ j*b))=bs ^ i*(a*B)+bs ^ (i+j)*(a*b):=by
  rw[Nat.mul_add,Nat.mul_add,Nat.pow_add,Nat.mul_assoc,<-Nat.mul_assoc a,Nat.mul_comm a (bs ^ j),Nat.mul_assoc]
 rw[e1,e2];omega
theorem q2E {L L' V C a A B:Nat}(hset:L'+bs ^ (i+m)*0=L+bs ^ (i+m)*C) (hinv:L+bs ^ (i+m)*C=V+bs ^ i*(a*B)) (hV:V=A*B):L'=(A+bs ^ i*a)*B:=by
 rw[Nat.mul_zero,Nat.add_zero] at hset;rw[hset,hinv,hV,Nat.add_mul,Nat.mul_assoc]
theorem zW(h:k<l.length):l[k]=l[k]?.getD 0:=by rw[List.getElem?_eq_getElem h];rfl
theorem kG(hk:k<l.length) (x:Nat):val (l.set k x)+bs ^ k*l[k]?.getD 0=val l+bs ^ k*x:=by
 rw[<-zW hk];exact q6J hk x
theorem q0J {L L' q r V:Nat}(hset:L'+bs ^ k*0=L+bs ^ k*q) (hq:r*bs+g=d*q+n) (hinv:d*L+bs ^ (k+1)*r=V):d*L'+bs ^ k*n=V+bs ^ k*g:=by
 rw[Nat.mul_zero,Nat.add_zero] at hset;rw[hset,<-hinv,Nat.mul_add,Nat.pow_succ];have e:bs ^ k*(r*bs+g)=bs ^ k*(d*q+n):=by rw[hq]
 rw[Nat.mul_add,Nat.mul_add] at e;have e1:bs ^ k*bs*r=bs ^ k*(r*bs):=by rw[Nat.mul_assoc,Nat.mul_comm bs r]
 have e2:d*(bs ^ k*q)=bs ^ k*(d*q):=Nat.mul_left_comm _ _ _;rw[e1,e2];omega
theorem Zp {L L' q r r' V:Nat}(hset:L'+bs ^ k*0=L+bs ^ k*q) (hq:r*bs+g=d*q+r') (hinv:d*L+bs ^ (k+1)*r=bs ^ (k+1)*V):d*L'+bs ^ k*r'=bs ^ k*(g+bs*V):=by
 have h:=q0J hset hq hinv;rw[h,Nat.mul_add,Nat.pow_succ,Nat.mul_assoc];omega
theorem Zq {L r V:Nat}(hinv:d*L+bs ^ 0*r=bs ^ 0*V) (hr:r<d):L=V / d/\r=V % d:=by
 rw[Nat.pow_zero,Nat.one_mul,Nat.one_mul] at hinv;subst hinv
 constructor
 ·rw[Nat.mul_add_div (by omega),Nat.div_eq_of_lt hr];omega
 ·rw[Nat.mul_add_mod,Nat.mod_eq_of_lt hr]
end
section
open Go.RowKit
abbrev q_a:=Option Addr
theorem q_o {p:Prop}(h:Hid p):p:=h.out
theorem q_h {p:Prop}(h:p):Hid p:=h
theorem q_f {p:Prop} [Decidable p] (h:¬p):decide p=false:=decide_eq_false h
theorem q_t {p:Prop} [Decidable p] (h:p):decide p=true:=decide_eq_true h
theorem q_l {a:Nat}(h:a<=b) (h':b<=c):a<=c:=Nat.le_trans h h'
theorem q_r {a:Nat}:a<=a:=Nat.le_refl a
def Ext (w w':World):Prop:=Below w.heap.size w w'
theorem Ext.below(h:Ext w w'):Below w.heap.size w w':=h
theorem Ext.size(h:Ext w w'):w.heap.size<=w'.heap.size:=Below.size h
theorem Ext.refl (w:World):Ext w w:=Below.refl _ _
theorem Ext.trans {a b c:World}(h:Ext a b) (k:Ext b c):Ext a c:=Below.trans h (Below.mono k h.size)
theorem Ext.drew {a b:World}(h:Ext a b):Ext a b.drew:=Below.drew h
theorem Ext.drewN {a b:World}(h:Ext a b) (n:Nat):Ext a (b.drewN n):=by
 have h':Below a.heap.size a b:=h;exact⟨h'.os,h'.tape,h'.output,h'.size,h'.block⟩
theorem Ext.alloc {a b:World}(h:Ext a b) (o:Obj):Ext a (b.alloc o):=Below.alloc h h.size o
theorem Ext.setCell {a b:World}(h:Ext a b){p:Addr}(hp:a.heap.size<=p.block) (u:Value):Ext a (b.setCell p u):=Below.setCell h hp u
theorem Ext.grown {a b c:World}{row:Option Nat}(h:Ext a b) (hg:b.grownBy c row) (hr:∀k,row=some k->a.heap.size<=k):Ext a c :=
 Below.grown h hg h.size hr
theorem Ext.own {a b c:World}(h:Ext a b) (hg:b.grownBy c v.ownBlock){e:TypeId}{size:Nat}{xs:List Value}(ho:b.ownsRow base e size v n xs) (hb:a.heap.size<=base):Ext a c:=by
 refine h.grown hg (fun k hk=>?_)
 rcases ho.2 with ⟨rfl,_⟩|⟨g,cap,cur,rfl,hbg,_⟩
 ·cases hk
 ·simp only[Value.ownBlock,Option.some.injEq] at hk;omega
theorem Ext.grownAt {a b c:World}{cc:Nat}(h:Ext a b) (hg:b.grownBy c (Value.slice (some ⟨g,0,none⟩) k cc).ownBlock) (hb:a.heap.size<=g):Ext a c :=
 h.grown hg (fun i hi=>by simp only[Value.ownBlock,Option.some.injEq] at hi;omega)
theorem Ext.cell(h:Ext w w'){p:Addr}(hc:w.cell? p=some v):w'.cell? p=some v:=by
 by_cases hp:p.block<w.heap.size
 ·rw[Below.cell h hp];exact hc
 ·simp only[World.cell?] at hc;rw[Array.getElem?_eq_none (by omega)] at hc;cases hc
theorem Ext.block(h:Ext w w'){o:Obj}(hk:w.heap[k]?=some o):w'.heap[k]?=some o:=by
 by_cases hp:k<w.heap.size
 ·rw[Below.block h k hp];exact hk
 ·rw[Array.getElem?_eq_none (by omega)] at hk;cases hk
theorem Ext.rules {W:World}(h:Ext W w') (hn:n<=W.heap.size):(∀b o,b<n->w'.cell? ⟨b,o,none⟩=W.cell? ⟨b,o,none⟩)/\(∀b o,b<n->w'.frozen? ⟨b,o,none⟩=W.frozen? ⟨b,o,none⟩) :=
 ⟨fun b o hb=>Below.cell h (p:=⟨b,o,none⟩) (Nat.lt_of_lt_of_le hb hn),fun b o hb=>Below.frozen h (p:=⟨b,o,none⟩) (Nat.lt_of_lt_of_le hb hn)⟩
def q5R (N:Nat) (w:World) (b:Nat):Prop:=b<w.heap.size/\(b<N\/∃cs fr,w.heap[b]?=some (.cells cs 119 fr))
theorem q5R.ext(h:q5R N w b) (e:Ext w w'):q5R N w' b:=by
 obtain⟨h1,h2⟩:=h;refine⟨Nat.lt_of_lt_of_le h1 e.size,?_⟩
 rcases h2 with h2|⟨cs,fr,h2⟩
 ·exact .inl h2
 ·exact .inr ⟨cs,fr,e.block h2⟩
def Gs (N:Nat) (w:World) (v:Value) (l:List Nat):Prop :=
 N<=w.heap.size/\∃(A:Option Addr) (n c:Nat),v=.slice A n c/\l.length=n/\n<=c/\c<=maxLen/\(∀x∈l,x<4294967296) /\
  (0<n->∃b off,A=some ⟨b,off,none⟩/\q5R N w b/\∀i,i<n->w.cell? ⟨b,off+i,none⟩=some (.int .u32 ((l[i]?.getD 0:Nat):Int)))
theorem Gs.le(h:Gs N w v l):N<=w.heap.size:=h.1
theorem Gs.ext(h:Gs N w v l) (e:Ext w w'):Gs N w' v l:=by
 obtain⟨hN,A,n,c,hv,h1,h2,h3,h4,h5⟩:=h;refine⟨Nat.le_trans hN e.size,A,n,c,hv,h1,h2,h3,h4,fun hn=>?_⟩;obtain⟨b,off,hA,hs,hc⟩:=h5 hn;exact⟨b,off,hA,hs.ext e,fun i hi=>e.cell (hc i hi)⟩
theorem Gs.drew(h:Gs N w v l):Gs N w.drew v l:=h
theorem Gs.drewN(h:Gs N w v l) (n:Nat):Gs N (w.drewN n) v l:=h
theorem Gs.nil(h:N<=w.heap.size) (A:Option Addr)(hc:c<=maxLen):Gs N w (.slice A 0 c) [] :=
 ⟨h,A,0,c,rfl,rfl,Nat.zero_le _,hc,fun _ h=>(by cases h),fun h=>absurd h (by omega)⟩
theorem Gs.of_own(hN:N<=w.heap.size)
  (h:w.ownsRow base 119 1 v n (l.map fun x=>Value.int .u32 ((x:Nat):Int))) (hl:∀x∈l,x<4294967296):Gs N w v l:=by
 obtain⟨h1,h2⟩:=h;have hln:l.length=n:=by simpa using h1
 rcases h2 with ⟨rfl,h0⟩|⟨g,cap,cur,rfl,_,hh,hnc,hcm,hcs,htk⟩
 ·have:l=[]:=List.eq_nil_of_length_eq_zero (by omega);subst this;exact Gs.nil hN _ (Nat.zero_le _)
 ·refine⟨hN,_,n,cap,rfl,hln,hnc,hcm,hl,fun hn=>⟨g,0,rfl,⟨?_,.inr ⟨cur,(0,0),hh⟩⟩,fun i hi=>?_⟩⟩
  ·rcases Nat.lt_or_ge g w.heap.size with hlt|hge
   ·exact hlt
   ·rw[Array.getElem?_eq_none hge] at hh;cases hh
  ·simp only[World.cell?,hh,Option.isSome_none,Bool.false_eq_true,if_false,Nat.zero_add];have e1:cur[i]?=(cur.toList.take (n*1))[i]?:=by rw[List.getElem?_take,if_pos (by omega)];simp
   rw[e1,htk,List.getElem?_map,List.getElem?_eq_getElem (by omega)]
   simp
theorem Gs.take(h:Gs N w (.slice A n c) l)(hk:k<=n):Gs N w (.slice A k c) (l.take k):=by
 obtain⟨hN,A',n',c',hv,h1,h2,h3,h4,h5⟩:=h;injection hv with e1 e2 e3
 subst e1 e2 e3;refine⟨hN,A,k,c,rfl,by rw[List.length_take];omega,by omega,h3,fun x hx=>h4 x (List.mem_of_mem_take hx),fun h0=>?_⟩;obtain⟨b,off,hA,hs,hc⟩:=h5 (by omega);refine⟨b,off,hA,hs,fun i hi=>?_⟩;rw[hc i (by omega),List.getElem?_take,if_pos hi]
def q1t (N:Nat) (w:World) (n:Nat) (e:Ending) (w':World):Prop:=∃v,e=.returned v/\Gs N w' v (dg n)/\Ext w w'
def zH (w:World) (v:Value) (e:Ending) (w':World):Prop:=e=.returned v/\Ext w w'
abbrev vG (x:Nat):Value:=.int .u32 ((x:Nat):Int)
theorem Jj:(Tryz.prog.info? 119).map (fun i=>(i.zero,i.size,i.bytes))=some (some (.int .u32 0),1,4):=by kernel_rfl
theorem vW(ty:TypeId) (base:Nat) (v:Value) (n:Nat) (xs:List Nat) (hown:w.ownsRow base 119 1 v n (xs.map vG))
  (sv:Value) (l:List Nat) (hg:Gs N w sv l) (hb:(n+l.length)*4<=140737488355328) (hbase:base<=w.heap.size) :
  ∃v' w',(Builtin.append_ #[31,31] ty #[v,sv]).run Tryz.prog w=.ok v' w'/\w'.ownsRow base 119 1 v' (n+l.length) ((xs++l).map vG)/\w.grownBy w' v.ownBlock:=by
 obtain⟨i0,hi0,hz0,hz1,hz2⟩:=info_parts Jj;obtain⟨_,A,m,c,rfl,h1,h2,h3,h4,h5⟩:=hg;have hnil:m=0->l=[]:=fun h=>List.eq_nil_of_length_eq_zero (by omega)
 rcases A with _|ad
 ·have hm:m=0:=by
   rcases Nat.eq_zero_or_pos m with h0|h0
   ·exact h0
   ·obtain⟨b,off,hA,_⟩:=h5 h0;cases hA
  have hl:=hnil hm;subst hl hm;refine⟨v,w,?_,by simpa using hown,World.grownBy.refl w _⟩
  rcases hown.2 with ⟨rfl,rfl⟩|⟨g,cap,cur,rfl,_,_,hnc,_⟩
  ·simp[Builtin.append_,run_underlying Tryz.underlying31,sizeOf,typeInfo,hi0,Builtin.lenOf,Builtin.firstCells]
  ·simp[Builtin.append_,run_underlying Tryz.underlying31,sizeOf,typeInfo,hi0,Builtin.lenOf,Builtin.firstCells,hnc,storeCells]
 ·have hcells:∀j u,(l.map vG)[j]?=some u->w.cell? (ad.add j)=some u:=by
   intro j u hu
   rcases Nat.eq_zero_or_pos m with h0|h0
   ·rw[hnil h0] at hu;simp at hu
   ·obtain⟨b,off,hA,_,hc⟩:=h5 h0;obtain rfl:=Option.some.inj hA
    have hj:j<l.length:=by
     rcases Nat.lt_or_ge j l.length with h|h
     ·exact h
     ·rw[List.getElem?_eq_none (by simpa using h)] at hu;cases hu
    have e:(⟨b,off,none⟩:Addr).add j=⟨b,off+j,none⟩:=by
     unfold Addr.add;split
     ·rename_i e;subst e;rfl
     ·rfl
    rw[e,hc j (by omega)];rw[List.getElem?_map,List.getElem?_eq_getElem hj] at hu;rw[List.getElem?_eq_getElem hj];simpa using hu
  subst h1
  obtain⟨v',w',hrun,k2,k3,_,_⟩:=run_append_own_at (P:=Tryz.prog) w base 31 ty 119 i0 _ 1 4 Tryz.underlying31 hi0 hz0 hz1 hz2 rfl (by omega) v n (xs.map vG) hown ad l.length c (l.map vG) (by simp) hcells
   (fun u hu=>by obtain⟨x,_,rfl⟩:=List.mem_map.1 hu;rfl) (by unfold maxLen;omega) hb hbase
  exact⟨v',w',hrun,by rw[List.map_append];exact k2,k3⟩
theorem ownsRow_form{e:TypeId}{size:Nat}{xs:List Value}(h:w.ownsRow base e size v n xs):∃A c,v=.slice A n c:=by
 rcases h.2 with ⟨rfl,rfl⟩|⟨g,cap,cur,rfl,_⟩
 ·exact⟨_,_,rfl⟩
 ·exact⟨_,_,rfl⟩
theorem qA{ops:Array Oper}{rest:List Oper}{o:Oper}{a:Act}{Q:Exit->Act->World->Prop}(hgd:o.guard=none) (s x:Operand)
  (ho:o.op=.call { callee:=.builtin .append,args:=#[s,x],argTypes:=#[31,31] })
  (base:Nat) (v:Value) (n:Nat) (xs:List Nat) (hs:a.eval s=v) (hown:w.ownsRow base 119 1 v n (xs.map vG))
  (sv:Value) (l:List Nat) (hx:a.eval x=sv) (hg:Gs N w sv l) (hb:(n+l.length)*4<=140737488355328) (hbase:base<=w.heap.size)
  (h:∀A' c' w',w'.ownsRow base 119 1 (.slice A' (n+l.length) c') (n+l.length) ((xs++l).map vG)->w.grownBy w' v.ownBlock->wpList Tryz.prog ops Q rest (a.put o.dst (.slice A' (n+l.length) c')) w'):wpList Tryz.prog ops Q (o :: rest) a w:=by
 refine wpList_plain hgd fun _ hK=>?_
 obtain⟨v',w',hrun,h2,h3⟩:=vW o.type base v n xs hown sv l hg hb hbase;unfold Oper.wp execOp;simp only[ho,resolve,invoke,builtin,Sem.run_bind,Sem.run_pure,Result.andThen_ok,List.map_toArray,List.map_cons,List.map_nil,hs,hx,hrun];obtain⟨A',c',rfl⟩:=ownsRow_form h2;exact hK _ _ (h A' c' w' h2 h3)
theorem JR{o:Oper}{a:Act}{K:Act->World->Prop}{Q:Exit->Act->World->Prop}(s x:Operand)
  (ho:o.op=.call { callee:=.builtin .append,args:=#[s,x],argTypes:=#[31,31] })
  (base:Nat) (v:Value) (n:Nat) (xs:List Nat) (hs:a.eval s=v) (hown:w.ownsRow base 119 1 v n (xs.map vG))
  (sv:Value) (l:List Nat) (hx:a.eval x=sv) (hg:Gs N w sv l) (hb:(n+l.length)*4<=140737488355328) (hbase:base<=w.heap.size)
  (h:∀A' c' w',w'.ownsRow base 119 1 (.slice A' (n+l.length) c') (n+l.length) ((xs++l).map vG)->w.grownBy w' v.ownBlock->K (a.put o.dst (.slice A' (n+l.length) c')) w'):o.wp Tryz.prog a w K Q:=by
 obtain⟨v',w',hrun,h2,h3⟩:=vW o.type base v n xs hown sv l hg hb hbase;unfold Oper.wp execOp;simp only[ho,resolve,invoke,builtin,Sem.run_bind,Sem.run_pure,Result.andThen_ok,List.map_toArray,List.map_cons,List.map_nil,hs,hx,hrun];obtain⟨A',c',rfl⟩:=ownsRow_form h2;exact h A' c' w' h2 h3
theorem Kv{ops:Array Oper}{o:Oper}{a:Act}{K:Act->World->Prop}{Q:Exit->Act->World->Prop}{E:Prop}(hgd:o.guard=none) (s x:Operand)
  (ho:o.op=.call { callee:=.builtin .append,args:=#[s,x],argTypes:=#[31,31] })
  (base:Nat) (v:Value) (n:Nat) (xs:List Nat) (hs:a.eval s=v) (hown:w.ownsRow base 119 1 v n (xs.map vG))
  (sv:Value) (l:List Nat) (hx:a.eval x=sv) (hg:Gs N w sv l) (hb:(n+l.length)*4<=140737488355328) (hbase:base<=w.heap.size)
  (h:∀A' c' w',w'.ownsRow base 119 1 (.slice A' (n+l.length) c') (n+l.length) ((xs++l).map vG)->w.grownBy w' v.ownBlock->K (a.put o.dst (.slice A' (n+l.length) c')) w') :
  if Region.wanted o (yielded ops a.tmps)=true then Oper.wp Tryz.prog o a w K Q else E:=by
 have hw:Region.wanted o (yielded ops a.tmps)=true:=by simp[Region.wanted,hgd]
 rw[if_pos hw];exact JR s x ho base v n xs hs hown sv l hx hg hb hbase h
theorem kC (w:World) (base g:Nat) (hg:w.heap.size=g) (hb:base<=g):(w.alloc (.cells #[] 119)).ownsRow base 119 1 (.slice (some ⟨g,0,none⟩) 0 0) 0 (([]:List Nat).map vG):=by
 subst hg;exact⟨rfl,.inr ⟨w.heap.size,0,#[],rfl,hb,heap_alloc_new w _,Nat.le_refl _,Nat.zero_le _,rfl,rfl⟩⟩
theorem qJ {k:IntKind}{a b:Int}(h:a=b):Ending.returned (.int k a)=.returned (.int k b):=by rw[h]
theorem qB {a b:Bool}(h:a=b):Ending.returned (.bool a)=.returned (.bool b):=by rw[h]
theorem qc {α:Type}(a:α):∃b,Hid (b=a):=⟨a,rfl⟩
theorem Gs.setCell(h:Gs N w v l){p:Addr}(hN:N<=p.block) (ht:∀cs fr,w.heap[p.block]?≠some (.cells cs 119 fr)) (u:Value):Gs N (w.setCell p u) v l:=by
 obtain⟨hN',A,n,c,hv,h1,h2,h3,h4,h5⟩:=h;refine⟨by simpa[World.setCell] using hN',A,n,c,hv,h1,h2,h3,h4,fun hn=>?_⟩;obtain⟨b,off,hA,⟨hs1,hs2⟩,hc⟩:=h5 hn
 have hne:b≠p.block:=by
  rintro rfl
  rcases hs2 with hs2|⟨cs,fr,hs2⟩
  ·omega
  ·exact ht cs fr hs2
 refine⟨b,off,hA,⟨by simpa[World.setCell] using hs1,?_⟩,fun i hi=>?_⟩
 ·rcases hs2 with hs2|⟨cs,fr,hs2⟩
  ·exact .inl hs2
  ·exact .inr ⟨cs,fr,by rw[Below.heap_setCell _ _ _ _ hne];exact hs2⟩
 ·rw[World.cell?_setCell_other w p ⟨b,off+i,none⟩ u (fun e=>hne (by rw[e]))];exact hc i hi
theorem cell_far{o:Nat}(u:Value) (h:w.cell? ⟨b,o,none⟩=some v) (hne:b≠g):(w.setCell ⟨g,i,none⟩ u).cell? ⟨b,o,none⟩=some v:=by
 rw[World.cell?_setCell_other w ⟨g,i,none⟩ ⟨b,o,none⟩ u (fun e=>hne (by injection e with e1 _;exact e1.symm))];exact h
theorem qh{cs:Array Value}{t:TypeId}{fr:Nat×Nat}(h:w.heap[g]?=some (.cells cs t fr)) (i:Nat):w.cell? ⟨g,i,none⟩=cs[i]?:=by
 simp[World.cell?,h]
theorem qY{cs:Array Value}{t:TypeId}(h:w.heap[g]?=some (.cells cs t (0,0))) (i:Nat):w.frozen? ⟨g,i,none⟩=false:=by
 simp[World.frozen?,h]
theorem heap_set{cs:Array Value}{t:TypeId}{fr:Nat×Nat}(h:w.heap[g]?=some (.cells cs t fr)) (i:Nat) (u:Value) :
  (w.setCell ⟨g,i,none⟩ u).heap[g]?=some (.cells (cs.setIfInBounds i u) t fr):=by
 simp[World.setCell,Array.getElem?_modify,h]
structure Upd (g:Nat) (w w':World):Prop where
 os:w'.os=w.os
 tape:w'.tape=w.tape
 output:w'.output=w.output
 size:w'.heap.size=w.heap.size
 block:∀k,k≠g->w'.heap[k]?=w.heap[k]?
theorem Upd.refl (g:Nat) (w:World):Upd g w w:=⟨rfl,rfl,rfl,rfl,fun _ _=>rfl⟩
theorem Upd.set(h:Upd g w w') (i:Nat) (u:Value):Upd g w (w'.setCell ⟨g,i,none⟩ u) :=
 ⟨h.os,h.tape,h.output,by simpa[World.setCell] using h.size,fun k hk=>by rw[Below.heap_setCell _ _ _ _ hk];exact h.block k hk⟩
theorem Upd.blk(h:Upd g w w'){o:Obj}(hk:w.heap[k]?=some o) (hne:k≠g):w'.heap[k]?=some o:=(h.block k hne).trans hk
theorem Upd.ext{a:World}(h:Upd g w w') (e:Ext a w) (hg:a.heap.size<=g):Ext a w':=by
 have e':Below a.heap.size a w:=e;exact⟨h.os.trans e'.os,h.tape.trans e'.tape,h.output.trans e'.output,by rw[h.size];exact e'.size,fun k hk=>(h.block k (by omega)).trans (e'.block k hk)⟩
theorem Upd.cell(h:Upd g w w'){p:Addr}(hc:w.cell? p=some v) (hne:p.block≠g):w'.cell? p=some v:=by
 rw[World.cell?_of_block (w:=w) (h.block p.block hne)];exact hc
def NoU (w:World) (g:Nat):Prop:=∀cs fr,w.heap[g]?≠some (.cells cs 119 fr)
theorem NoU.mk{cs:Array Value}{t:TypeId}{fr:Nat×Nat}(h:w.heap[g]?=some (.cells cs t fr)) (ht:t≠119):NoU w g:=by
 intro cs' fr' h';rw[h] at h';injection h' with h'
 injection h' with _ h2
 exact ht h2
theorem Gs.upd(h:Gs N w v l) (u:Upd g w w') (hN:N<=g) (ht:NoU w g):Gs N w' v l:=by
 obtain⟨hN',A,n,c,hv,h1,h2,h3,h4,h5⟩:=h;refine⟨by rw[u.size];exact hN',A,n,c,hv,h1,h2,h3,h4,fun hn=>?_⟩;obtain⟨b,off,hA,⟨hs1,hs2⟩,hc⟩:=h5 hn
 have hne:b≠g:=by
  rintro rfl
  rcases hs2 with hs2|⟨cs,fr,hs2⟩
  ·omega
  ·exact ht cs fr hs2
 refine⟨b,off,hA,⟨by rw[u.size];exact hs1,?_⟩,fun i hi=>u.cell (hc i hi) hne⟩
 rcases hs2 with hs2|⟨cs,fr,hs2⟩
 ·exact .inl hs2
 ·exact .inr ⟨cs,fr,u.blk hs2 hne⟩
theorem yU {w1:World}{o0:Obj}(e:Ext (w.alloc o0) w1):Ext w w1/\w.heap.size+1<=w1.heap.size/\w1.heap[w.heap.size]?=some o0:=by
 refine⟨((Ext.refl w).alloc _).trans e,by have:=e.size;simpa using this,e.block ?_⟩
 ·have h:=(Ext.refl (w.alloc o0)).block (heap_alloc_new w o0);simpa using h
theorem qo {F:World->Prop}{o0:Obj}(h:∀w1,Ext w w1->w.heap.size+1<=w1.heap.size->w1.heap[w.heap.size]?=some o0->F w1):F (w.alloc o0):=by
 obtain⟨h0,h1,b0⟩:=yU (Ext.refl (w.alloc o0));exact h _ h0 h1 b0
theorem q3Z {w1:World}{o0 o1:Obj}(e:Ext ((w.alloc o0).alloc o1) w1):Ext w w1/\w.heap.size+2<=w1.heap.size/\w1.heap[w.heap.size]?=some o0/\w1.heap[w.heap.size+1]?=some o1:=by
 refine⟨(((Ext.refl w).alloc _).alloc _).trans e,by have:=e.size;simpa using this,e.block ?_,e.block ?_⟩
 ·have h:=((Ext.refl (w.alloc o0)).alloc o1).block (heap_alloc_new w o0);simpa using h
 ·have h:=(Ext.refl ((w.alloc o0).alloc o1)).block (heap_alloc_new (w.alloc o0) o1);simpa using h
theorem kD {F:World->Prop}{o0 o1:Obj}(h:∀w1,Ext w w1->w.heap.size+2<=w1.heap.size->w1.heap[w.heap.size]?=some o0->w1.heap[w.heap.size+1]?=some o1->F w1):F ((w.alloc o0).alloc o1):=by
 obtain⟨h0,h1,b0,b1⟩:=q3Z (Ext.refl ((w.alloc o0).alloc o1));exact h _ h0 h1 b0 b1
theorem q9e {w1:World}{o0 o1 o2:Obj}(e:Ext (((w.alloc o0).alloc o1).alloc o2) w1):Ext w w1/\w.heap.size+3<=w1.heap.size/\w1.heap[w.heap.size]?=some o0/\w1.heap[w.heap.size+1]?=some o1/\w1.heap[w.heap.size+1+1]?=some o2:=by
 refine⟨((((Ext.refl w).alloc _).alloc _).alloc _).trans e,by have:=e.size;simpa using this,e.block ?_,e.block ?_,e.block ?_⟩
 ·have h:=(((Ext.refl (w.alloc o0)).alloc o1).alloc o2).block (heap_alloc_new w o0);simpa using h
 ·have h:=((Ext.refl ((w.alloc o0).alloc o1)).alloc o2).block (heap_alloc_new (w.alloc o0) o1);simpa using h
 ·have h:=(Ext.refl (((w.alloc o0).alloc o1).alloc o2)).block (heap_alloc_new ((w.alloc o0).alloc o1) o2);simpa using h
theorem xX {F:World->Prop}{o0 o1 o2:Obj}(h:∀w1,Ext w w1->w.heap.size+3<=w1.heap.size->w1.heap[w.heap.size]?=some o0->w1.heap[w.heap.size+1]?=some o1->w1.heap[w.heap.size+1+1]?=some o2->F w1):F (((w.alloc o0).alloc o1).alloc o2):=by
 obtain⟨h0,h1,b0,b1,b2⟩:=q9e (Ext.refl (((w.alloc o0).alloc o1).alloc o2));exact h _ h0 h1 b0 b1 b2
theorem q9d {w1:World}{o0 o1 o2 o3:Obj}(e:Ext ((((w.alloc o0).alloc o1).alloc o2).alloc o3) w1):Ext w w1/\w.heap.size+4<=w1.heap.size/\w1.heap[w.heap.size]?=some o0/\w1.heap[w.heap.size+1]?=some o1/\w1.heap[w.heap.size+1+1]?=some o2/\w1.heap[w.heap.size+1+1+1]?=some o3:=by
 refine⟨(((((Ext.refl w).alloc _).alloc _).alloc _).alloc _).trans e,by have:=e.size;simpa using this,e.block ?_,e.block ?_,e.block ?_,e.block ?_⟩
 ·have h:=((((Ext.refl (w.alloc o0)).alloc o1).alloc o2).alloc o3).block (heap_alloc_new w o0);simpa using h
 ·have h:=(((Ext.refl ((w.alloc o0).alloc o1)).alloc o2).alloc o3).block (heap_alloc_new (w.alloc o0) o1);simpa using h
 ·have h:=((Ext.refl (((w.alloc o0).alloc o1).alloc o2)).alloc o3).block (heap_alloc_new ((w.alloc o0).alloc o1) o2);simpa using h
 ·have h:=(Ext.refl ((((w.alloc o0).alloc o1).alloc o2).alloc o3)).block (heap_alloc_new (((w.alloc o0).alloc o1).alloc o2) o3);simpa using h
theorem q6o {F:World->Prop}{o0 o1 o2 o3:Obj}(h:∀w1,Ext w w1->w.heap.size+4<=w1.heap.size->w1.heap[w.heap.size]?=some o0->w1.heap[w.heap.size+1]?=some o1->w1.heap[w.heap.size+1+1]?=some o2->w1.heap[w.heap.size+1+1+1]?=some o3->F w1):F ((((w.alloc o0).alloc o1).alloc o2).alloc o3):=by
 obtain⟨h0,h1,b0,b1,b2,b3⟩:=q9d (Ext.refl ((((w.alloc o0).alloc o1).alloc o2).alloc o3));exact h _ h0 h1 b0 b1 b2 b3
theorem zG{t:TypeId}{x0:Value}(h:w.heap[g]?=some (.cells #[x0] t (0,0))):w.cell? ⟨g,0,none⟩=some x0/\w.frozen? ⟨g,0,none⟩=false:=by
 refine⟨?_,?_⟩<;>first|exact qh h _|exact qY h _
theorem upd1 {F:World->Prop}{t:TypeId}{x0 y0:Value}(hb:w.heap[g]?=some (.cells #[y0] t (0,0))) (h:∀w1,w1.heap[g]?=some (.cells #[x0] t (0,0))->Upd g w w1->F w1):F (w.setCell ⟨g,0,none⟩ x0):=by
 refine h _ ?_ ?_
 ·have h1:=(heap_set hb 0 x0);simpa using h1
 ·exact (Upd.refl g w).set 0 x0
theorem cells2{t:TypeId}{x0 x1:Value}(h:w.heap[g]?=some (.cells #[x0,x1] t (0,0))):w.cell? ⟨g,0,none⟩=some x0/\w.cell? ⟨g,1,none⟩=some x1/\w.frozen? ⟨g,0,none⟩=false/\w.frozen? ⟨g,1,none⟩=false:=by
 refine⟨?_,?_,?_,?_⟩<;>first|exact qh h _|exact qY h _
theorem upd2 {F:World->Prop}{t:TypeId}{x0 x1 y0 y1:Value}(hb:w.heap[g]?=some (.cells #[y0,y1] t (0,0))) (h:∀w1,w1.heap[g]?=some (.cells #[x0,x1] t (0,0))->Upd g w w1->F w1):F ((w.setCell ⟨g,0,none⟩ x0).setCell ⟨g,1,none⟩ x1):=by
 refine h _ ?_ ?_
 ·have h1:=(heap_set (heap_set hb 0 x0) 1 x1);simpa using h1
 ·exact ((Upd.refl g w).set 0 x0).set 1 x1
theorem cells3{t:TypeId}{x0 x1 x2:Value}(h:w.heap[g]?=some (.cells #[x0,x1,x2] t (0,0))):w.cell? ⟨g,0,none⟩=some x0/\w.cell? ⟨g,1,none⟩=some x1/\w.cell? ⟨g,2,none⟩=some x2/\w.frozen? ⟨g,0,none⟩=false/\w.frozen? ⟨g,1,none⟩=false/\w.frozen? ⟨g,2,none⟩=false:=by
 refine⟨?_,?_,?_,?_,?_,?_⟩<;>first|exact qh h _|exact qY h _
theorem upd3 {F:World->Prop}{t:TypeId}{x0 x1 x2 y0 y1 y2:Value}(hb:w.heap[g]?=some (.cells #[y0,y1,y2] t (0,0))) (h:∀w1,w1.heap[g]?=some (.cells #[x0,x1,x2] t (0,0))->Upd g w w1->F w1):F (((w.setCell ⟨g,0,none⟩ x0).setCell ⟨g,1,none⟩ x1).setCell ⟨g,2,none⟩ x2):=by
 refine h _ ?_ ?_
 ·have h1:=(heap_set (heap_set (heap_set hb 0 x0) 1 x1) 2 x2);simpa using h1
 ·exact (((Upd.refl g w).set 0 x0).set 1 x1).set 2 x2
theorem cells4{t:TypeId}{x0 x1 x2 x3:Value}(h:w.heap[g]?=some (.cells #[x0,x1,x2,x3] t (0,0))):w.cell? ⟨g,0,none⟩=some x0/\w.cell? ⟨g,1,none⟩=some x1/\w.cell? ⟨g,2,none⟩=some x2/\w.cell? ⟨g,3,none⟩=some x3/\w.frozen? ⟨g,0,none⟩=false/\w.frozen? ⟨g,1,none⟩=false/\w.frozen? ⟨g,2,none⟩=false/\w.frozen? ⟨g,3,none⟩=false:=by
 refine⟨?_,?_,?_,?_,?_,?_,?_,?_⟩<;>first|exact qh h _|exact qY h _
theorem upd4 {F:World->Prop}{t:TypeId}{x0 x1 x2 x3 y0 y1 y2 y3:Value}(hb:w.heap[g]?=some (.cells #[y0,y1,y2,y3] t (0,0))) (h:∀w1,w1.heap[g]?=some (.cells #[x0,x1,x2,x3] t (0,0))->Upd g w w1->F w1):F ((((w.setCell ⟨g,0,none⟩ x0).setCell ⟨g,1,none⟩ x1).setCell ⟨g,2,none⟩ x2).setCell ⟨g,3,none⟩ x3):=by
 refine h _ ?_ ?_
 ·have h1:=(heap_set (heap_set (heap_set (heap_set hb 0 x0) 1 x1) 2 x2) 3 x3);simpa using h1
 ·exact ((((Upd.refl g w).set 0 x0).set 1 x1).set 2 x2).set 3 x3
theorem qW {P:Program}{f:FuncId}{args:Array Value}{R:Ending->World->Prop}{o0:Obj}(h:∀w1,Ext w w1->w.heap.size+1<=w1.heap.size->w1.heap[w.heap.size]?=some o0->Calls P f args w1 R):Calls P f args (w.alloc o0) R:=qo (F:=fun W=>Calls P f args W R) h
theorem jF {P:Program}{f:FuncId}{args:Array Value}{R:Ending->World->Prop}{o0 o1:Obj}(h:∀w1,Ext w w1->w.heap.size+2<=w1.heap.size->w1.heap[w.heap.size]?=some o0->w1.heap[w.heap.size+1]?=some o1->Calls P f args w1 R):Calls P f args ((w.alloc o0).alloc o1) R:=kD (F:=fun W=>Calls P f args W R) h
theorem ZX {P:Program}{f:FuncId}{args:Array Value}{R:Ending->World->Prop}{o0 o1 o2:Obj}(h:∀w1,Ext w w1->w.heap.size+3<=w1.heap.size->w1.heap[w.heap.size]?=some o0->w1.heap[w.heap.size+1]?=some o1->w1.heap[w.heap.size+1+1]?=some o2->Calls P f args w1 R):Calls P f args (((w.alloc o0).alloc o1).alloc o2) R:=xX (F:=fun W=>Calls P f args W R) h
theorem updC2 {P:Program}{f:FuncId}{args:Array Value}{R:Ending->World->Prop}{t:TypeId}{x0 x1 y0 y1:Value}(hb:w.heap[g]?=some (.cells #[y0,y1] t (0,0))) (h:∀w1,w1.heap[g]?=some (.cells #[x0,x1] t (0,0))->Upd g w w1->Calls P f args w1 R):Calls P f args ((w.setCell ⟨g,0,none⟩ x0).setCell ⟨g,1,none⟩ x1) R:=upd2 (F:=fun W=>Calls P f args W R) hb h
theorem ex1{t:TypeId}{y0:Value}(hb:w.heap[g]?=some (.cells #[y0] t (0,0))) (x0:Value):∃w1,(w.setCell ⟨g,0,none⟩ x0)=w1/\w1.heap[g]?=some (.cells #[x0] t (0,0))/\Upd g w w1:=upd1 (F:=fun W=>∃w1,W=w1/\w1.heap[g]?=some (.cells #[x0] t (0,0))/\Upd g w w1) hb (fun w1 h u=>⟨w1,rfl,h,u⟩)
theorem ex2{t:TypeId}{y0 y1:Value}(hb:w.heap[g]?=some (.cells #[y0,y1] t (0,0))) (x0 x1:Value):∃w1,((w.setCell ⟨g,0,none⟩ x0).setCell ⟨g,1,none⟩ x1)=w1/\w1.heap[g]?=some (.cells #[x0,x1] t (0,0))/\Upd g w w1:=upd2 (F:=fun W=>∃w1,W=w1/\w1.heap[g]?=some (.cells #[x0,x1] t (0,0))/\Upd g w w1) hb (fun w1 h u=>⟨w1,rfl,h,u⟩)
theorem ex3{t:TypeId}{y0 y1 y2:Value}(hb:w.heap[g]?=some (.cells #[y0,y1,y2] t (0,0))) (x0 x1 x2:Value):∃w1,(((w.setCell ⟨g,0,none⟩ x0).setCell ⟨g,1,none⟩ x1).setCell ⟨g,2,none⟩ x2)=w1/\w1.heap[g]?=some (.cells #[x0,x1,x2] t (0,0))/\Upd g w w1:=upd3 (F:=fun W=>∃w1,W=w1/\w1.heap[g]?=some (.cells #[x0,x1,x2] t (0,0))/\Upd g w w1) hb (fun w1 h u=>⟨w1,rfl,h,u⟩)
theorem ex4{t:TypeId}{y0 y1 y2 y3:Value}(hb:w.heap[g]?=some (.cells #[y0,y1,y2,y3] t (0,0))) (x0 x1 x2 x3:Value):∃w1,((((w.setCell ⟨g,0,none⟩ x0).setCell ⟨g,1,none⟩ x1).setCell ⟨g,2,none⟩ x2).setCell ⟨g,3,none⟩ x3)=w1/\w1.heap[g]?=some (.cells #[x0,x1,x2,x3] t (0,0))/\Upd g w w1:=upd4 (F:=fun W=>∃w1,W=w1/\w1.heap[g]?=some (.cells #[x0,x1,x2,x3] t (0,0))/\Upd g w w1) hb (fun w1 h u=>⟨w1,rfl,h,u⟩)
def zy (N:Nat) (w:World) (v:Value) (z:Int):Prop:=∃s,v=.agg #[.bool (decide (z<0)),s]/\Gs N w s (dg z.natAbs)
theorem zy.ext(h:zy N w v z) (e:Ext w w'):zy N w' v z:=by
 obtain⟨s,hv,hs⟩:=h;exact⟨s,hv,hs.ext e⟩
def Kr (N:Nat) (w:World) (z:Int) (e:Ending) (w':World):Prop:=∃v,e=.returned v/\zy N w' v z/\Ext w w'
theorem q4a (x y:Value) (w:World):(Instr.field 33 (.agg #[x,y]) 1).run Tryz.prog w=.ok y w:=by kernel_rfl
theorem zC {fn:Func}{k:Tmp}(hres:fn.results=#[.cell k 33]){a:Act}(hp:a.tmps.getD k undef=.pointer (some ⟨g,0,none⟩)) (hd:a.defers=[])
{W:World}{o1 o2:Value}{neg:Bool}(hE:Ext w W) (hb:W.heap[g]?=some (.cells #[o1,o2] 33 (0,0))) (hg:w.heap.size<=g) (hN:N<=w.heap.size)
  (hG:Gs N W (.slice A n c) l) (hneg:neg=decide (z<0)) (hl:l=dg z.natAbs) :
  bodyPost Tryz.prog fn (Kr N w z) .ret a ((W.setCell ⟨g,0,none⟩ (.bool neg)).setCell ⟨g,1,none⟩ (.slice A n c)):=by
 have b1:=heap_set hb 0 (.bool neg);have b2:=heap_set b1 1 (.slice A n c);have hc0:((W.setCell ⟨g,0,none⟩ (.bool neg)).setCell ⟨g,1,none⟩ (.slice A n c)).cell? ⟨g,0,none⟩=some (.bool neg):=by simp[World.cell?,b2]
 have hc1:((W.setCell ⟨g,0,none⟩ (.bool neg)).setCell ⟨g,1,none⟩ (.slice A n c)).cell? ⟨g,1,none⟩=some (.slice A n c):=by simp[World.cell?,b2]
 refine bodyPost_ret (v:=.agg #[.bool neg,.slice A n c]) ?_ hd ⟨_,rfl,⟨.slice A n c,by rw[hneg],?_⟩,?_⟩
 ·generalize ((W.setCell ⟨g,0,none⟩ (.bool neg)).setCell ⟨g,1,none⟩ (.slice A n c))=W' at *
  have hp':a.tmps[k]?.getD undef=.pointer (some ⟨g,0,none⟩):=by simpa using hp
  simp[results,hres,hp',hc0,hc1,go_sem]
 ·rw[<-hl];refine Gs.setCell (Gs.setCell hG (Nat.le_trans hN hg) ?_ _) (Nat.le_trans hN hg) ?_ _
  ·intro cs fr;simp only[hb];intro h;injection h with h;injection h with _ h2;exact absurd h2 (by decide)
  ·intro cs fr;simp only[b1];intro h;injection h with h;injection h with _ h2;exact absurd h2 (by decide)
 ·exact (hE.setCell (p:=⟨g,0,none⟩) hg _).setCell (p:=⟨g,1,none⟩) hg _
def q5U (N:Nat) (w:World) (z:Int) (e:Ending) (w':World):Prop:=∃(b:Bool) (A:Option Addr) (k c:Nat),e=.returned (.agg #[.bool b,.slice A k c])/\Hid (b=decide (z<0))/\Gs N w' (.slice A k c) (dg z.natAbs)/\Ext w w'/\Hid (∀ad,A=some ad->w.heap.size<=ad.block)
theorem q5U.ri{e:Ending}(h:q5U N w z e w'):Kr N w z e w':=by
 obtain⟨b,A,k,c,rfl,hb,hg,he,-⟩:=h;exact⟨_,rfl,⟨_,by rw[hb.out],hg⟩,he⟩
def QX (N:Nat) (w:World) (n:Nat) (e:Ending) (w':World):Prop:=∃A k c,e=.returned (.slice A k c)/\Gs N w' (.slice A k c) (dg n)/\Ext w w'/\Hid (∀ad,A=some ad->w.heap.size<=ad.block)
theorem QX.rm{e:Ending}(h:QX N w n e w'):q1t N w n e w':=by
 obtain⟨A,k,c,rfl,hg,he,-⟩:=h;exact⟨_,rfl,hg,he⟩
theorem jh{e:TypeId}{size:Nat}{xs:List Value}(h:w.ownsRow base e size (.slice A n c) n xs):∀ad,A=some ad->base<=ad.block:=by
 rintro ad rfl
 rcases h.2 with ⟨h1,_⟩|⟨g,cap,cur,hv,hb,_⟩
 ·cases h1
 ·injection hv with e1 _ _
  injection e1 with e1
  subst e1;exact hb
theorem Zd {fn:Func}{k:Tmp}(hres:fn.results=#[.cell k 33]){a:Act}(hp:a.tmps.getD k undef=.pointer (some ⟨g,0,none⟩)) (hd:a.defers=[])
{W:World}{o1 o2:Value}{neg:Bool}(hE:Ext w W) (hb:W.heap[g]?=some (.cells #[o1,o2] 33 (0,0))) (hg:w.heap.size<=g) (hN:N<=w.heap.size)
  (hG:Gs N W (.slice A n c) l) (hneg:neg=decide (z<0)) (hl:l=dg z.natAbs) (hF:∀ad,A=some ad->w.heap.size<=ad.block) :
  bodyPost Tryz.prog fn (q5U N w z) .ret a ((W.setCell ⟨g,0,none⟩ (.bool neg)).setCell ⟨g,1,none⟩ (.slice A n c)):=by
 obtain⟨h1,v,hr,v',hv',⟨s,hv,hs⟩,hx⟩:=zC hres hp hd hE hb hg hN hG hneg hl;injection hv' with hv'
 subst hv';refine⟨h1,_,hr,?_⟩
 have hcell:v=.agg #[.bool neg,.slice A n c]:=by
  have b1:=heap_set hb 0 (.bool neg);have b2:=heap_set b1 1 (.slice A n c);have hc0:((W.setCell ⟨g,0,none⟩ (.bool neg)).setCell ⟨g,1,none⟩ (.slice A n c)).cell? ⟨g,0,none⟩=some (.bool neg):=by simp[World.cell?,b2]
  have hc1:((W.setCell ⟨g,0,none⟩ (.bool neg)).setCell ⟨g,1,none⟩ (.slice A n c)).cell? ⟨g,1,none⟩=some (.slice A n c):=by simp[World.cell?,b2]
  generalize ((W.setCell ⟨g,0,none⟩ (.bool neg)).setCell ⟨g,1,none⟩ (.slice A n c))=W' at *
  have hp':a.tmps[k]?.getD undef=.pointer (some ⟨g,0,none⟩):=by simpa using hp
  simp[results,hres,hp',hc0,hc1,go_sem] at hr
  exact hr.symm
 subst hcell;injection hv with hv
 have e2:=congrArg (fun l:Array Value=>l[1]?) hv;simp at e2
 subst e2;exact⟨neg,A,n,c,rfl,hneg,hs,hx,hF⟩
theorem WE(h:Gs N w s l) (i:Int) (hi:0<=i) :
  Calls Tryz.prog 120 #[s,.int .i64 i] w fun e w'=>e=.returned (.int .u64 ((l[i.toNat]?.getD 0:Nat):Int))/\w=w':=by
 obtain⟨k,rfl⟩:=Int.eq_ofNat_of_zero_le hi;obtain⟨hN,A,n,c,rfl,h1,h2,h3,h4,h5⟩:=h;unfold maxLen at h3;rw[Int.toNat_natCast]
 by_cases hk:k<n
 ·obtain⟨b,off,rfl,hs,hc⟩:=h5 (by omega);have g:=hc k hk
  have hx:l[k]?.getD 0<4294967296:=by
   rw[List.getElem?_eq_getElem (by omega)];exact h4 _ (List.getElem_mem _)
  generalize l[k]?.getD 0=x at *
  clear hc h5 h4;go_enter Tryz.func120,Tryz.ntmps120;go_wp2;go_ret;exact⟨rfl,rfl⟩
 ·have e:l[k]?.getD 0=0:=by rw[List.getElem?_eq_none (by omega)];rfl
  rw[e];clear h5 h4;go_enter Tryz.func120,Tryz.ntmps120;go_wp2;go_ret;exact⟨rfl,rfl⟩
def okB (neg:Bool) (l:List Nat):Bool:=if l=[] then !neg else l.all (· < bs)&&(l.getLast? != some 0)
theorem q7f {neg:Bool}(h:k<l.length)(hz:z=((l[k]?.getD 0:Nat):Int)) (hb:¬z<1000000000):okB neg l=false:=by
 unfold okB;rw[if_neg (by intro e;rw[e] at h;simp at h)]
 have:l.all (· < bs)=false:=by
  rw[List.all_eq_false];refine⟨l[k],List.getElem_mem _,?_⟩;rw[List.getElem?_eq_getElem h] at hz;simp only[Option.getD_some] at hz;simp only[decide_eq_true_eq];unfold bs;omega
 rw[this];rfl
theorem q4V {neg:Bool}(hn:l.length=n) (h0:0<n) (hd:Dig l)(hz:z=((l[n-1]?.getD 0:Nat):Int)):okB neg l=(z != 0):=by
 unfold okB;rw[if_neg (by intro e;rw[e] at hn;simp at hn;omega)]
 have:l.all (· < bs)=true:=by
  rw[List.all_eq_true];intro y hy;simpa using hd y hy
 have e:l.getLast?=some (l[n-1]?.getD 0):=by
  rw[List.getLast?_eq_getElem?,hn,List.getElem?_eq_getElem (by omega)];rfl
 rw[this,e];subst hz
 by_cases hx0:l[n-1]?.getD 0=0
 ·rw[hx0];rfl
 ·have h1:((l[n-1]?.getD 0:Nat):Int)≠0:=by omega
  simp only[Bool.true_and];rw[bne_iff_ne.2 h1,bne_iff_ne.2 (fun e=>hx0 (Option.some.inj e))]
theorem Dig.snoc_take(hk:k<l.length) (h:Dig (l.take k))(hz:z=((l[k]?.getD 0:Nat):Int)) (hb:z<1000000000):Dig (l.take (k+1)):=by
 rw[List.take_succ_eq_append_getElem hk];refine h.append (fun y hy=>?_);rw[List.mem_singleton] at hy;rw[List.getElem?_eq_getElem hk] at hz;simp only[Option.getD_some] at hz;rw[hy];unfold bs;omega
theorem Gs.at_(h:Gs N w (.slice A n c) l)(hk:k<n) :
  ∃(b off:Nat) (z:Int),A=some ⟨b,off,none⟩/\b<w.heap.size/\w.cell? ⟨b,off+k,none⟩=some (.int .u32 z)/\0<=z/\z<4294967296/\Hid (z=((l[k]?.getD 0:Nat):Int)):=by
 obtain⟨hN,A',n',c',hv,h1,h2,h3,h4,h5⟩:=h;injection hv with e1 e2 e3
 subst e1 e2 e3;obtain⟨b,off,hA,hs,hc⟩:=h5 (by omega)
 have hx:l[k]?.getD 0<4294967296:=by
  rw[List.getElem?_eq_getElem (by omega)];exact h4 _ (List.getElem_mem _)
 exact⟨b,off,_,hA,hs.1,hc k hk,by omega,by omega,rfl⟩
theorem Gs.form(h:Gs N w v l):∃A n c,v=.slice A n c/\Hid (l.length=n)/\n<=c/\c<=9223372036854775807:=by
 obtain⟨hN,A',n',c',hv,h1,h2,h3,h4,h5⟩:=h;exact⟨A',n',c',hv,h1,h2,by unfold maxLen at h3;omega⟩
theorem XX{neg:Bool}(h:Gs N w s l) :
  Calls Tryz.prog 86 #[.agg #[.bool neg,s]] w (zH w (.bool (okB neg l))):=by
 obtain⟨r,hr⟩:=qc (okB neg l);rw[<-hr.out];obtain⟨A,n,c,rfl,hlen,h2,h3⟩:=h.form;go_enter Tryz.func86,Tryz.ntmps86;go_wp2
 go_loop [4] (fun i=>∃k:Nat,k<=n/\i=.int .i64 k/\Dig (l.take k)) (fun i=>n-(intOf i).toNat)
 case atStart=>exact⟨0,Nat.zero_le _,rfl,Dig.nil⟩
 case round =>
  obtain⟨k,hk,rfl,hd⟩:=hrel
  by_cases hlt:k<n
  ·obtain⟨b,off,z,rfl,hb0,g,z0,z1,hz⟩:=h.at_ hlt
   by_cases hb:z<1000000000
   ·have HD:Dig (l.take (k+1)):=Dig.snoc_take (by rw[hlen.out];exact hlt) hd hz.out hb;go_wp2
    go_round
    case rel=>exact⟨k+1,by omega,by go_num,HD⟩
    case measure=>simp[intOf];omega
   ·have HR:Hid (r=false):=hr.out.trans (q7f (by rw[hlen.out];exact hlt) hz.out hb);go_wp2;go_ret;exact⟨qB HR.out.symm,(Ext.refl _).alloc _⟩
  ·obtain rfl:n=k:=by omega
   rw[List.take_of_length_le (by rw[hlen.out];exact q_r)] at hd
   rcases Nat.eq_zero_or_pos n with h0|h0
   ·subst h0;have HR:Hid (r=!neg):=by rw[Hid,hr.out,List.eq_nil_of_length_eq_zero hlen.out];rfl
    go_wp2;go_ret;exact⟨qB HR.out.symm,(Ext.refl _).alloc _⟩
   ·obtain⟨b,off,z,rfl,hb0,g,z0,z1,hz⟩:=h.at_ (k:=n-1) (by omega);have HR:Hid (r=(z != 0)):=hr.out.trans (q4V hlen.out h0 hd hz.out);have h0':((n:Int) == 0)=false:=by simp;omega
    go_wp2;go_ret;exact⟨qB HR.out.symm,(Ext.refl _).alloc _⟩
theorem WS {neg:Bool}(hz:z=if neg then -(val l:Int) else (val l:Int))(ht:l.take k=dg (val l)) (hk:k<=l.length):(neg&&decide (0<k))=decide (z<0)/\l.take k=dg z.natAbs:=by
 have h1:z.natAbs=val l:=by subst hz;split<;>omega
 rw[h1];refine⟨?_,ht⟩
 have h2:val l=0↔k=0:=by
  constructor
  ·intro h;rw[h,zO] at ht;have:=congrArg List.length ht;rw[List.length_take] at this;simp only[List.length_nil] at this;omega
  ·rintro rfl;rw[List.take_zero] at ht;exact zU.1 ht.symm
 subst hz;cases neg
 ·simp only[Bool.false_and];symm;rw[decide_eq_false_iff_not];simp
 ·simp only[Bool.true_and,if_true]
  rcases Nat.eq_zero_or_pos k with h0|h0
  ·have:=h2.2 h0;subst h0;rw[this];rfl
  ·have h3:val l≠0:=fun e=>by have:=h2.1 e;omega
   rw[q_t h0];symm;rw[decide_eq_true_eq];omega
theorem WC{neg:Bool}(h:Gs N w s l) (hd:Dig l) (hL:l.length<=35184372088832) (z:Int) (hz:Hid (z=if neg then -(val l:Int) else (val l:Int))) :
  Calls Tryz.prog 72 #[.bool neg,s] w (q5U N w z):=by
 have hN:=h.le;obtain⟨A,n,c,rfl,hlen,h2,h3⟩:=h.form;rw[hlen.out] at hL;have Hd:=q_h hd;clear hd;go_enter Tryz.func72,Tryz.ntmps72;go_wp2
 go_loop [5] (fun i=>∃k:Nat,k<=n/\i=.int .i64 k/\val (l.drop k)=0) (fun i=>(intOf i).toNat)
 case atStart=>exact⟨n,q_r,rfl,by rw[List.drop_of_length_le (by rw[hlen.out];exact q_r)];rfl⟩
 case round =>
  obtain⟨k,hk,rfl,hv⟩:=hrel;have HV:=q_h hv;clear hv
  rcases Nat.eq_zero_or_pos k with h0|h0
  ·subst h0;have HM:Hid (_/\_):=WS hz.out (jf Hd.out (Nat.zero_le _) HV.out (.inl rfl)) (Nat.zero_le _);have HG:=q_h (h.take (k:=0) (Nat.zero_le _));cases neg
   ·go_wp2_with (at_builtin;refine q_o ?_);refine qA (N:=N) rfl (.tmp 25) (.tmp 28) rfl (w.heap.size+1) _ 0 [] rfl (kC _ _ (w.heap.size+1) (by simp) (by simp)) _ (l.take 0) rfl (by exact HG.out.ext (((Ext.refl w).alloc _).alloc _)) (by rw[List.length_take];omega) (by simp) ?_;intro A' c' w1 hown hgr;have hE:=((Ext.refl (w.alloc (Obj.cells #[Value.bool false,Value.slice none 0 0] 33))).alloc (Obj.cells #[] 119)).grownAt hgr (by simp);obtain⟨hc1,hf1⟩:=hE.rules (n:=w.heap.size+1) (by simp);have hG:=Gs.of_own (N:=N) (l:=[]++l.take 0) (q_l hN ((((Ext.refl w).alloc _).trans hE).size)) hown (fun x hx=>Nat.lt_trans (Hd.out x (List.mem_of_mem_take (i:=0) (by rw[List.nil_append] at hx;exact hx))) (by decide));rw[List.nil_append,Nat.zero_add] at hG;rw[Nat.zero_add];have HOW:=q_h hown;rw[Nat.zero_add] at HOW;clear hown hgr
    generalize (l.take 0).length=m at *
    go_wp2;exact Zd rfl rfl rfl (((Ext.refl w).alloc _).trans hE) (hE.block (heap_alloc_new _ _)) (q_r) hN hG (by rw[<-HM.out.1];first|rfl|(simp;omega)) HM.out.2 (fun ad h=>Nat.le_of_succ_le (jh HOW.out ad h))
   ·go_wp2_with (at_builtin;refine q_o ?_);refine qA (N:=N) rfl (.tmp 25) (.tmp 28) rfl (w.heap.size+1) _ 0 [] rfl (kC _ _ (w.heap.size+1) (by simp) (by simp)) _ (l.take 0) rfl (by exact HG.out.ext (((Ext.refl w).alloc _).alloc _)) (by rw[List.length_take];omega) (by simp) ?_;intro A' c' w1 hown hgr;have hE:=((Ext.refl (w.alloc (Obj.cells #[Value.bool false,Value.slice none 0 0] 33))).alloc (Obj.cells #[] 119)).grownAt hgr (by simp);obtain⟨hc1,hf1⟩:=hE.rules (n:=w.heap.size+1) (by simp);have hG:=Gs.of_own (N:=N) (l:=[]++l.take 0) (q_l hN ((((Ext.refl w).alloc _).trans hE).size)) hown (fun x hx=>Nat.lt_trans (Hd.out x (List.mem_of_mem_take (i:=0) (by rw[List.nil_append] at hx;exact hx))) (by decide));rw[List.nil_append,Nat.zero_add] at hG;rw[Nat.zero_add];have HOW:=q_h hown;rw[Nat.zero_add] at HOW;clear hown hgr
    generalize (l.take 0).length=m at *
    go_wp2;exact Zd rfl rfl rfl (((Ext.refl w).alloc _).trans hE) (hE.block (heap_alloc_new _ _)) (q_r) hN hG (by rw[<-HM.out.1];first|rfl|(simp;omega)) HM.out.2 (fun ad h=>Nat.le_of_succ_le (jh HOW.out ad h))
  ·obtain⟨b,off,y,rfl,hb0,g,z0,z1,hy⟩:=h.at_ (k:=k-1) (by omega)
   by_cases hy0:y=0
   ·have HV2:Hid (val (l.drop (k-1))=0):=jo (by rw[hlen.out];omega) (by rw[show k-1+1=k from by omega];exact HV.out) (by rw[List.getD_eq_getElem?_getD];have:=hy.out;omega);subst hy0;go_wp2
    go_round
    case rel=>exact⟨k-1,by omega,by go_num,HV2.out⟩
    case measure=>simp[intOf];omega
   ·have HM:Hid (_/\_):=WS hz.out (jf Hd.out (by rw[hlen.out];omega) HV.out (.inr (by rw[List.getD_eq_getElem?_getD];have:=hy.out;omega))) (by rw[hlen.out];omega);have HG:=q_h (h.take (k:=k) (by omega));have hyb:(y == 0)=false:=by simpa using hy0
    cases neg
    ·go_wp2_with (at_builtin;refine q_o ?_);refine qA (N:=N) rfl (.tmp 25) (.tmp 28) rfl (w.heap.size+1) _ 0 [] rfl (kC _ _ (w.heap.size+1) (by simp) (by simp)) _ (l.take k) rfl (by exact HG.out.ext (((Ext.refl w).alloc _).alloc _)) (by rw[List.length_take];omega) (by simp) ?_;intro A' c' w1 hown hgr;have hE:=((Ext.refl (w.alloc (Obj.cells #[Value.bool false,Value.slice none 0 0] 33))).alloc (Obj.cells #[] 119)).grownAt hgr (by simp);obtain⟨hc1,hf1⟩:=hE.rules (n:=w.heap.size+1) (by simp);have hG:=Gs.of_own (N:=N) (l:=[]++l.take k) (q_l hN ((((Ext.refl w).alloc _).trans hE).size)) hown (fun x hx=>Nat.lt_trans (Hd.out x (List.mem_of_mem_take (i:=k) (by rw[List.nil_append] at hx;exact hx))) (by decide));rw[List.nil_append,Nat.zero_add] at hG;rw[Nat.zero_add];have HOW:=q_h hown;rw[Nat.zero_add] at HOW;clear hown hgr
     generalize (l.take k).length=m at *
     go_wp2;exact Zd rfl rfl rfl (((Ext.refl w).alloc _).trans hE) (hE.block (heap_alloc_new _ _)) (q_r) hN hG (by rw[<-HM.out.1];first|rfl|(simp;omega)) HM.out.2 (fun ad h=>Nat.le_of_succ_le (jh HOW.out ad h))
    ·go_wp2_with (at_builtin;refine q_o ?_);refine qA (N:=N) rfl (.tmp 25) (.tmp 28) rfl (w.heap.size+1) _ 0 [] rfl (kC _ _ (w.heap.size+1) (by simp) (by simp)) _ (l.take k) rfl (by exact HG.out.ext (((Ext.refl w).alloc _).alloc _)) (by rw[List.length_take];omega) (by simp) ?_;intro A' c' w1 hown hgr;have hE:=((Ext.refl (w.alloc (Obj.cells #[Value.bool false,Value.slice none 0 0] 33))).alloc (Obj.cells #[] 119)).grownAt hgr (by simp);obtain⟨hc1,hf1⟩:=hE.rules (n:=w.heap.size+1) (by simp);have hG:=Gs.of_own (N:=N) (l:=[]++l.take k) (q_l hN ((((Ext.refl w).alloc _).trans hE).size)) hown (fun x hx=>Nat.lt_trans (Hd.out x (List.mem_of_mem_take (i:=k) (by rw[List.nil_append] at hx;exact hx))) (by decide));rw[List.nil_append,Nat.zero_add] at hG;rw[Nat.zero_add];have HOW:=q_h hown;rw[Nat.zero_add] at HOW;clear hown hgr
     generalize (l.take k).length=m at *
     go_wp2;exact Zd rfl rfl rfl (((Ext.refl w).alloc _).trans hE) (hE.block (heap_alloc_new _ _)) (q_r) hN hG (by rw[<-HM.out.1];first|rfl|(simp;omega)) HM.out.2 (fun ad h=>Nat.le_of_succ_le (jh HOW.out ad h))
theorem xg{neg:Bool}(h:Gs N w s l) (hd:Dig l) (hL:l.length<=35184372088832) (z:Int) (hz:Hid (z=if neg then -(val l:Int) else (val l:Int))) :
  Calls Tryz.prog 72 #[.bool neg,s] w (Kr N w z):=(WC h hd hL z hz).mono fun _ _ h=>h.ri
theorem wL (z:Int):okB (decide (z<0)) (dg z.natAbs)=true:=by
 unfold okB;have hc:=q0p z.natAbs
 split
 ·rename_i h;rw[zU] at h
  have:¬z<0:=by omega
  simp[this]
 ·have h1:(dg z.natAbs).all (· < bs)=true:=by rw[List.all_eq_true];intro y hy;simpa using hc.1 y hy
  rw[h1,Bool.true_and,bne_iff_ne];exact hc.2
theorem xm(h:zy N w v z) (hL:ln z.natAbs<=35184372088832) :
  Calls Tryz.prog 71 #[v] w (Kr N w z):=by
 obtain⟨s,rfl,hs⟩:=h;have hN:=hs.le;obtain⟨A,n,c,rfl,hlen,h2,h3⟩:=hs.form;have HO:=q_h (wL z);have HL:=q_h hL;unfold ln at HL;clear hL;obtain⟨neg,hneg⟩:=qc (decide (z<0));rw[<-hneg.out] at HO ⊢;obtain⟨l,hl⟩:=qc (dg z.natAbs);rw[<-hl.out] at HO hs hlen HL;go_enter Tryz.func71,Tryz.ntmps71;go_wp2_with (go_at_call 86;refine (XX (by exact hs.ext (((Ext.refl w).alloc _).alloc _))).mono ?_;rintro e w1 ⟨rfl,e1⟩;rw[HO.out];refine q_o ?_);have hE:Ext w w1:=(((Ext.refl w).alloc _).alloc _).trans e1;obtain⟨hc1,hf1⟩:=e1.rules (n:=w.heap.size+2) (by simp);unfold Hid;go_wp2;have b0:w1.cell? ⟨w.heap.size,0,none⟩=some (.bool neg):=by rw[hc1 _ _ (by omega)];simp[go_sem]
 have b1:w1.cell? ⟨w.heap.size,1,none⟩=some (.slice A n c):=by rw[hc1 _ _ (by omega)];simp[go_sem]
 have bg:w1.heap[w.heap.size+1]?=some (.cells #[.bool false,.slice none 0 0] 33 (0,0)):=e1.block (by have:=heap_alloc_new (w.alloc (Obj.cells #[Value.bool neg,Value.slice A n c] 33)) (Obj.cells #[.bool false,.slice none 0 0] 33);simpa using this);have hsz:w.heap.size+2<=w1.heap.size:=by have:=e1.size;simpa using this
 have hs1:=hs.ext hE;clear hc1 hf1 e1
 go_region_held3 (fun w'=>w'.cell? ⟨w.heap.size,0,none⟩=some (.bool neg)/\w'.cell? ⟨w.heap.size,1,none⟩=some (.slice A n c)) (first|exact⟨b0,b1⟩|exact⟨(((Ext.refl w1).drew.alloc _).cell b0),(((Ext.refl w1).drew.alloc _).cell b1)⟩|exact⟨d0,d1⟩|exact⟨cell_far _ (cell_far _ d0 (by omega)) (by omega),cell_far _ (cell_far _ d1 (by omega)) (by omega)⟩)
  (first|(refine Kv (N:=N) rfl (.tmp 9) (.tmp 11) rfl w1.heap.size _ 0 [] rfl (kC _ _ w1.heap.size (by simp) (by simp)) _ l rfl (by exact hs1.ext (((Ext.refl w1).drew).alloc _)) (by have:=HL.out;omega) (by simp) ?_;intro A' c' w2 hown hgr;have e2:=((Ext.refl w1).drew.alloc (Obj.cells #[] 119)).grownAt hgr (by simp);have d0:=e2.cell b0;have d1:=e2.cell b1;have bg2:=e2.block bg;have k0:w2.cell? ⟨w.heap.size+1,0,none⟩=some (.bool false):=qh bg2 0;have k1:w2.cell? ⟨w.heap.size+1,1,none⟩=some (.slice none 0 0):=qh bg2 1;have k2:=qY bg2 0;have k3:=qY bg2 1))
 have hG:=Gs.of_own (N:=N) (l:=[]++l) (q_l hN (hE.trans e2).size) hown (fun x hx=>by rw[List.nil_append,hl.out] at hx;exact Nat.lt_trans (qI _ x hx) (by decide));rw[List.nil_append,Nat.zero_add] at hG;clear hown hgr;go_wp2;exact zC rfl rfl rfl (hE.trans e2) bg2 (by omega) hN hG hneg.out hl.out
theorem q2L:(if (!decide (z<0))=true then -((val (dg z.natAbs):Nat):Int) else ((val (dg z.natAbs):Nat):Int)) = -z:=by
 rw[qC]
 by_cases h:z<0
 ·simp[h];omega
 ·simp[h];omega
theorem q2k(h:zy N w v z) (hL:ln z.natAbs<=35184372088832) :
  Calls Tryz.prog 69 #[v] w (Kr N w (-z)):=by
 have hI:=h;obtain⟨s,rfl,hs⟩:=h;have hN:=hs.le;obtain⟨A,n,c,rfl,hlen,h2,h3⟩:=hs.form;obtain⟨y,hy⟩:=qc (-z);rw[<-hy.out]
 generalize hneg:decide (z<0)=neg at *
 have Hneg:=q_h hneg;clear hneg;have HL:=q_h hL;clear hL;go_enter Tryz.func69,Tryz.ntmps69;go_wp2_with (go_at_call 71;refine q_o ?_);refine (xm (by exact hI.ext (((Ext.refl w).alloc _).alloc _)) HL.out).mono ?_;rintro e w1 ⟨v1,rfl,⟨s1,rfl,h1⟩,e1⟩;rw[Hneg.out];obtain⟨hE,hsz,B0,B1⟩:=q3Z e1;obtain⟨A1,n1,c1,rfl,hlen1,h21,h31⟩:=h1.form;obtain⟨a0,a1,a2,a3⟩:=cells2 B0;clear e1;go_wp2_with (go_at_call 72;refine q_o ?_);refine updC2 B0 ?_;intro w2 B0' U;have B1':=U.blk B1 (by omega);have hE':=U.ext hE (q_r);refine (xg (h1.upd U (by omega) (NoU.mk B0 (by decide))) (qI _) HL.out y (hy.out.trans (by rw[<-Hneg.out];exact q2L.symm))).mono ?_;rintro e w3 ⟨v3,rfl,⟨s3,rfl,h3⟩,e3⟩;obtain⟨A3,n3,c3,rfl,hlen3,h23,h33⟩:=h3.form;obtain⟨a0,a1,a2,a3⟩:=cells2 (e3.block B1');go_wp2;exact zC rfl rfl rfl (hE'.trans e3) (e3.block B1') (by omega) hN h3 rfl rfl
theorem XZ(h:zy N w v z) (hL:ln z.natAbs<=35184372088832) :
  Calls Tryz.prog 68 #[v] w (zH w (.int .i64 z.sign)):=by
 have hI:=h;obtain⟨s,rfl,hs⟩:=h;have hN:=hs.le;obtain⟨A,n,c,rfl,hlen,h2,h3⟩:=hs.form;obtain⟨y,hy⟩:=qc (z.sign);rw[<-hy.out];have HL:=q_h hL;clear hL;go_enter Tryz.func68,Tryz.ntmps68;go_wp2_with (go_at_call 71;refine q_o ?_);refine (xm (by exact hI.ext ((Ext.refl w).alloc _)) HL.out).mono ?_;rintro e w1 ⟨v1,rfl,⟨s1,rfl,h1⟩,e1⟩;obtain⟨hE,hsz,B0⟩:=yU e1;obtain⟨A1,n1,c1,rfl,hlen1,h21,h31⟩:=h1.form;obtain⟨a0,a1,a2,a3⟩:=cells2 B0;clear e1;have hfin:Ext w ((w1.setCell ⟨w.heap.size,0,none⟩ (.bool (decide (z<0)))).setCell ⟨w.heap.size,1,none⟩ (.slice A1 n1 c1)):=(hE.setCell (p:=⟨w.heap.size,0,none⟩) (q_r) _).setCell (p:=⟨w.heap.size,1,none⟩) (q_r) _;have Hfin:=q_h hfin;clear hfin
 rcases Int.lt_trichotomy z 0 with hz|hz|hz
 ·have hb:decide (z<0)=true:=by simpa using hz
  have hn:((n1:Int) == 0)=false:=by
   have:n1≠0:=fun e=>by have h5:=hlen1.out;rw[e] at h5;have:=zU.1 (List.eq_nil_of_length_eq_zero h5);omega
   simpa using this
  have HY:Hid (y = -1):=by rw[Hid,hy.out];exact Int.sign_eq_neg_one_of_neg hz
  generalize decide (z<0)=neg at *
  subst hb;go_wp2;go_ret;exact⟨qJ HY.out.symm,Hfin.out⟩
 ·subst hz;have hn:n1=0:=by have h5:=hlen1.out;rw[<-h5];simp[zO]
  subst hn;have HY:Hid (y=0):=hy.out
  generalize decide ((0:Int)<0)=neg at *
  go_wp2;go_ret;exact⟨qJ HY.out.symm,Hfin.out⟩
 ·have hb:decide (z<0)=false:=by simp;omega
  have hn:((n1:Int) == 0)=false:=by
   have:n1≠0:=fun e=>by have h5:=hlen1.out;rw[e] at h5;have:=zU.1 (List.eq_nil_of_length_eq_zero h5);omega
   simpa using this
  have HY:Hid (y=1):=by rw[Hid,hy.out];exact Int.sign_eq_one_of_pos hz
  generalize decide (z<0)=neg at *
  subst hb;go_wp2;go_ret;exact⟨qJ HY.out.symm,Hfin.out⟩
theorem yP(hN:N<=w.heap.size)(hd:d<4294967296){x:Int}(hx:x=((d:Nat):Int))(hg:w.heap.size=g):Gs N (w.alloc (.cells #[.int .u32 x] 119)) (.slice (some ⟨g,0,none⟩) 1 1) [d]:=by
 subst hg hx;refine⟨by simp;omega,_,1,1,rfl,rfl,q_r,by unfold maxLen;omega,by simpa using hd,fun _=>⟨w.heap.size,0,rfl,⟨by simp,.inr ⟨_,(0,0),heap_alloc_new w _⟩⟩,fun i hi=>?_⟩⟩;obtain rfl:i=0:=by omega
 exact qh (heap_alloc_new w _) 0
theorem xu(h:Gs N w s l) (hd:Dig l) (k:Nat) :
  Calls Tryz.prog 120 #[s,.int .i64 (k:Int)] w fun e w'=>∃z:Int,e=.returned (.int .u64 z)/\0<=z/\z<1000000000/\Hid (z=((l[k]?.getD 0:Nat):Int))/\w=w':=by
 refine (WE h k (by omega)).mono ?_;rintro e w' ⟨rfl,rfl⟩;rw[Int.toNat_natCast];refine⟨_,rfl,by omega,?_,rfl,rfl⟩;have:=hd.get k;unfold bs at this;omega
def q8b (N:Nat) (w:World) (a b:List Nat) (v c i:Value) (wr:World):Prop :=
 ∃(k:Nat) (cz:Int) (A':Option Addr) (c':Nat) (xs:List Nat),k<=max a.length b.length/\i=.int .i64 k/\c=.int .u64 cz/\0<=cz/\cz<=1/\v=.slice A' k c' /\
  wr.ownsRow w.heap.size 119 1 (.slice A' k c') k (xs.map vG)/\Dig xs/\val xs+bs ^ k*cz.toNat=val (a.take k)+val (b.take k)/\Ext w wr
theorem q73{t:Value}{a b:List Nat}(h:Gs N w s a) (h':Gs N w t b) (ha:Dig a) (hb:Dig b) (hL:a.length<=35184372088824) (hL':b.length<=35184372088824) :
  Calls Tryz.prog 73 #[s,t] w (q1t N w (val a+val b)):=by
 obtain⟨r,hr⟩:=qc (val a+val b);rw[<-hr.out];have hN:=h.le;obtain⟨A,n,c,rfl,hlen,h2,h3⟩:=h.form;obtain⟨B,m,d,rfl,hlen',h2',h3'⟩:=h'.form;rw[hlen.out] at hL;rw[hlen'.out] at hL';go_enter Tryz.func73,Tryz.ntmps73;go_wp2
 go_loopw [5,6,7] (fun v c i wr=>q8b N w a b v c i wr) (fun _ _ i _=>max n m-(intOf i).toNat)
 case atStart=>exact⟨0,0,_,_,[],Nat.zero_le _,rfl,rfl,by omega,by omega,rfl,kC _ _ _ rfl (q_r),Dig.nil,by simp[val],(Ext.refl w).alloc _⟩
 case round =>
  obtain⟨k,cz,A',c',xs,hk,rfl,rfl,hc0,hc1,rfl,hown,hxs,hv,hE⟩:=hrel;rw[hlen.out,hlen'.out] at hk;have HV:=q_h hv;have HX:=q_h hxs;have HO:=q_h hown;clear hv hxs hown;have HW:Hid (N<=wr.heap.size):=q_l hN hE.size
  by_cases hlt:k<max n m
  ·by_cases hkn:k<n
   ·have t1:decide (k<n)=true:=by simpa using hkn
    go_wp2_with (go_at_call 120;refine q_o ?_);refine (xu (h.ext hE) ha k).mono ?_;rintro e w' ⟨za,rfl,za0,za1,hza,rfl⟩;go_wp2_with (go_at_call 120;refine q_o ?_);refine (xu (h'.ext hE) hb k).mono ?_;rintro e w' ⟨zb,rfl,zb0,zb1,hzb,rfl⟩;go_wp2_with (at_builtin;refine q_o ?_);refine qA (N:=N) rfl (.tmp 31) (.tmp 35) rfl w.heap.size _ k xs rfl (HO.out.alloc _) _ [((za+zb+cz) % 1000000000).toNat] rfl (yP HW.out (by omega) (by omega) rfl) (by simp;omega) (by have:=hE.size;simp;omega) ?_;intro A2 c2 w2 hown2 hgr;have hE2:Ext w w2:=(hE.alloc _).own hgr (HO.out.alloc _) (q_r)
    have HR:Hid (val (xs ++ [((za+zb+cz) % 1000000000).toNat])+bs ^ (k+1)*((za+zb+cz) / 1000000000).toNat=val (a.take (k+1))+val (b.take (k+1))):=by
     rw[Hid,xG,qx,qx,show xs.length=k from by simpa using HO.out.1];refine ZC (q:=((za+zb+cz) / 1000000000).toNat) HV.out ?_ rfl;have e1:=hza.out;have e2:=hzb.out;unfold bs;omega
    have HX2:Hid (Dig (xs ++ [((za+zb+cz) % 1000000000).toNat])):=HX.out.append (Dig.mk (by unfold bs;omega) Dig.nil);have HO2:=q_h hown2;clear hown2 hgr;have HE2:=q_h hE2;clear hE2
    generalize ((za+zb+cz) % 1000000000).toNat=dd at *
    obtain⟨q,hq⟩:=qc ((za+zb+cz) / 1000000000);have q0:0<=q:=by rw[hq.out];omega
    have q1:q<=1:=by rw[hq.out];omega
    go_wp2;go_roundw
    case rel=>exact⟨k+1,(za+zb+cz) / 1000000000,A2,c2,_,by rw[hlen.out,hlen'.out];omega,by go_num,rfl,by omega,by omega,rfl,HO2.out,HX2.out,HR.out,HE2.out⟩
    case measure=>simp[intOf];omega
   ·have t1:decide (k<n)=false:=by simpa using hkn
    have t2:decide (k<m)=true:=by simp;omega
    go_wp2_with (go_at_call 120;refine q_o ?_);refine (xu (h.ext hE) ha k).mono ?_;rintro e w' ⟨za,rfl,za0,za1,hza,rfl⟩;go_wp2_with (go_at_call 120;refine q_o ?_);refine (xu (h'.ext hE) hb k).mono ?_;rintro e w' ⟨zb,rfl,zb0,zb1,hzb,rfl⟩;go_wp2_with (at_builtin;refine q_o ?_);refine qA (N:=N) rfl (.tmp 31) (.tmp 35) rfl w.heap.size _ k xs rfl (HO.out.alloc _) _ [((za+zb+cz) % 1000000000).toNat] rfl (yP HW.out (by omega) (by omega) rfl) (by simp;omega) (by have:=hE.size;simp;omega) ?_;intro A2 c2 w2 hown2 hgr;have hE2:Ext w w2:=(hE.alloc _).own hgr (HO.out.alloc _) (q_r)
    have HR:Hid (val (xs ++ [((za+zb+cz) % 1000000000).toNat])+bs ^ (k+1)*((za+zb+cz) / 1000000000).toNat=val (a.take (k+1))+val (b.take (k+1))):=by
     rw[Hid,xG,qx,qx,show xs.length=k from by simpa using HO.out.1];refine ZC (q:=((za+zb+cz) / 1000000000).toNat) HV.out ?_ rfl;have e1:=hza.out;have e2:=hzb.out;unfold bs;omega
    have HX2:Hid (Dig (xs ++ [((za+zb+cz) % 1000000000).toNat])):=HX.out.append (Dig.mk (by unfold bs;omega) Dig.nil);have HO2:=q_h hown2;clear hown2 hgr;have HE2:=q_h hE2;clear hE2
    generalize ((za+zb+cz) % 1000000000).toNat=dd at *
    obtain⟨q,hq⟩:=qc ((za+zb+cz) / 1000000000);have q0:0<=q:=by rw[hq.out];omega
    have q1:q<=1:=by rw[hq.out];omega
    go_wp2;go_roundw
    case rel=>exact⟨k+1,(za+zb+cz) / 1000000000,A2,c2,_,by rw[hlen.out,hlen'.out];omega,by go_num,rfl,by omega,by omega,rfl,HO2.out,HX2.out,HR.out,HE2.out⟩
    case measure=>simp[intOf];omega
  ·have t1:decide (k<n)=false:=by simp;omega
   have t2:decide (k<m)=false:=by simp;omega
   have HF:Hid (val (xs ++ [cz.toNat])=r):=by
    have:=HV.out;rw[qG (by rw[hlen.out];omega),qG (by rw[hlen'.out];omega)] at this;rw[Hid,xG,hr.out,<-this,show xs.length=k from by simpa using HO.out.1]
   go_wp2_with (at_builtin;refine q_o ?_);refine qA (N:=N) rfl (.tmp 39) (.tmp 42) rfl w.heap.size _ k xs rfl (HO.out.alloc _) _ [cz.toNat] rfl (yP HW.out (by omega) (by omega) rfl) (by simp;omega) (by have:=hE.size;simp;omega) ?_;intro A2 c2 w2 hown2 hgr;have hE2:Ext w w2:=(hE.alloc _).own hgr (HO.out.alloc _) (q_r);have hG:=Gs.of_own (N:=N) (q_l hN hE2.size) hown2 (fun x hx=>Nat.lt_trans (HX.out.append (Dig.mk (by unfold bs;omega) Dig.nil) x hx) (by decide));clear hgr hown2;go_wp2_with (go_at_call 72;refine q_o ?_);refine (xg hG (HX.out.append (Dig.mk (by unfold bs;omega) Dig.nil)) (by rw[List.length_append,show xs.length=k from by simpa using HO.out.1];simp;omega) (r:Int) (by rw[HF.out];rfl)).mono ?_;rintro e w3 ⟨v3,rfl,⟨s3,rfl,h3⟩,e3⟩;obtain⟨A3,n3,c3,rfl,hlen3,-,-⟩:=h3.form
   generalize decide ((r:Int)<0)=nb
   have hfl:=fun w=>q4a (.bool nb) (.slice A3 n3 c3) w
   go_wp2;go_ret;exact⟨_,rfl,h3,hE2.trans e3⟩
def q5Y (N:Nat) (w:World) (a b:List Nat) (v c i:Value) (wr:World):Prop :=
 ∃(k:Nat) (cz:Int) (A':Option Addr) (c':Nat) (xs:List Nat),k<=a.length/\i=.int .i64 k/\c=.int .u64 cz/\0<=cz/\cz<=1/\v=.slice A' k c' /\
  wr.ownsRow w.heap.size 119 1 (.slice A' k c') k (xs.map vG)/\Dig xs/\val (a.take k)+bs ^ k*cz.toNat=val xs+val (b.take k)/\Ext w wr
theorem Yl{t:Value}{a b:List Nat}(h:Gs N w s a) (h':Gs N w t b) (ha:Dig a) (hb:Dig b) (hL:a.length<=35184372088824) (hle:val b<=val a) :
  Calls Tryz.prog 75 #[s,t] w (QX N w (val a-val b)):=by
 obtain⟨r,hr⟩:=qc (val a-val b);rw[<-hr.out];have hN:=h.le;obtain⟨A,n,c,rfl,hlen,h2,h3⟩:=h.form;obtain⟨B,m,d,rfl,hlen',h2',h3'⟩:=h'.form;rw[hlen.out] at hL;have Hle:=q_h hle;clear hle;go_enter Tryz.func75,Tryz.ntmps75;go_wp2
 go_loopw [5,6,7] (fun v c i wr=>q5Y N w a b v c i wr) (fun _ _ i _=>n-(intOf i).toNat)
 case atStart=>exact⟨0,0,_,_,[],Nat.zero_le _,rfl,rfl,by omega,by omega,rfl,kC _ _ _ rfl (q_r),Dig.nil,by simp[val],(Ext.refl w).alloc _⟩
 case round =>
  obtain⟨k,cz,A',c',xs,hk,rfl,rfl,hc0,hc1,rfl,hown,hxs,hv,hE⟩:=hrel;rw[hlen.out] at hk;have HV:=q_h hv;have HX:=q_h hxs;have HO:=q_h hown;clear hv hxs hown;have HW:Hid (N<=wr.heap.size):=q_l hN hE.size
  by_cases hlt:k<n
  ·go_wp2_with (go_at_call 120;refine q_o ?_);refine (xu (h.ext hE) ha k).mono ?_;rintro e w' ⟨za,rfl,za0,za1,hza,rfl⟩;go_wp2_with (go_at_call 120;refine q_o ?_);refine (xu (h'.ext hE) hb k).mono ?_;rintro e w' ⟨zb,rfl,zb0,zb1,hzb,rfl⟩;go_wp2_with (at_builtin;refine q_o ?_);refine qA (N:=N) rfl (.tmp 26) (.tmp 30) rfl w.heap.size _ k xs rfl (HO.out.alloc _) _ [((1000000000+za-zb-cz) % 1000000000).toNat] rfl (yP HW.out (by omega) (by omega) rfl) (by simp;omega) (by have:=hE.size;simp;omega) ?_;intro A2 c2 w2 hown2 hgr;have hE2:Ext w w2:=(hE.alloc _).own hgr (HO.out.alloc _) (q_r)
   have HR:Hid (val (a.take (k+1))+bs ^ (k+1)*(1-(1000000000+za-zb-cz) / 1000000000).toNat=val (xs ++ [((1000000000+za-zb-cz) % 1000000000).toNat])+val (b.take (k+1))):=by
    rw[Hid,xG,qx,qx,show xs.length=k from by simpa using HO.out.1];refine Xf HV.out ?_;have e1:=hza.out;have e2:=hzb.out;unfold bs;omega
   have HX2:Hid (Dig (xs ++ [((1000000000+za-zb-cz) % 1000000000).toNat])):=HX.out.append (Dig.mk (by unfold bs;omega) Dig.nil);have HO2:=q_h hown2;clear hown2 hgr;have HE2:=q_h hE2;clear hE2
   generalize ((1000000000+za-zb-cz) % 1000000000).toNat=dd at *
   go_wp2;go_roundw
   case rel=>exact⟨k+1,1-(1000000000+za-zb-cz) / 1000000000,A2,c2,_,by rw[hlen.out];omega,by go_num,rfl,by omega,by omega,rfl,HO2.out,HX2.out,HR.out,HE2.out⟩
   case measure=>simp[intOf];omega
  ·obtain rfl:k=n:=by omega
   have HF:Hid (val xs=r):=by
    rw[Hid,hr.out];exact Yx ha HX.out hlen.out (by simpa using HO.out.1) Hle.out HV.out
   have hG:=Gs.of_own (N:=N) HW.out HO.out (fun x hx=>Nat.lt_trans (HX.out x hx) (by decide));go_wp2_with (go_at_call 72;refine q_o ?_);refine (WC hG HX.out (by rw[show xs.length=k from by simpa using HO.out.1];omega) (r:Int) (by rw[HF.out];rfl)).mono ?_;rintro e w3 ⟨nb,A3,n3,c3,rfl,-,h3,e3,hF⟩;have hfl:=fun w=>q4a (.bool nb) (.slice A3 n3 c3) w
   go_wp2;go_ret;exact⟨_,_,_,rfl,h3,hE.trans e3,fun ad h=>q_l hE.size (hF.out ad h)⟩
theorem q4L{t:Value}{a b:List Nat}(h:Gs N w s a) (h':Gs N w t b) (ha:Dig a) (hb:Dig b) (hL:a.length<=35184372088824) (hle:val b<=val a) :
  Calls Tryz.prog 75 #[s,t] w (q1t N w (val a-val b)):=(Yl h h' ha hb hL hle).mono fun _ _ h=>h.rm
def q42 (N:Nat) (w:World) (a:List Nat) (D:Nat) (v c i:Value) (wr:World):Prop :=
 ∃(k:Nat) (cz:Int) (A':Option Addr) (c':Nat) (xs:List Nat),k<=a.length/\i=.int .i64 k/\c=.int .u64 cz/\0<=cz/\cz<=999999999/\v=.slice A' k c' /\
  wr.ownsRow w.heap.size 119 1 (.slice A' k c') k (xs.map vG)/\Dig xs/\val xs+bs ^ k*cz.toNat=val (a.take k)*D/\Ext w wr
theorem q2i{a:List Nat}(h:Gs N w s a) (ha:Dig a) (hL:a.length<=35184372088824) (dz:Int) (d0:0<=dz) (d1:dz<=1000000000) :
  Calls Tryz.prog 150 #[s,.int .u64 dz] w (q1t N w (val a*dz.toNat)):=by
 obtain⟨r,hr⟩:=qc (val a*dz.toNat);rw[<-hr.out];have hN:=h.le;obtain⟨A,n,c,rfl,hlen,h2,h3⟩:=h.form;rw[hlen.out] at hL;go_enter Tryz.func150,Tryz.ntmps150;go_wp2
 go_loopw [5,6,7] (fun v c i wr=>q42 N w a dz.toNat v c i wr) (fun _ _ i _=>n-(intOf i).toNat)
 case atStart=>exact⟨0,0,_,_,[],Nat.zero_le _,rfl,rfl,by omega,by omega,rfl,kC _ _ _ rfl (q_r),Dig.nil,by simp[val],(Ext.refl w).alloc _⟩
 case round =>
  obtain⟨k,cz,A',c',xs,hk,rfl,rfl,hc0,hc1,rfl,hown,hxs,hv,hE⟩:=hrel;rw[hlen.out] at hk;have HV:=q_h hv;have HX:=q_h hxs;have HO:=q_h hown;clear hv hxs hown;have HW:Hid (N<=wr.heap.size):=q_l hN hE.size
  by_cases hlt:k<n
  ·obtain⟨b,off,za,rfl,hb0,g,za0,za2,hza⟩:=(h.ext hE).at_ hlt;have za1:za<1000000000:=by have:=ha.get k;unfold bs at this;have:=hza.out;omega
   have p0:0<=za*dz:=Int.mul_nonneg za0 d0;have p1:za*dz<=999999999*1000000000:=Int.mul_le_mul (by omega) d1 d0 (by omega);have HP:Hid ((za*dz).toNat=za.toNat*dz.toNat):=Int.toNat_mul za0 d0;obtain⟨pz,hpz⟩:=qc (za*dz);have pz0:0<=pz:=by rw[hpz.out];exact p0
   have pz1:pz<=999999999000000000:=by rw[hpz.out];omega
   go_wp2_with (at_builtin;refine q_o ?_);rw[<-hpz.out];refine qA (N:=N) rfl (.tmp 25) (.tmp 29) rfl w.heap.size _ k xs rfl (HO.out.alloc _) _ [((pz+cz) % 1000000000).toNat] rfl (yP HW.out (by omega) (by omega) rfl) (by simp;omega) (by have:=hE.size;simp;omega) ?_;intro A2 c2 w2 hown2 hgr;have hE2:Ext w w2:=(hE.alloc _).own hgr (HO.out.alloc _) (q_r)
   have HR:Hid (val (xs ++ [((pz+cz) % 1000000000).toNat])+bs ^ (k+1)*((pz+cz) / 1000000000).toNat=val (a.take (k+1))*dz.toNat):=by
    rw[Hid,xG,qx,show xs.length=k from by simpa using HO.out.1];refine Vf HV.out ?_;have e1:=hza.out;have e2:=hpz.out;have e3:=HP.out;rw[show a[k]?.getD 0=za.toNat from by omega,<-e3,<-e2];unfold bs;omega
   have HX2:Hid (Dig (xs ++ [((pz+cz) % 1000000000).toNat])):=HX.out.append (Dig.mk (by unfold bs;omega) Dig.nil);have HO2:=q_h hown2;clear hown2 hgr;have HE2:=q_h hE2;clear hE2 p0 p1
   generalize ((pz+cz) % 1000000000).toNat=dd at *
   go_wp2;go_roundw
   case rel=>exact⟨k+1,(pz+cz) / 1000000000,A2,c2,_,by rw[hlen.out];omega,by go_num,rfl,by omega,by omega,rfl,HO2.out,HX2.out,HR.out,HE2.out⟩
   case measure=>simp[intOf];omega
  ·obtain rfl:k=n:=by omega
   have HF:Hid (val (xs ++ [cz.toNat])=r):=by
    have:=HV.out;rw[qG (by rw[hlen.out];omega)] at this;rw[Hid,xG,hr.out,<-this,show xs.length=k from by simpa using HO.out.1]
   go_wp2_with (at_builtin;refine q_o ?_);refine qA (N:=N) rfl (.tmp 33) (.tmp 36) rfl w.heap.size _ k xs rfl (HO.out.alloc _) _ [cz.toNat] rfl (yP HW.out (by omega) (by omega) rfl) (by simp;omega) (by have:=hE.size;simp;omega) ?_;intro A2 c2 w2 hown2 hgr;have hE2:Ext w w2:=(hE.alloc _).own hgr (HO.out.alloc _) (q_r);have hG:=Gs.of_own (N:=N) (q_l hN hE2.size) hown2 (fun x hx=>Nat.lt_trans (HX.out.append (Dig.mk (by unfold bs;omega) Dig.nil) x hx) (by decide));clear hgr hown2;go_wp2_with (go_at_call 72;refine q_o ?_);refine (xg hG (HX.out.append (Dig.mk (by unfold bs;omega) Dig.nil)) (by rw[List.length_append,show xs.length=k from by simpa using HO.out.1];simp;omega) (r:Int) (by rw[HF.out];rfl)).mono ?_;rintro e w3 ⟨v3,rfl,⟨s3,rfl,h3⟩,e3⟩;obtain⟨A3,n3,c3,rfl,hlen3,-,-⟩:=h3.form
   generalize decide ((r:Int)<0)=nb
   have hfl:=fun w=>q4a (.bool nb) (.slice A3 n3 c3) w
   go_wp2;go_ret;exact⟨_,rfl,h3,hE2.trans e3⟩
theorem q7a (w:World) (base g:Nat) (hg:w.heap.size=g) (hb:base<=g){x:Int}(hx:x=((d:Nat):Int)):(w.alloc (.cells #[.int .u32 x] 119)).ownsRow base 119 1 (.slice (some ⟨g,0,none⟩) 1 1) 1 ([d].map vG):=by
 subst hg hx;exact⟨rfl,.inr ⟨w.heap.size,1,#[_],rfl,hb,heap_alloc_new w _,q_r,by unfold maxLen;omega,rfl,rfl⟩⟩
theorem q0Q{a:List Nat}(h:Gs N w s a) (ha:Dig a) (hL:a.length<=35184372088824) (dz:Int) (d0:0<=dz) (d1:dz<1000000000) :
  Calls Tryz.prog 151 #[s,.int .u32 dz] w (q1t N w (dz.toNat+bs*val a)):=by
 obtain⟨r,hr⟩:=qc (dz.toNat+bs*val a);rw[<-hr.out];have hN:=h.le;obtain⟨A,n,c,rfl,hlen,h2,h3⟩:=h.form;rw[hlen.out] at hL;go_enter Tryz.func151,Tryz.ntmps151;go_wp2_with (at_builtin;refine q_o ?_);refine qA (N:=N) rfl (.tmp 6) (.tmp 7) rfl w.heap.size _ 1 [dz.toNat] rfl (q7a w w.heap.size w.heap.size rfl (q_r) (by omega)) _ a rfl (h.ext ((Ext.refl w).alloc _)) (by rw[hlen.out];omega) (by simp) ?_;intro A2 c2 w2 hown2 hgr;have hE2:Ext w w2:=((Ext.refl w).alloc _).grownAt hgr (q_r);have hD:Dig ([dz.toNat]++a):=(Dig.mk (by unfold bs;omega) Dig.nil).append ha;have hG:=Gs.of_own (N:=N) (q_l hN hE2.size) hown2 (fun x hx=>Nat.lt_trans (hD x hx) (by decide));clear hgr hown2;go_wp2_with (go_at_call 72;refine q_o ?_);refine (xg hG hD (by simp[hlen.out];omega) (r:Int) (by rw[hr.out];rfl)).mono ?_;rintro e w3 ⟨v3,rfl,⟨s3,rfl,h3⟩,e3⟩;obtain⟨A3,n3,c3,rfl,hlen3,-,-⟩:=h3.form
 generalize decide ((r:Int)<0)=nb
 have hfl:=fun w=>q4a (.bool nb) (.slice A3 n3 c3) w
 go_wp2;go_ret;exact⟨_,rfl,h3,hE2.trans e3⟩
end
end Go.Proofs.YtflhlobiipejeaaGreat
