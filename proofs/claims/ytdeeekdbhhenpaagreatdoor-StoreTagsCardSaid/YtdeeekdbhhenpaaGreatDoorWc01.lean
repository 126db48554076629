import Derived.Test.YtdeeekdbhhenpaaGreatDoorProg
import Derived.WalkKit
import Derived.WalkSpells
import Derived.WalkLawsBesides
import Derived.Lib.Hide
import Derived.Deep.RegionHeld3
import Derived.Deep.QuietTactic
import Derived.BigQuiet
import Derived.Maps.AppendAt
import Derived.Lib.ItoaMem
import Derived.Lib.AtoiTie
import Derived.Deep.DeepMust
set_option linter.all false
set_option maxHeartbeats 8000000
namespace Go.Proofs.YtdeeekdbhhenpaaGreatDoor
variable {w w':World} {N n k g i base c b d:Nat} {v s:Value} {l:List Nat} {z:Int} {A:Option Addr}
section
abbrev q_m:=Nat->Nat->Rat
abbrev q_v:=Nat->Rat
def bs:Nat:=1000000000
theorem yV:0<bs:=by decide
def val:List Nat->Nat
 | []=>0
 | x :: l=>x+bs*val l
def Dig (l:List Nat):Prop:=∀x∈l,x<bs
theorem Dig.nil:Dig []:=fun _ h=>by cases h
theorem Dig.cons {x:Nat}(h:Dig (x :: l)):x<bs/\Dig l:=⟨h x (by simp),fun y hy=>h y (by simp[hy])⟩
theorem Dig.mk {x:Nat}(hx:x<bs) (h:Dig l):Dig (x :: l):=by
 intro y hy
 rcases List.mem_cons.1 hy with rfl|hy
 ·exact hx
 ·exact h y hy
theorem Dig.append {a b:List Nat}(ha:Dig a) (hb:Dig b):Dig (a++b):=by
 intro x hx
 rcases List.mem_append.1 hx with h|h
 ·exact ha x h
 ·exact hb x h
theorem Dig.left {a b:List Nat}(h:Dig (a++b)):Dig a:=fun x hx=>h x (by simp[hx])
theorem Dig.take(h:Dig l) (k:Nat):Dig (l.take k):=fun x hx=>h x (List.mem_of_mem_take hx)
theorem Dig.getD(h:Dig l) (k:Nat):l.getD k 0<bs:=by
 rw[List.getD_eq_getElem?_getD]
 rcases Nat.lt_or_ge k l.length with hk|hk
 ·rw[List.getElem?_eq_getElem hk];exact h _ (List.getElem_mem hk)
 ·rw[List.getElem?_eq_none hk];exact yV
theorem Dig.get(h:Dig l) (k:Nat):l[k]?.getD 0<bs:=by
 have:=h.getD k;rwa [List.getD_eq_getElem?_getD] at this
theorem val_append (a b:List Nat):val (a++b)=val a+bs ^ a.length*val b:=by
 induction a with
 | nil=>simp[val]
 | cons x a ih =>
  simp only[List.cons_append,val,ih,List.length_cons,Nat.pow_succ,Nat.mul_add];rw[Nat.add_assoc,Nat.mul_comm (bs ^ a.length) bs,Nat.mul_assoc]
theorem XM (a:List Nat) (x:Nat):val (a ++ [x])=val a+bs ^ a.length*x:=by
 rw[val_append];simp[val]
theorem q2f(h:Dig l):val l<bs ^ l.length:=by
 induction l with
 | nil=>simp[val]
 | cons x l ih =>
  obtain⟨hx,hl⟩:=h.cons;have h1:=ih hl;simp only[val,List.length_cons,Nat.pow_succ];have h2:bs*(val l+1)<=bs*bs ^ l.length:=Nat.mul_le_mul_left bs h1;rw[Nat.mul_add] at h2;rw[Nat.mul_comm (bs ^ l.length) bs];omega
theorem XN(hk:k<l.length):val (l.drop k)=l[k]+bs*val (l.drop (k+1)):=by
 rw[List.drop_eq_getElem_cons hk];rfl
theorem Yn (l:List Nat) (k:Nat):val l=val (l.take k)+bs ^ (min k l.length)*val (l.drop k):=by
 conv=>lhs;rw[<-List.take_append_drop k l]
 rw[val_append,List.length_take]
def dg (n:Nat):List Nat:=if _h:n=0 then [] else (n % bs) :: dg (n / bs)
termination_by n
decreasing_by exact Nat.div_lt_self (by omega) (by decide)
theorem zW:dg 0=[]:=by rw[dg];simp
theorem KN(h:n≠0):dg n=(n % bs) :: dg (n / bs):=by rw[dg];simp[h]
theorem vY (n:Nat):val (dg n)=n:=by
 induction n using Nat.strongRecOn with
 | ind n ih =>
  by_cases h:n=0
  ·subst h;rw[zW];rfl
  ·rw[KN h,val,ih _ (Nat.div_lt_self (by omega) (by decide))];exact Nat.mod_add_div n bs
theorem KL (n:Nat):Dig (dg n):=by
 induction n using Nat.strongRecOn with
 | ind n ih =>
  by_cases h:n=0
  ·subst h;rw[zW];exact Dig.nil
  ·rw[KN h];exact Dig.mk (Nat.mod_lt _ yV) (ih _ (Nat.div_lt_self (by omega) (by decide)))
def Canon (l:List Nat):Prop:=Dig l/\l.getLast?≠some 0
theorem Canon.tail {x:Nat}(h:Canon (x :: l)):Canon l:=by
 refine⟨h.1.cons.2,fun hl=>h.2 ?_⟩;rw[List.getLast?_cons,hl];rfl
theorem Canon.val_pos(h:Canon l) (hl:l≠[]):val l≠0:=by
 induction l with
 | nil=>exact absurd rfl hl
 | cons x l ih =>
  by_cases e:l=[]
  ·subst e;have:=h.2;simp at this
   simp[val];omega
  ·have:=ih h.tail e;have h2:0<bs*val l:=Nat.mul_pos yV (by omega);simp only[val];omega
theorem Canon.eq_dg(h:Canon l):l=dg (val l):=by
 induction l with
 | nil=>rw[val,zW]
 | cons x l ih =>
  have hv:=h.val_pos (by simp);rw[KN hv];obtain⟨hx,_⟩:=h.1.cons
  have e1:val (x :: l) % bs=x:=by
   rw[val,Nat.add_mul_mod_self_left,Nat.mod_eq_of_lt hx]
  have e2:val (x :: l) / bs=val l:=by
   rw[val,Nat.add_mul_div_left _ _ yV,Nat.div_eq_of_lt hx];omega
  rw[e1,e2,<-ih h.tail]
theorem jf:dg n=[]↔n=0:=by
 constructor
 ·intro h;have:=vY n;rw[h] at this;exact this.symm
 ·rintro rfl;exact zW
theorem Jy (n:Nat):Canon (dg n):=by
 refine⟨KL n,?_⟩
 induction n using Nat.strongRecOn with
 | ind n ih =>
  by_cases h:n=0
  ·subst h;rw[zW];simp
  ·rw[KN h,List.getLast?_cons]
   by_cases e:n / bs=0
   ·rw[e,zW];have:n % bs=n:=Nat.mod_eq_of_lt (by rcases Nat.lt_or_ge n bs with h1|h1;exact h1;have:=Nat.div_pos h1 yV;omega);simp[this,h]
   ·have h1:=ih _ (Nat.div_lt_self (by omega) (by decide:1<bs));cases hl:(dg (n / bs)).getLast? with
    | none=>rw[List.getLast?_eq_none_iff,jf] at hl;exact absurd hl e
    | some y=>rw[hl] at h1;simpa using h1
def ln (n:Nat):Nat:=(dg n).length
theorem Z7:ln 0=0:=by unfold ln;rw[zW];rfl
theorem Canon.pow_le(h:Canon l) (hl:l≠[]):bs ^ (l.length-1)<=val l:=by
 induction l with
 | nil=>exact absurd rfl hl
 | cons x l ih =>
  by_cases e:l=[]
  ·subst e;have:=h.2;simp at this
   simp[val];omega
  ·have h1:=ih h.tail e;have hp:0<l.length:=List.length_pos_iff.2 e;obtain⟨k,hk⟩:∃k,l.length=k+1:=⟨l.length-1,by omega⟩
   rw[hk] at h1;simp only[val,List.length_cons,hk,Nat.add_sub_cancel] at *;rw[Nat.pow_succ,Nat.mul_comm];have:=Nat.mul_le_mul_left bs h1;omega
theorem YU(h:n≠0):bs ^ (ln n-1)<=n:=by
 have:=(Jy n).pow_le (fun e=>h (jf.1 e));rwa [vY] at this
theorem Xj(h:n<bs ^ k):ln n<=k:=by
 by_cases e:n=0
 ·subst e;rw[Z7];omega
 ·have h1:=YU e;have h2:bs ^ (ln n-1)<bs ^ k:=Nat.lt_of_le_of_lt h1 h;have:=(Nat.pow_lt_pow_iff_right (by decide:1<bs)).1 h2;omega
theorem kU(h:Dig l)(hk:k<=l.length) (hz:val (l.drop k)=0) (hl:k=0\/l.getD (k-1) 0≠0):l.take k=dg (val l):=by
 have hc:Canon (l.take k):=by
  refine⟨h.take k,?_⟩
  rcases hl with rfl|hl
  ·simp
  ·by_cases k0:k=0
   ·subst k0;simp
   ·rw[List.getLast?_eq_getElem?,List.length_take,Nat.min_eq_left hk,List.getElem?_take];rw[if_pos (by omega)];rw[List.getD_eq_getElem?_getD] at hl;intro e;rw[e] at hl;exact hl rfl
 have hv:val (l.take k)=val l:=by rw[Yn l k,hz];simp
 rw[<-hv];exact hc.eq_dg
theorem xg(hk:k<l.length) (hz:val (l.drop (k+1))=0) (h0:l.getD k 0=0):val (l.drop k)=0:=by
 rw[XN hk,hz];rw[List.getD_eq_getElem?_getD,List.getElem?_eq_getElem hk] at h0;simpa using h0
theorem KA(h:k<l.length):l[k]=l[k]?.getD 0:=by rw[List.getElem?_eq_getElem h];rfl
end
section
open Go.RowKit
abbrev q_a:=Option Addr
theorem q_o {p:Prop}(h:Hid p):p:=h.out
theorem q_h {p:Prop}(h:p):Hid p:=h
theorem q_f {p:Prop} [Decidable p] (h:¬p):decide p=false:=decide_eq_false h
theorem q_t {p:Prop} [Decidable p] (h:p):decide p=true:=decide_eq_true h
theorem q_l {a:Nat}(h:a<=b) (h':b<=c):a<=c:=Nat.le_trans h h'
theorem q_r {a:Nat}:a<=a:=Nat.le_refl a
def Ext (w w':World):Prop:=Below w.heap.size w w'
theorem Ext.below(h:Ext w w'):Below w.heap.size w w':=h
theorem Ext.size(h:Ext w w'):w.heap.size<=w'.heap.size:=Below.size h
theorem Ext.refl (w:World):Ext w w:=Below.refl _ _
theorem Ext.trans {a b c:World}(h:Ext a b) (k:Ext b c):Ext a c:=Below.trans h (Below.mono k h.size)
theorem Ext.drew {a b:World}(h:Ext a b):Ext a b.drew:=Below.drew h
theorem Ext.drewN {a b:World}(h:Ext a b) (n:Nat):Ext a (b.drewN n):=by
 have h':Below a.heap.size a b:=h;exact⟨h'.os,h'.tape,h'.output,h'.size,h'.block⟩
theorem Ext.of_drew {a b:World}(h:Ext a.drew b):Ext a b:=by
 have h':Below a.drew.heap.size a.drew b:=h;exact⟨h'.os,h'.tape,h'.output,h'.size,h'.block⟩
theorem Ext.alloc {a b:World}(h:Ext a b) (o:Obj):Ext a (b.alloc o):=Below.alloc h h.size o
theorem Ext.setCell {a b:World}(h:Ext a b){p:Addr}(hp:a.heap.size<=p.block) (u:Value):Ext a (b.setCell p u):=Below.setCell h hp u
theorem Ext.grown {a b c:World}{row:Option Nat}(h:Ext a b) (hg:b.grownBy c row) (hr:∀k,row=some k->a.heap.size<=k):Ext a c :=
 Below.grown h hg h.size hr
theorem Ext.own {a b c:World}(h:Ext a b) (hg:b.grownBy c v.ownBlock){e:TypeId}{size:Nat}{xs:List Value}(ho:b.ownsRow base e size v n xs) (hb:a.heap.size<=base):Ext a c:=by
 refine h.grown hg (fun k hk=>?_)
 rcases ho.2 with ⟨rfl,_⟩|⟨g,cap,cur,rfl,hbg,_⟩
 ·cases hk
 ·simp only[Value.ownBlock,Option.some.injEq] at hk;omega
theorem Ext.grownAt {a b c:World}{cc:Nat}(h:Ext a b) (hg:b.grownBy c (Value.slice (some ⟨g,0,none⟩) k cc).ownBlock) (hb:a.heap.size<=g):Ext a c :=
 h.grown hg (fun i hi=>by simp only[Value.ownBlock,Option.some.injEq] at hi;omega)
theorem Ext.cell(h:Ext w w'){p:Addr}(hc:w.cell? p=some v):w'.cell? p=some v:=by
 by_cases hp:p.block<w.heap.size
 ·rw[Below.cell h hp];exact hc
 ·simp only[World.cell?] at hc;rw[Array.getElem?_eq_none (by omega)] at hc;cases hc
theorem Ext.block(h:Ext w w'){o:Obj}(hk:w.heap[k]?=some o):w'.heap[k]?=some o:=by
 by_cases hp:k<w.heap.size
 ·rw[Below.block h k hp];exact hk
 ·rw[Array.getElem?_eq_none (by omega)] at hk;cases hk
theorem Ext.rules {W:World}(h:Ext W w') (hn:n<=W.heap.size):(∀b o,b<n->w'.cell? ⟨b,o,none⟩=W.cell? ⟨b,o,none⟩)/\(∀b o,b<n->w'.frozen? ⟨b,o,none⟩=W.frozen? ⟨b,o,none⟩) :=
 ⟨fun b o hb=>Below.cell h (p:=⟨b,o,none⟩) (Nat.lt_of_lt_of_le hb hn),fun b o hb=>Below.frozen h (p:=⟨b,o,none⟩) (Nat.lt_of_lt_of_le hb hn)⟩
def q0y (N:Nat) (w:World) (b:Nat):Prop:=b<w.heap.size/\(b<N\/∃cs fr,w.heap[b]?=some (.cells cs 196 fr))
theorem q0y.ext(h:q0y N w b) (e:Ext w w'):q0y N w' b:=by
 obtain⟨h1,h2⟩:=h;refine⟨Nat.lt_of_lt_of_le h1 e.size,?_⟩
 rcases h2 with h2|⟨cs,fr,h2⟩
 ·exact .inl h2
 ·exact .inr ⟨cs,fr,e.block h2⟩
def Gs (N:Nat) (w:World) (v:Value) (l:List Nat):Prop :=
 N<=w.heap.size/\∃(A:Option Addr) (n c:Nat),v=.slice A n c/\l.length=n/\n<=c/\c<=maxLen/\(∀x∈l,x<4294967296) /\
  (0<n->∃b off,A=some ⟨b,off,none⟩/\q0y N w b/\∀i,i<n->w.cell? ⟨b,off+i,none⟩=some (.int .u32 ((l[i]?.getD 0:Nat):Int)))
theorem Gs.le(h:Gs N w v l):N<=w.heap.size:=h.1
theorem Gs.ext(h:Gs N w v l) (e:Ext w w'):Gs N w' v l:=by
 obtain⟨hN,A,n,c,hv,h1,h2,h3,h4,h5⟩:=h;refine⟨Nat.le_trans hN e.size,A,n,c,hv,h1,h2,h3,h4,fun hn=>?_⟩;obtain⟨b,off,hA,hs,hc⟩:=h5 hn;exact⟨b,off,hA,hs.ext e,fun i hi=>e.cell (hc i hi)⟩
theorem Gs.drew(h:Gs N w v l):Gs N w.drew v l:=h
theorem Gs.drewN(h:Gs N w v l) (n:Nat):Gs N (w.drewN n) v l:=h
theorem Gs.nil(h:N<=w.heap.size) (A:Option Addr)(hc:c<=maxLen):Gs N w (.slice A 0 c) [] :=
 ⟨h,A,0,c,rfl,rfl,Nat.zero_le _,hc,fun _ h=>(by cases h),fun h=>absurd h (by omega)⟩
theorem Gs.of_own(hN:N<=w.heap.size)
  (h:w.ownsRow base 196 1 v n (l.map fun x=>Value.int .u32 ((x:Nat):Int))) (hl:∀x∈l,x<4294967296):Gs N w v l:=by
 obtain⟨h1,h2⟩:=h;have hln:l.length=n:=by simpa using h1
 rcases h2 with ⟨rfl,h0⟩|⟨g,cap,cur,rfl,_,hh,hnc,hcm,hcs,htk⟩
 ·have:l=[]:=List.eq_nil_of_length_eq_zero (by omega);subst this;exact Gs.nil hN _ (Nat.zero_le _)
 ·refine⟨hN,_,n,cap,rfl,hln,hnc,hcm,hl,fun hn=>⟨g,0,rfl,⟨?_,.inr ⟨cur,(0,0),hh⟩⟩,fun i hi=>?_⟩⟩
  ·rcases Nat.lt_or_ge g w.heap.size with hlt|hge
   ·exact hlt
   ·rw[Array.getElem?_eq_none hge] at hh;cases hh
  ·simp only[World.cell?,hh,Option.isSome_none,Bool.false_eq_true,if_false,Nat.zero_add];have e1:cur[i]?=(cur.toList.take (n*1))[i]?:=by rw[List.getElem?_take,if_pos (by omega)];simp
   rw[e1,htk,List.getElem?_map,List.getElem?_eq_getElem (by omega)]
   simp
theorem Gs.take(h:Gs N w (.slice A n c) l)(hk:k<=n):Gs N w (.slice A k c) (l.take k):=by
 obtain⟨hN,A',n',c',hv,h1,h2,h3,h4,h5⟩:=h;injection hv with e1 e2 e3
 subst e1 e2 e3;refine⟨hN,A,k,c,rfl,by rw[List.length_take];omega,by omega,h3,fun x hx=>h4 x (List.mem_of_mem_take hx),fun h0=>?_⟩;obtain⟨b,off,hA,hs,hc⟩:=h5 (by omega);refine⟨b,off,hA,hs,fun i hi=>?_⟩;rw[hc i (by omega),List.getElem?_take,if_pos hi]
def qH (w:World) (v:Value) (e:Ending) (w':World):Prop:=e=.returned v/\Ext w w'
abbrev X0 (x:Nat):Value:=.int .u32 ((x:Nat):Int)
theorem q05:(Tryz.prog.info? 196).map (fun i=>(i.zero,i.size,i.bytes))=some (some (.int .u32 0),1,4):=by kernel_rfl
theorem jU(ty:TypeId) (base:Nat) (v:Value) (n:Nat) (xs:List Nat) (hown:w.ownsRow base 196 1 v n (xs.map X0))
  (sv:Value) (l:List Nat) (hg:Gs N w sv l) (hb:(n+l.length)*4<=140737488355328) (hbase:base<=w.heap.size) :
  ∃v' w',(Builtin.append_ #[112,112] ty #[v,sv]).run Tryz.prog w=.ok v' w'/\w'.ownsRow base 196 1 v' (n+l.length) ((xs++l).map X0)/\w.grownBy w' v.ownBlock:=by
 obtain⟨i0,hi0,hz0,hz1,hz2⟩:=info_parts q05;obtain⟨_,A,m,c,rfl,h1,h2,h3,h4,h5⟩:=hg;have hnil:m=0->l=[]:=fun h=>List.eq_nil_of_length_eq_zero (by omega)
 rcases A with _|ad
 ·have hm:m=0:=by
   rcases Nat.eq_zero_or_pos m with h0|h0
   ·exact h0
   ·obtain⟨b,off,hA,_⟩:=h5 h0;cases hA
  have hl:=hnil hm;subst hl hm;refine⟨v,w,?_,by simpa using hown,World.grownBy.refl w _⟩
  rcases hown.2 with ⟨rfl,rfl⟩|⟨g,cap,cur,rfl,_,_,hnc,_⟩
  ·simp[Builtin.append_,run_underlying Tryz.underlying112,sizeOf,typeInfo,hi0,Builtin.lenOf,Builtin.firstCells]
  ·simp[Builtin.append_,run_underlying Tryz.underlying112,sizeOf,typeInfo,hi0,Builtin.lenOf,Builtin.firstCells,hnc,storeCells]
 ·have hcells:∀j u,(l.map X0)[j]?=some u->w.cell? (ad.add j)=some u:=by
   intro j u hu
   rcases Nat.eq_zero_or_pos m with h0|h0
   ·rw[hnil h0] at hu;simp at hu
   ·obtain⟨b,off,hA,_,hc⟩:=h5 h0;obtain rfl:=Option.some.inj hA
    have hj:j<l.length:=by
     rcases Nat.lt_or_ge j l.length with h|h
     ·exact h
     ·rw[List.getElem?_eq_none (by simpa using h)] at hu;cases hu
    have e:(⟨b,off,none⟩:Addr).add j=⟨b,off+j,none⟩:=by
     unfold Addr.add;split
     ·rename_i e;subst e;rfl
     ·rfl
    rw[e,hc j (by omega)];rw[List.getElem?_map,List.getElem?_eq_getElem hj] at hu;rw[List.getElem?_eq_getElem hj];simpa using hu
  subst h1
  obtain⟨v',w',hrun,k2,k3,_,_⟩:=run_append_own_at (P:=Tryz.prog) w base 112 ty 196 i0 _ 1 4 Tryz.underlying112 hi0 hz0 hz1 hz2 rfl (by omega) v n (xs.map X0) hown ad l.length c (l.map X0) (by simp) hcells
   (fun u hu=>by obtain⟨x,_,rfl⟩:=List.mem_map.1 hu;rfl) (by unfold maxLen;omega) hb hbase
  exact⟨v',w',hrun,by rw[List.map_append];exact k2,k3⟩
theorem ownsRow_form{e:TypeId}{size:Nat}{xs:List Value}(h:w.ownsRow base e size v n xs):∃A c,v=.slice A n c:=by
 rcases h.2 with ⟨rfl,rfl⟩|⟨g,cap,cur,rfl,_⟩
 ·exact⟨_,_,rfl⟩
 ·exact⟨_,_,rfl⟩
theorem qU{ops:Array Oper}{rest:List Oper}{o:Oper}{a:Act}{Q:Exit->Act->World->Prop}(hgd:o.guard=none) (s x:Operand)
  (ho:o.op=.call { callee:=.builtin .append,args:=#[s,x],argTypes:=#[112,112] })
  (base:Nat) (v:Value) (n:Nat) (xs:List Nat) (hs:a.eval s=v) (hown:w.ownsRow base 196 1 v n (xs.map X0))
  (sv:Value) (l:List Nat) (hx:a.eval x=sv) (hg:Gs N w sv l) (hb:(n+l.length)*4<=140737488355328) (hbase:base<=w.heap.size)
  (h:∀A' c' w',w'.ownsRow base 196 1 (.slice A' (n+l.length) c') (n+l.length) ((xs++l).map X0)->w.grownBy w' v.ownBlock->wpList Tryz.prog ops Q rest (a.put o.dst (.slice A' (n+l.length) c')) w'):wpList Tryz.prog ops Q (o :: rest) a w:=by
 refine wpList_plain hgd fun _ hK=>?_
 obtain⟨v',w',hrun,h2,h3⟩:=jU o.type base v n xs hown sv l hg hb hbase;unfold Oper.wp execOp;simp only[ho,resolve,invoke,builtin,Sem.run_bind,Sem.run_pure,Result.andThen_ok,List.map_toArray,List.map_cons,List.map_nil,hs,hx,hrun];obtain⟨A',c',rfl⟩:=ownsRow_form h2;exact hK _ _ (h A' c' w' h2 h3)
theorem ZH{o:Oper}{a:Act}{K:Act->World->Prop}{Q:Exit->Act->World->Prop}(s x:Operand)
  (ho:o.op=.call { callee:=.builtin .append,args:=#[s,x],argTypes:=#[112,112] })
  (base:Nat) (v:Value) (n:Nat) (xs:List Nat) (hs:a.eval s=v) (hown:w.ownsRow base 196 1 v n (xs.map X0))
  (sv:Value) (l:List Nat) (hx:a.eval x=sv) (hg:Gs N w sv l) (hb:(n+l.length)*4<=140737488355328) (hbase:base<=w.heap.size)
  (h:∀A' c' w',w'.ownsRow base 196 1 (.slice A' (n+l.length) c') (n+l.length) ((xs++l).map X0)->w.grownBy w' v.ownBlock->K (a.put o.dst (.slice A' (n+l.length) c')) w'):o.wp Tryz.prog a w K Q:=by
 obtain⟨v',w',hrun,h2,h3⟩:=jU o.type base v n xs hown sv l hg hb hbase;unfold Oper.wp execOp;simp only[ho,resolve,invoke,builtin,Sem.run_bind,Sem.run_pure,Result.andThen_ok,List.map_toArray,List.map_cons,List.map_nil,hs,hx,hrun];obtain⟨A',c',rfl⟩:=ownsRow_form h2;exact h A' c' w' h2 h3
theorem Qn{ops:Array Oper}{o:Oper}{a:Act}{K:Act->World->Prop}{Q:Exit->Act->World->Prop}{E:Prop}(hgd:o.guard=none) (s x:Operand)
  (ho:o.op=.call { callee:=.builtin .append,args:=#[s,x],argTypes:=#[112,112] })
  (base:Nat) (v:Value) (n:Nat) (xs:List Nat) (hs:a.eval s=v) (hown:w.ownsRow base 196 1 v n (xs.map X0))
  (sv:Value) (l:List Nat) (hx:a.eval x=sv) (hg:Gs N w sv l) (hb:(n+l.length)*4<=140737488355328) (hbase:base<=w.heap.size)
  (h:∀A' c' w',w'.ownsRow base 196 1 (.slice A' (n+l.length) c') (n+l.length) ((xs++l).map X0)->w.grownBy w' v.ownBlock->K (a.put o.dst (.slice A' (n+l.length) c')) w') :
  if Region.wanted o (yielded ops a.tmps)=true then Oper.wp Tryz.prog o a w K Q else E:=by
 have hw:Region.wanted o (yielded ops a.tmps)=true:=by simp[Region.wanted,hgd]
 rw[if_pos hw];exact ZH s x ho base v n xs hs hown sv l hx hg hb hbase h
theorem kD (w:World) (base g:Nat) (hg:w.heap.size=g) (hb:base<=g):(w.alloc (.cells #[] 196)).ownsRow base 196 1 (.slice (some ⟨g,0,none⟩) 0 0) 0 (([]:List Nat).map X0):=by
 subst hg;exact⟨rfl,.inr ⟨w.heap.size,0,#[],rfl,hb,heap_alloc_new w _,Nat.le_refl _,Nat.zero_le _,rfl,rfl⟩⟩
theorem qx {a b:Bool}(h:a=b):Ending.returned (.bool a)=.returned (.bool b):=by rw[h]
theorem qf {α:Type}(a:α):∃b,Hid (b=a):=⟨a,rfl⟩
theorem Gs.setCell(h:Gs N w v l){p:Addr}(hN:N<=p.block) (ht:∀cs fr,w.heap[p.block]?≠some (.cells cs 196 fr)) (u:Value):Gs N (w.setCell p u) v l:=by
 obtain⟨hN',A,n,c,hv,h1,h2,h3,h4,h5⟩:=h;refine⟨by simpa[World.setCell] using hN',A,n,c,hv,h1,h2,h3,h4,fun hn=>?_⟩;obtain⟨b,off,hA,⟨hs1,hs2⟩,hc⟩:=h5 hn
 have hne:b≠p.block:=by
  rintro rfl
  rcases hs2 with hs2|⟨cs,fr,hs2⟩
  ·omega
  ·exact ht cs fr hs2
 refine⟨b,off,hA,⟨by simpa[World.setCell] using hs1,?_⟩,fun i hi=>?_⟩
 ·rcases hs2 with hs2|⟨cs,fr,hs2⟩
  ·exact .inl hs2
  ·exact .inr ⟨cs,fr,by rw[Below.heap_setCell _ _ _ _ hne];exact hs2⟩
 ·rw[World.cell?_setCell_other w p ⟨b,off+i,none⟩ u (fun e=>hne (by rw[e]))];exact hc i hi
theorem cell_far{o:Nat}(u:Value) (h:w.cell? ⟨b,o,none⟩=some v) (hne:b≠g):(w.setCell ⟨g,i,none⟩ u).cell? ⟨b,o,none⟩=some v:=by
 rw[World.cell?_setCell_other w ⟨g,i,none⟩ ⟨b,o,none⟩ u (fun e=>hne (by injection e with e1 _;exact e1.symm))];exact h
theorem qj{cs:Array Value}{t:TypeId}{fr:Nat×Nat}(h:w.heap[g]?=some (.cells cs t fr)) (i:Nat):w.cell? ⟨g,i,none⟩=cs[i]?:=by
 simp[World.cell?,h]
theorem qp{cs:Array Value}{t:TypeId}(h:w.heap[g]?=some (.cells cs t (0,0))) (i:Nat):w.frozen? ⟨g,i,none⟩=false:=by
 simp[World.frozen?,h]
theorem heap_set{cs:Array Value}{t:TypeId}{fr:Nat×Nat}(h:w.heap[g]?=some (.cells cs t fr)) (i:Nat) (u:Value) :
  (w.setCell ⟨g,i,none⟩ u).heap[g]?=some (.cells (cs.setIfInBounds i u) t fr):=by
 simp[World.setCell,Array.getElem?_modify,h]
structure Upd (g:Nat) (w w':World):Prop where
 os:w'.os=w.os
 tape:w'.tape=w.tape
 output:w'.output=w.output
 size:w'.heap.size=w.heap.size
 block:∀k,k≠g->w'.heap[k]?=w.heap[k]?
theorem Upd.refl (g:Nat) (w:World):Upd g w w:=⟨rfl,rfl,rfl,rfl,fun _ _=>rfl⟩
theorem Upd.set(h:Upd g w w') (i:Nat) (u:Value):Upd g w (w'.setCell ⟨g,i,none⟩ u) :=
 ⟨h.os,h.tape,h.output,by simpa[World.setCell] using h.size,fun k hk=>by rw[Below.heap_setCell _ _ _ _ hk];exact h.block k hk⟩
theorem Upd.blk(h:Upd g w w'){o:Obj}(hk:w.heap[k]?=some o) (hne:k≠g):w'.heap[k]?=some o:=(h.block k hne).trans hk
theorem Upd.ext{a:World}(h:Upd g w w') (e:Ext a w) (hg:a.heap.size<=g):Ext a w':=by
 have e':Below a.heap.size a w:=e;exact⟨h.os.trans e'.os,h.tape.trans e'.tape,h.output.trans e'.output,by rw[h.size];exact e'.size,fun k hk=>(h.block k (by omega)).trans (e'.block k hk)⟩
theorem Upd.cell(h:Upd g w w'){p:Addr}(hc:w.cell? p=some v) (hne:p.block≠g):w'.cell? p=some v:=by
 rw[World.cell?_of_block (w:=w) (h.block p.block hne)];exact hc
def NoU (w:World) (g:Nat):Prop:=∀cs fr,w.heap[g]?≠some (.cells cs 196 fr)
theorem NoU.mk{cs:Array Value}{t:TypeId}{fr:Nat×Nat}(h:w.heap[g]?=some (.cells cs t fr)) (ht:t≠196):NoU w g:=by
 intro cs' fr' h';rw[h] at h';injection h' with h'
 injection h' with _ h2
 exact ht h2
theorem Gs.upd(h:Gs N w v l) (u:Upd g w w') (hN:N<=g) (ht:NoU w g):Gs N w' v l:=by
 obtain⟨hN',A,n,c,hv,h1,h2,h3,h4,h5⟩:=h;refine⟨by rw[u.size];exact hN',A,n,c,hv,h1,h2,h3,h4,fun hn=>?_⟩;obtain⟨b,off,hA,⟨hs1,hs2⟩,hc⟩:=h5 hn
 have hne:b≠g:=by
  rintro rfl
  rcases hs2 with hs2|⟨cs,fr,hs2⟩
  ·omega
  ·exact ht cs fr hs2
 refine⟨b,off,hA,⟨by rw[u.size];exact hs1,?_⟩,fun i hi=>u.cell (hc i hi) hne⟩
 rcases hs2 with hs2|⟨cs,fr,hs2⟩
 ·exact .inl hs2
 ·exact .inr ⟨cs,fr,u.blk hs2 hne⟩
theorem QN {w1:World}{o0:Obj}(e:Ext (w.alloc o0) w1):Ext w w1/\w.heap.size+1<=w1.heap.size/\w1.heap[w.heap.size]?=some o0:=by
 refine⟨((Ext.refl w).alloc _).trans e,by have:=e.size;simpa using this,e.block ?_⟩
 ·have h:=(Ext.refl (w.alloc o0)).block (heap_alloc_new w o0);simpa using h
theorem qo {F:World->Prop}{o0:Obj}(h:∀w1,Ext w w1->w.heap.size+1<=w1.heap.size->w1.heap[w.heap.size]?=some o0->F w1):F (w.alloc o0):=by
 obtain⟨h0,h1,b0⟩:=QN (Ext.refl (w.alloc o0));exact h _ h0 h1 b0
theorem q2Y {w1:World}{o0 o1:Obj}(e:Ext ((w.alloc o0).alloc o1) w1):Ext w w1/\w.heap.size+2<=w1.heap.size/\w1.heap[w.heap.size]?=some o0/\w1.heap[w.heap.size+1]?=some o1:=by
 refine⟨(((Ext.refl w).alloc _).alloc _).trans e,by have:=e.size;simpa using this,e.block ?_,e.block ?_⟩
 ·have h:=((Ext.refl (w.alloc o0)).alloc o1).block (heap_alloc_new w o0);simpa using h
 ·have h:=(Ext.refl ((w.alloc o0).alloc o1)).block (heap_alloc_new (w.alloc o0) o1);simpa using h
theorem zu {F:World->Prop}{o0 o1:Obj}(h:∀w1,Ext w w1->w.heap.size+2<=w1.heap.size->w1.heap[w.heap.size]?=some o0->w1.heap[w.heap.size+1]?=some o1->F w1):F ((w.alloc o0).alloc o1):=by
 obtain⟨h0,h1,b0,b1⟩:=q2Y (Ext.refl ((w.alloc o0).alloc o1));exact h _ h0 h1 b0 b1
theorem q2X {w1:World}{o0 o1 o2:Obj}(e:Ext (((w.alloc o0).alloc o1).alloc o2) w1):Ext w w1/\w.heap.size+3<=w1.heap.size/\w1.heap[w.heap.size]?=some o0/\w1.heap[w.heap.size+1]?=some o1/\w1.heap[w.heap.size+1+1]?=some o2:=by
 refine⟨((((Ext.refl w).alloc _).alloc _).alloc _).trans e,by have:=e.size;simpa using this,e.block ?_,e.block ?_,e.block ?_⟩
 ·have h:=(((Ext.refl (w.alloc o0)).alloc o1).alloc o2).block (heap_alloc_new w o0);simpa using h
 ·have h:=((Ext.refl ((w.alloc o0).alloc o1)).alloc o2).block (heap_alloc_new (w.alloc o0) o1);simpa using h
 ·have h:=(Ext.refl (((w.alloc o0).alloc o1).alloc o2)).block (heap_alloc_new ((w.alloc o0).alloc o1) o2);simpa using h
theorem Jz {F:World->Prop}{o0 o1 o2:Obj}(h:∀w1,Ext w w1->w.heap.size+3<=w1.heap.size->w1.heap[w.heap.size]?=some o0->w1.heap[w.heap.size+1]?=some o1->w1.heap[w.heap.size+1+1]?=some o2->F w1):F (((w.alloc o0).alloc o1).alloc o2):=by
 obtain⟨h0,h1,b0,b1,b2⟩:=q2X (Ext.refl (((w.alloc o0).alloc o1).alloc o2));exact h _ h0 h1 b0 b1 b2
theorem q2W {w1:World}{o0 o1 o2 o3:Obj}(e:Ext ((((w.alloc o0).alloc o1).alloc o2).alloc o3) w1):Ext w w1/\w.heap.size+4<=w1.heap.size/\w1.heap[w.heap.size]?=some o0/\w1.heap[w.heap.size+1]?=some o1/\w1.heap[w.heap.size+1+1]?=some o2/\w1.heap[w.heap.size+1+1+1]?=some o3:=by
 refine⟨(((((Ext.refl w).alloc _).alloc _).alloc _).alloc _).trans e,by have:=e.size;simpa using this,e.block ?_,e.block ?_,e.block ?_,e.block ?_⟩
 ·have h:=((((Ext.refl (w.alloc o0)).alloc o1).alloc o2).alloc o3).block (heap_alloc_new w o0);simpa using h
 ·have h:=(((Ext.refl ((w.alloc o0).alloc o1)).alloc o2).alloc o3).block (heap_alloc_new (w.alloc o0) o1);simpa using h
 ·have h:=((Ext.refl (((w.alloc o0).alloc o1).alloc o2)).alloc o3).block (heap_alloc_new ((w.alloc o0).alloc o1) o2);simpa using h
 ·have h:=(Ext.refl ((((w.alloc o0).alloc o1).alloc o2).alloc o3)).block (heap_alloc_new (((w.alloc o0).alloc o1).alloc o2) o3);simpa using h
theorem q2U {F:World->Prop}{o0 o1 o2 o3:Obj}(h:∀w1,Ext w w1->w.heap.size+4<=w1.heap.size->w1.heap[w.heap.size]?=some o0->w1.heap[w.heap.size+1]?=some o1->w1.heap[w.heap.size+1+1]?=some o2->w1.heap[w.heap.size+1+1+1]?=some o3->F w1):F ((((w.alloc o0).alloc o1).alloc o2).alloc o3):=by
 obtain⟨h0,h1,b0,b1,b2,b3⟩:=q2W (Ext.refl ((((w.alloc o0).alloc o1).alloc o2).alloc o3));exact h _ h0 h1 b0 b1 b2 b3
theorem kK{t:TypeId}{x0:Value}(h:w.heap[g]?=some (.cells #[x0] t (0,0))):w.cell? ⟨g,0,none⟩=some x0/\w.frozen? ⟨g,0,none⟩=false:=by
 refine⟨?_,?_⟩<;>first|exact qj h _|exact qp h _
theorem upd1 {F:World->Prop}{t:TypeId}{x0 y0:Value}(hb:w.heap[g]?=some (.cells #[y0] t (0,0))) (h:∀w1,w1.heap[g]?=some (.cells #[x0] t (0,0))->Upd g w w1->F w1):F (w.setCell ⟨g,0,none⟩ x0):=by
 refine h _ ?_ ?_
 ·have h1:=(heap_set hb 0 x0);simpa using h1
 ·exact (Upd.refl g w).set 0 x0
theorem cells2{t:TypeId}{x0 x1:Value}(h:w.heap[g]?=some (.cells #[x0,x1] t (0,0))):w.cell? ⟨g,0,none⟩=some x0/\w.cell? ⟨g,1,none⟩=some x1/\w.frozen? ⟨g,0,none⟩=false/\w.frozen? ⟨g,1,none⟩=false:=by
 refine⟨?_,?_,?_,?_⟩<;>first|exact qj h _|exact qp h _
theorem upd2 {F:World->Prop}{t:TypeId}{x0 x1 y0 y1:Value}(hb:w.heap[g]?=some (.cells #[y0,y1] t (0,0))) (h:∀w1,w1.heap[g]?=some (.cells #[x0,x1] t (0,0))->Upd g w w1->F w1):F ((w.setCell ⟨g,0,none⟩ x0).setCell ⟨g,1,none⟩ x1):=by
 refine h _ ?_ ?_
 ·have h1:=(heap_set (heap_set hb 0 x0) 1 x1);simpa using h1
 ·exact ((Upd.refl g w).set 0 x0).set 1 x1
theorem cells3{t:TypeId}{x0 x1 x2:Value}(h:w.heap[g]?=some (.cells #[x0,x1,x2] t (0,0))):w.cell? ⟨g,0,none⟩=some x0/\w.cell? ⟨g,1,none⟩=some x1/\w.cell? ⟨g,2,none⟩=some x2/\w.frozen? ⟨g,0,none⟩=false/\w.frozen? ⟨g,1,none⟩=false/\w.frozen? ⟨g,2,none⟩=false:=by
 refine⟨?_,?_,?_,?_,?_,?_⟩<;>first|exact qj h _|exact qp h _
theorem ex1{t:TypeId}{y0:Value}(hb:w.heap[g]?=some (.cells #[y0] t (0,0))) (x0:Value):∃w1,(w.setCell ⟨g,0,none⟩ x0)=w1/\w1.heap[g]?=some (.cells #[x0] t (0,0))/\Upd g w w1:=upd1 (F:=fun W=>∃w1,W=w1/\w1.heap[g]?=some (.cells #[x0] t (0,0))/\Upd g w w1) hb (fun w1 h u=>⟨w1,rfl,h,u⟩)
theorem ex2{t:TypeId}{y0 y1:Value}(hb:w.heap[g]?=some (.cells #[y0,y1] t (0,0))) (x0 x1:Value):∃w1,((w.setCell ⟨g,0,none⟩ x0).setCell ⟨g,1,none⟩ x1)=w1/\w1.heap[g]?=some (.cells #[x0,x1] t (0,0))/\Upd g w w1:=upd2 (F:=fun W=>∃w1,W=w1/\w1.heap[g]?=some (.cells #[x0,x1] t (0,0))/\Upd g w w1) hb (fun w1 h u=>⟨w1,rfl,h,u⟩)
def jA (N:Nat) (w:World) (v:Value) (z:Int):Prop:=∃s,v=.agg #[.bool (decide (z<0)),s]/\Gs N w s (dg z.natAbs)
theorem jA.ext(h:jA N w v z) (e:Ext w w'):jA N w' v z:=by
 obtain⟨s,hv,hs⟩:=h;exact⟨s,hv,hs.ext e⟩
theorem jA.drew(h:jA N w v z):jA N w.drew v z:=h
def Wj (N:Nat) (w:World) (z:Int) (e:Ending) (w':World):Prop:=∃v,e=.returned v/\jA N w' v z/\Ext w w'
theorem yG {fn:Func}{k:Tmp}(hres:fn.results=#[.cell k 114]){a:Act}(hp:a.tmps.getD k undef=.pointer (some ⟨g,0,none⟩)) (hd:a.defers=[])
{W:World}{o1 o2:Value}{neg:Bool}(hE:Ext w W) (hb:W.heap[g]?=some (.cells #[o1,o2] 114 (0,0))) (hg:w.heap.size<=g) (hN:N<=w.heap.size)
  (hG:Gs N W (.slice A n c) l) (hneg:neg=decide (z<0)) (hl:l=dg z.natAbs) :
  bodyPost Tryz.prog fn (Wj N w z) .ret a ((W.setCell ⟨g,0,none⟩ (.bool neg)).setCell ⟨g,1,none⟩ (.slice A n c)):=by
 have b1:=heap_set hb 0 (.bool neg);have b2:=heap_set b1 1 (.slice A n c);have hc0:((W.setCell ⟨g,0,none⟩ (.bool neg)).setCell ⟨g,1,none⟩ (.slice A n c)).cell? ⟨g,0,none⟩=some (.bool neg):=by simp[World.cell?,b2]
 have hc1:((W.setCell ⟨g,0,none⟩ (.bool neg)).setCell ⟨g,1,none⟩ (.slice A n c)).cell? ⟨g,1,none⟩=some (.slice A n c):=by simp[World.cell?,b2]
 refine bodyPost_ret (v:=.agg #[.bool neg,.slice A n c]) ?_ hd ⟨_,rfl,⟨.slice A n c,by rw[hneg],?_⟩,?_⟩
 ·generalize ((W.setCell ⟨g,0,none⟩ (.bool neg)).setCell ⟨g,1,none⟩ (.slice A n c))=W' at *
  have hp':a.tmps[k]?.getD undef=.pointer (some ⟨g,0,none⟩):=by simpa using hp
  simp[results,hres,hp',hc0,hc1,go_sem]
 ·rw[<-hl];refine Gs.setCell (Gs.setCell hG (Nat.le_trans hN hg) ?_ _) (Nat.le_trans hN hg) ?_ _
  ·intro cs fr;simp only[hb];intro h;injection h with h;injection h with _ h2;exact absurd h2 (by decide)
  ·intro cs fr;simp only[b1];intro h;injection h with h;injection h with _ h2;exact absurd h2 (by decide)
 ·exact (hE.setCell (p:=⟨g,0,none⟩) hg _).setCell (p:=⟨g,1,none⟩) hg _
def q0F (N:Nat) (w:World) (z:Int) (e:Ending) (w':World):Prop:=∃(b:Bool) (A:Option Addr) (k c:Nat),e=.returned (.agg #[.bool b,.slice A k c])/\Hid (b=decide (z<0))/\Gs N w' (.slice A k c) (dg z.natAbs)/\Ext w w'/\Hid (∀ad,A=some ad->w.heap.size<=ad.block)
theorem q0F.ri{e:Ending}(h:q0F N w z e w'):Wj N w z e w':=by
 obtain⟨b,A,k,c,rfl,hb,hg,he,-⟩:=h;exact⟨_,rfl,⟨_,by rw[hb.out],hg⟩,he⟩
def RetMF (N:Nat) (w:World) (n:Nat) (e:Ending) (w':World):Prop:=∃A k c,e=.returned (.slice A k c)/\Gs N w' (.slice A k c) (dg n)/\Ext w w'/\Hid (∀ad,A=some ad->w.heap.size<=ad.block)
theorem xU{e:TypeId}{size:Nat}{xs:List Value}(h:w.ownsRow base e size (.slice A n c) n xs):∀ad,A=some ad->base<=ad.block:=by
 rintro ad rfl
 rcases h.2 with ⟨h1,_⟩|⟨g,cap,cur,hv,hb,_⟩
 ·cases h1
 ·injection hv with e1 _ _
  injection e1 with e1
  subst e1;exact hb
theorem vS {fn:Func}{k:Tmp}(hres:fn.results=#[.cell k 114]){a:Act}(hp:a.tmps.getD k undef=.pointer (some ⟨g,0,none⟩)) (hd:a.defers=[])
{W:World}{o1 o2:Value}{neg:Bool}(hE:Ext w W) (hb:W.heap[g]?=some (.cells #[o1,o2] 114 (0,0))) (hg:w.heap.size<=g) (hN:N<=w.heap.size)
  (hG:Gs N W (.slice A n c) l) (hneg:neg=decide (z<0)) (hl:l=dg z.natAbs) (hF:∀ad,A=some ad->w.heap.size<=ad.block) :
  bodyPost Tryz.prog fn (q0F N w z) .ret a ((W.setCell ⟨g,0,none⟩ (.bool neg)).setCell ⟨g,1,none⟩ (.slice A n c)):=by
 obtain⟨h1,v,hr,v',hv',⟨s,hv,hs⟩,hx⟩:=yG hres hp hd hE hb hg hN hG hneg hl;injection hv' with hv'
 subst hv';refine⟨h1,_,hr,?_⟩
 have hcell:v=.agg #[.bool neg,.slice A n c]:=by
  have b1:=heap_set hb 0 (.bool neg);have b2:=heap_set b1 1 (.slice A n c);have hc0:((W.setCell ⟨g,0,none⟩ (.bool neg)).setCell ⟨g,1,none⟩ (.slice A n c)).cell? ⟨g,0,none⟩=some (.bool neg):=by simp[World.cell?,b2]
  have hc1:((W.setCell ⟨g,0,none⟩ (.bool neg)).setCell ⟨g,1,none⟩ (.slice A n c)).cell? ⟨g,1,none⟩=some (.slice A n c):=by simp[World.cell?,b2]
  generalize ((W.setCell ⟨g,0,none⟩ (.bool neg)).setCell ⟨g,1,none⟩ (.slice A n c))=W' at *
  have hp':a.tmps[k]?.getD undef=.pointer (some ⟨g,0,none⟩):=by simpa using hp
  simp[results,hres,hp',hc0,hc1,go_sem] at hr
  exact hr.symm
 subst hcell;injection hv with hv
 have e2:=congrArg (fun l:Array Value=>l[1]?) hv;simp at e2
 subst e2;exact⟨neg,A,n,c,rfl,hneg,hs,hx,hF⟩
end
section
abbrev Byt:=List UInt8
inductive Vl where
 | int (z:Int)
 | txt (l:Byt)
 | lst (l:List Vl)
def dec (n:Nat):Byt:=Go.Lib.decDigits n
mutual
def enc:Vl->Byt
 | .int z=>105 :: (Go.Lib.itoa z ++ [59])
 | .txt l=>116 :: (dec l.length++58 :: l)
 | .lst l=>108 :: (dec l.length++58 :: zV l)
def zV:List Vl->Byt
 | []=>[]
 | v :: r=>enc v++zV r
end
mutual
def zX:Vl->Nat
 | .int _=>0
 | .txt _=>0
 | .lst l=>xG l+1
def xG:List Vl->Nat
 | []=>0
 | v :: r=>max (zX v) (xG r)
end
mutual
def jR:Vl->Prop
 | .int z=>0<=z/\z<10
 | .txt l=>l.length<=65536
 | .lst l=>l.length<=65536/\XX l
def XX:List Vl->Prop
 | []=>True
 | v :: r=>jR v/\XX r
end
theorem Zi:∀(a b:List Vl),zV (a++b)=zV a++zV b
 | [],b=>by rw[List.nil_append,zV,List.nil_append]
 | v :: r,b=>by rw[List.cons_append,zV,zV,Zi r b,List.append_assoc]
theorem Jn:∀(a b:List Vl),xG (a++b)=max (xG a) (xG b)
 | [],b=>by rw[List.nil_append,xG];omega
 | v :: r,b=>by rw[List.cons_append,xG,xG,Jn r b];omega
theorem Q9{c:UInt8}(h:c∈dec n):48<=c.toNat/\c.toNat<=57:=by
 unfold dec at h;rw[Go.Lib.decDigits_eq,List.mem_map] at h;obtain⟨t,-,rfl⟩:=h;unfold Go.Lib.dg;have h1:n / 10 ^ (Go.Lib.nDigits n-1-t) % 10<10:=Nat.mod_lt _ (by decide);rw[UInt8.toNat_ofNat'];omega
theorem q2P (n:Nat):dec n≠[]:=fun h=>by
 have h1:=Go.Lib.decDigits_length n;have h2:=Go.Lib.nDigits_pos n;unfold dec at h;rw[h] at h1;simp at h1
 omega
def dgX (x c:Nat):Nat:=((x ^^^ c)*1099511628211) % 18446744073709551616
def q1l (y:Nat):Nat:=(y*32) % 18446744073709551616 ||| y / 576460752303423488
def dgY (x y c:Nat):Nat:=((q1l y+dgX x c) % 18446744073709551616) ^^^ c
def dgS (s:Nat×Nat) (c:UInt8):Nat×Nat:=(dgX s.1 c.toNat,dgY s.1 s.2 c.toNat)
def jJ (l:Byt) (s:Nat×Nat):Nat×Nat:=l.foldl dgS s
theorem q0c (a b:Byt) (s:Nat×Nat):jJ (a++b) s=jJ b (jJ a s):=List.foldl_append
theorem yf (a:Byt) (c:UInt8) (s:Nat×Nat):jJ (a ++ [c]) s=dgS (jJ a s) c:=by rw[q0c];rfl
def len8 (n:Nat):Byt:=(List.range 8).map fun i=>UInt8.ofNat (n / 2 ^ (8*i))
def dgW (b:Byt):Nat×Nat:=jJ (b++len8 b.length) (14695981039346656037,1099511628211)
def dgB (b:Byt) (i:Nat):Nat:=(if i<8 then (dgW b).1 / 2 ^ (56-8*i) else (dgW b).2 / 2 ^ (56-8*(i-8))) % 256
def hexD:Byt:=[48,49,50,51,52,53,54,55,56,57,97,98,99,100,101,102]
def Xv (n:Nat):UInt8:=hexD.getD n 0
def nmB (b:Byt):Byt:=(List.range 16).flatMap fun i=>[Xv (dgB b i / 16),Xv (dgB b i % 16)]
theorem Q3 (f g:Nat->UInt8):∀l:List Nat,(l.flatMap fun i=>[f i,g i]).length=2*l.length
 | []=>rfl
 | a :: l=>by
  rw[List.flatMap_cons,List.length_append,Q3 f g l]
  show 2+2*l.length=2*(l.length+1)
  omega
theorem q1r (b:Byt):(nmB b).length=32:=by
 unfold nmB;rw[Q3 (fun i=>Xv (dgB b i / 16)) (fun i=>Xv (dgB b i % 16)),List.length_range]
def wZ (c:UInt8):Bool:=(48<=c.toNat&&c.toNat<=57)||(97<=c.toNat&&c.toNat<=102)
def Ql (s:Byt):Bool:=s.length == 32&&s.all wZ
end
section
open Go.RowKit
def zU (s:ByteArray):Byt:=s.data.toList
def sV (l:Byt):Value:=.string ⟨l.toArray⟩
theorem zZ (s:ByteArray):(zU s).length=s.size:=by
 unfold zU;rw[Array.length_toList];rfl
theorem wC (l:Byt):zU ⟨l.toArray⟩=l:=by unfold zU;rfl
theorem xh:Tryz.prog.underlying 9=some .string:=Tryz.underlying9
def chZ (l:Byt) (i:Nat):Int:=((l.getD i 0).toNat:Int)
theorem yU (l:Byt) (i:Nat):0<=chZ l i/\chZ l i<=255:=by
 unfold chZ;have:=(l.getD i 0).toNat_lt;omega
theorem jF {l:Byt}(h:i<l.length):chZ l i=(l[i].toNat:Int):=by
 unfold chZ;rw[List.getD_eq_getElem?_getD,List.getElem?_eq_getElem h];rfl
theorem jT {s:ByteArray}{k:IntKind}(hi:i<s.size) (w:World):(Instr.index 9 (.string s) (.int k (i:Int))).run Tryz.prog w=.ok (.int .u8 (chZ (zU s) i)) w:=by
 rw[run_index_string w 9 s k i xh,dif_pos ⟨by omega,by omega⟩,jF (by rw[zZ];exact hi)]
 rfl
theorem vV {p:UInt8->Bool}{l:Byt}(h:∀i,i<n->p (l.getD i 0)=true) (hn:n=l.length):l.all p=true:=by
 rw[List.all_eq_true];intro c hc;obtain⟨i,hi,rfl⟩:=List.getElem_of_mem hc;have h1:=h i (by omega);rw[List.getD_eq_getElem?_getD,List.getElem?_eq_getElem hi] at h1;exact h1
theorem Zx {p:UInt8->Bool}{l:Byt}(hi:i<l.length) (h:p (l.getD i 0)=false):l.all p=false:=by
 rw[List.all_eq_false];refine⟨l[i],List.getElem_mem hi,?_⟩;rw[List.getD_eq_getElem?_getD,List.getElem?_eq_getElem hi] at h;simpa using h
theorem Vo {l:Byt}(hz:z=chZ l i):wZ (l.getD i 0)=((decide (48<=z)&&decide (z<=57))||(decide (97<=z)&&decide (z<=102))):=by
 unfold chZ at hz;unfold wZ;rw[hz,Bool.eq_iff_iff];simp only[Bool.or_eq_true,Bool.and_eq_true,decide_eq_true_eq];omega
theorem KQ (s:ByteArray) (hs:s.size<=9223372036854775807) (w:World):Calls Tryz.prog 68 #[.string s] w (qH w (.bool (Ql (zU s)))):=by
 obtain⟨r,hr⟩:=qf (Ql (zU s));rw[<-hr.out];obtain⟨n,hn⟩:=qf s.size;have HN:Hid ((zU s).length=n):=by rw[Hid,hn.out];exact zZ s
 go_enter Tryz.func68,Tryz.ntmps68
 by_cases h32:n=32
 case neg =>
  have t1:((s.size:Int) != 32)=true:=by
   have:=hn.out
   simp;omega
  have HR:Hid (r=false):=by
   rw[Hid,hr.out];unfold Ql;rw[HN.out,(by simpa using h32:(n == 32)=false),Bool.false_and]
  clear h32;go_wp2
  first|go_ret|skip
  rw[HR.out];exact⟨rfl,Ext.refl _⟩
 have t1:((s.size:Int) != 32)=false:=by
  have:=hn.out
  simp;omega
 have hsz:(s.size:Int)=32:=by have:=hn.out;omega
 have HR:Hid (r=(zU s).all wZ):=by
  rw[Hid,hr.out];unfold Ql;rw[HN.out,h32];rfl
 have hn2:n=s.size:=hn.out;clear hr hn;go_wp2_with fail
 go_loopw [10] (fun iv wr=>∃i:Nat,i<=32/\iv=.int .i64 (i:Int)/\Hid (∀j,j<i->wZ ((zU s).getD j 0)=true)/\wr=w) (fun iv _=>32-(intOf iv).toNat)
 case atStart=>exact⟨0,Nat.zero_le _,rfl,fun j hj=>absurd hj (Nat.not_lt_zero j),rfl⟩
 case round =>
  obtain⟨i,hi9,rfl,HA,rfl⟩:=hrel
  by_cases hlt:i<32
  case neg =>
   have u1:decide ((i:Int)<32)=false:=q_f (by omega);have u1':decide (i<32)=false:=q_f hlt
   have HX:Hid (r=true):=by
    rw[Hid,HR.out];exact vV (n:=i) HA.out (by rw[HN.out];omega)
   go_wp2
   first|go_ret|skip
   rw[HX.out];exact⟨rfl,Ext.refl _⟩
  have u1:decide ((i:Int)<32)=true:=q_t (by omega);have u1':decide (i<32)=true:=q_t hlt;obtain⟨z,hz⟩:=qf (chZ (zU s) i);have hix:=jT (s:=s) (i:=i) (k:=.i64) (by omega);rw[<-hz.out] at hix;have HH:=q_h (Vo hz.out);have hzb:0<=z/\z<=255:=by rw[hz.out];exact yU _ _
  by_cases hhx:wZ ((zU s).getD i 0)=true
  case neg =>
   have HX:Hid (r=false):=by
    rw[Hid,HR.out];exact Zx (i:=i) (by rw[HN.out];omega) (by simpa using hhx)
   rw[HH.out] at hhx;simp only[Bool.or_eq_true,Bool.and_eq_true,decide_eq_true_eq] at hhx
   by_cases h1:z<48
   ·have v1:decide (z<48)=true:=q_t h1;have v3:decide (z<97)=true:=q_t (by omega);clear hhx h1;go_wp2
    first|go_ret|skip
    rw[HX.out];exact⟨rfl,Ext.refl _⟩
   have v1:decide (z<48)=false:=q_f h1;have v2:decide (57<z)=true:=q_t (by omega)
   by_cases h2:z<97
   ·have v3:decide (z<97)=true:=q_t h2;clear hhx h1 h2;go_wp2
    first|go_ret|skip
    rw[HX.out];exact⟨rfl,Ext.refl _⟩
   have v3:decide (z<97)=false:=q_f h2;have v4:decide (102<z)=true:=q_t (by omega);clear hhx h1 h2;go_wp2
   first|go_ret|skip
   rw[HX.out];exact⟨rfl,Ext.refl _⟩
  have HA2:Hid (∀j,j<i+1->wZ ((zU s).getD j 0)=true):=fun j hj=>by
   by_cases hji:j=i
   ·rw[hji];exact hhx
   ·exact HA.out j (by omega)
  rw[HH.out] at hhx;simp only[Bool.or_eq_true,Bool.and_eq_true,decide_eq_true_eq] at hhx;have v1:decide (z<48)=false:=q_f (by omega)
  by_cases h2:57<z
  ·have v2:decide (57<z)=true:=q_t h2;have v3:decide (z<97)=false:=q_f (by omega);have v4:decide (102<z)=false:=q_f (by omega);clear hhx h2;go_wp2;go_roundw
   case rel=>exact⟨i+1,by omega,by go_num,HA2,trivial⟩
   case measure=>simp[intOf];omega
  have v2:decide (57<z)=false:=q_f h2;clear hhx h2;go_wp2;go_roundw
  case rel=>exact⟨i+1,by omega,by go_num,HA2,trivial⟩
  case measure=>simp[intOf];omega
theorem QF (s:ByteArray) (hs:s.size<=9223372036854775807) (w:World):Calls Tryz.prog 75 #[.string s] w (qH w (.bool (Ql (zU s)))):=by
 obtain⟨r,hr⟩:=qf (Ql (zU s));rw[<-hr.out];obtain⟨n,hn⟩:=qf s.size;have HN:Hid ((zU s).length=n):=by rw[Hid,hn.out];exact zZ s
 go_enter Tryz.func75,Tryz.ntmps75
 by_cases h32:n=32
 case neg =>
  have t1:((s.size:Int) != 32)=true:=by
   have:=hn.out
   simp;omega
  have HR:Hid (r=false):=by
   rw[Hid,hr.out];unfold Ql;rw[HN.out,(by simpa using h32:(n == 32)=false),Bool.false_and]
  clear h32;go_wp2
  first|go_ret|skip
  rw[HR.out];exact⟨rfl,Ext.refl _⟩
 have t1:((s.size:Int) != 32)=false:=by
  have:=hn.out
  simp;omega
 have hsz:(s.size:Int)=32:=by have:=hn.out;omega
 have HR:Hid (r=(zU s).all wZ):=by
  rw[Hid,hr.out];unfold Ql;rw[HN.out,h32];rfl
 have hn2:n=s.size:=hn.out;clear hr hn;go_wp2_with fail
 go_loopw [9] (fun iv wr=>∃i:Nat,i<=32/\iv=.int .i64 (i:Int)/\Hid (∀j,j<i->wZ ((zU s).getD j 0)=true)/\wr=w) (fun iv _=>32-(intOf iv).toNat)
 case atStart=>exact⟨0,Nat.zero_le _,rfl,fun j hj=>absurd hj (Nat.not_lt_zero j),rfl⟩
 case round =>
  obtain⟨i,hi9,rfl,HA,rfl⟩:=hrel
  by_cases hlt:i<32
  case neg =>
   have u1:decide ((i:Int)<32)=false:=q_f (by omega);have u1':decide (i<32)=false:=q_f hlt
   have HX:Hid (r=true):=by
    rw[Hid,HR.out];exact vV (n:=i) HA.out (by rw[HN.out];omega)
   go_wp2
   first|go_ret|skip
   rw[HX.out];exact⟨rfl,Ext.refl _⟩
  have u1:decide ((i:Int)<32)=true:=q_t (by omega);have u1':decide (i<32)=true:=q_t hlt;obtain⟨z,hz⟩:=qf (chZ (zU s) i);have hix:=jT (s:=s) (i:=i) (k:=.i64) (by omega);rw[<-hz.out] at hix;have HH:=q_h (Vo hz.out);have hzb:0<=z/\z<=255:=by rw[hz.out];exact yU _ _
  by_cases hhx:wZ ((zU s).getD i 0)=true
  case neg =>
   have HX:Hid (r=false):=by
    rw[Hid,HR.out];exact Zx (i:=i) (by rw[HN.out];omega) (by simpa using hhx)
   rw[HH.out] at hhx;simp only[Bool.or_eq_true,Bool.and_eq_true,decide_eq_true_eq] at hhx
   by_cases h1:z<48
   ·have v1:decide (z<48)=true:=q_t h1;have v3:decide (z<97)=true:=q_t (by omega);clear hhx h1;go_wp2
    first|go_ret|skip
    rw[HX.out];exact⟨rfl,Ext.refl _⟩
   have v1:decide (z<48)=false:=q_f h1;have v2:decide (57<z)=true:=q_t (by omega)
   by_cases h2:z<97
   ·have v3:decide (z<97)=true:=q_t h2;clear hhx h1 h2;go_wp2
    first|go_ret|skip
    rw[HX.out];exact⟨rfl,Ext.refl _⟩
   have v3:decide (z<97)=false:=q_f h2;have v4:decide (102<z)=true:=q_t (by omega);clear hhx h1 h2;go_wp2
   first|go_ret|skip
   rw[HX.out];exact⟨rfl,Ext.refl _⟩
  have HA2:Hid (∀j,j<i+1->wZ ((zU s).getD j 0)=true):=fun j hj=>by
   by_cases hji:j=i
   ·rw[hji];exact hhx
   ·exact HA.out j (by omega)
  rw[HH.out] at hhx;simp only[Bool.or_eq_true,Bool.and_eq_true,decide_eq_true_eq] at hhx;have v1:decide (z<48)=false:=q_f (by omega)
  by_cases h2:57<z
  ·have v2:decide (57<z)=true:=q_t h2;have v3:decide (z<97)=false:=q_f (by omega);have v4:decide (102<z)=false:=q_f (by omega);clear hhx h2;go_wp2;go_roundw
   case rel=>exact⟨i+1,by omega,by go_num,HA2,trivial⟩
   case measure=>simp[intOf];omega
  have v2:decide (57<z)=false:=q_f h2;clear hhx h2;go_wp2;go_roundw
  case rel=>exact⟨i+1,by omega,by go_num,HA2,trivial⟩
  case measure=>simp[intOf];omega
def okB (neg:Bool) (l:List Nat):Bool:=if l=[] then !neg else l.all (· < bs)&&(l.getLast? != some 0)
theorem q1q {neg:Bool}(h:k<l.length)(hz:z=((l[k]?.getD 0:Nat):Int)) (hb:¬z<1000000000):okB neg l=false:=by
 unfold okB;rw[if_neg (by intro e;rw[e] at h;simp at h)]
 have:l.all (· < bs)=false:=by
  rw[List.all_eq_false];refine⟨l[k],List.getElem_mem _,?_⟩;rw[List.getElem?_eq_getElem h] at hz;simp only[Option.getD_some] at hz;simp only[decide_eq_true_eq];unfold bs;omega
 rw[this];rfl
theorem WT {neg:Bool}(hn:l.length=n) (h0:0<n) (hd:Dig l)(hz:z=((l[n-1]?.getD 0:Nat):Int)):okB neg l=(z != 0):=by
 unfold okB;rw[if_neg (by intro e;rw[e] at hn;simp at hn;omega)]
 have:l.all (· < bs)=true:=by
  rw[List.all_eq_true];intro y hy;simpa using hd y hy
 have e:l.getLast?=some (l[n-1]?.getD 0):=by
  rw[List.getLast?_eq_getElem?,hn,List.getElem?_eq_getElem (by omega)];rfl
 rw[this,e];subst hz
 by_cases hx0:l[n-1]?.getD 0=0
 ·rw[hx0];rfl
 ·have h1:((l[n-1]?.getD 0:Nat):Int)≠0:=by omega
  simp only[Bool.true_and];rw[bne_iff_ne.2 h1,bne_iff_ne.2 (fun e=>hx0 (Option.some.inj e))]
theorem Dig.snoc_take(hk:k<l.length) (h:Dig (l.take k))(hz:z=((l[k]?.getD 0:Nat):Int)) (hb:z<1000000000):Dig (l.take (k+1)):=by
 rw[List.take_succ_eq_append_getElem hk];refine h.append (fun y hy=>?_);rw[List.mem_singleton] at hy;rw[List.getElem?_eq_getElem hk] at hz;simp only[Option.getD_some] at hz;rw[hy];unfold bs;omega
theorem Gs.at_(h:Gs N w (.slice A n c) l)(hk:k<n) :
  ∃(b off:Nat) (z:Int),A=some ⟨b,off,none⟩/\b<w.heap.size/\w.cell? ⟨b,off+k,none⟩=some (.int .u32 z)/\0<=z/\z<4294967296/\Hid (z=((l[k]?.getD 0:Nat):Int)):=by
 obtain⟨hN,A',n',c',hv,h1,h2,h3,h4,h5⟩:=h;injection hv with e1 e2 e3
 subst e1 e2 e3;obtain⟨b,off,hA,hs,hc⟩:=h5 (by omega)
 have hx:l[k]?.getD 0<4294967296:=by
  rw[List.getElem?_eq_getElem (by omega)];exact h4 _ (List.getElem_mem _)
 exact⟨b,off,_,hA,hs.1,hc k hk,by omega,by omega,rfl⟩
theorem Gs.form(h:Gs N w v l):∃A n c,v=.slice A n c/\Hid (l.length=n)/\n<=c/\c<=9223372036854775807:=by
 obtain⟨hN,A',n',c',hv,h1,h2,h3,h4,h5⟩:=h;exact⟨A',n',c',hv,h1,h2,by unfold maxLen at h3;omega⟩
theorem J5{neg:Bool}(h:Gs N w s l) :
  Calls Tryz.prog 225 #[.agg #[.bool neg,s]] w (qH w (.bool (okB neg l))):=by
 obtain⟨r,hr⟩:=qf (okB neg l);rw[<-hr.out];obtain⟨A,n,c,rfl,hlen,h2,h3⟩:=h.form;go_enter Tryz.func225,Tryz.ntmps225;go_wp2
 go_loop [4] (fun i=>∃k:Nat,k<=n/\i=.int .i64 k/\Dig (l.take k)) (fun i=>n-(intOf i).toNat)
 case atStart=>exact⟨0,Nat.zero_le _,rfl,Dig.nil⟩
 case round =>
  obtain⟨k,hk,rfl,hd⟩:=hrel
  by_cases hlt:k<n
  ·obtain⟨b,off,z,rfl,hb0,g,z0,z1,hz⟩:=h.at_ hlt
   by_cases hb:z<1000000000
   ·have HD:Dig (l.take (k+1)):=Dig.snoc_take (by rw[hlen.out];exact hlt) hd hz.out hb;go_wp2
    go_round
    case rel=>exact⟨k+1,by omega,by go_num,HD⟩
    case measure=>simp[intOf];omega
   ·have HR:Hid (r=false):=hr.out.trans (q1q (by rw[hlen.out];exact hlt) hz.out hb);go_wp2;go_ret;exact⟨qx HR.out.symm,(Ext.refl _).alloc _⟩
  ·obtain rfl:n=k:=by omega
   rw[List.take_of_length_le (by rw[hlen.out];exact q_r)] at hd
   rcases Nat.eq_zero_or_pos n with h0|h0
   ·subst h0;have HR:Hid (r=!neg):=by rw[Hid,hr.out,List.eq_nil_of_length_eq_zero hlen.out];rfl
    go_wp2;go_ret;exact⟨qx HR.out.symm,(Ext.refl _).alloc _⟩
   ·obtain⟨b,off,z,rfl,hb0,g,z0,z1,hz⟩:=h.at_ (k:=n-1) (by omega);have HR:Hid (r=(z != 0)):=hr.out.trans (WT hlen.out h0 hd hz.out);have h0':((n:Int) == 0)=false:=by simp;omega
    go_wp2;go_ret;exact⟨qx HR.out.symm,(Ext.refl _).alloc _⟩
theorem Jb {neg:Bool}(hz:z=if neg then -(val l:Int) else (val l:Int))(ht:l.take k=dg (val l)) (hk:k<=l.length):(neg&&decide (0<k))=decide (z<0)/\l.take k=dg z.natAbs:=by
 have h1:z.natAbs=val l:=by subst hz;split<;>omega
 rw[h1];refine⟨?_,ht⟩
 have h2:val l=0↔k=0:=by
  constructor
  ·intro h;rw[h,zW] at ht;have:=congrArg List.length ht;rw[List.length_take] at this;simp only[List.length_nil] at this;omega
  ·rintro rfl;rw[List.take_zero] at ht;exact jf.1 ht.symm
 subst hz;cases neg
 ·simp only[Bool.false_and];symm;rw[decide_eq_false_iff_not];simp
 ·simp only[Bool.true_and,if_true]
  rcases Nat.eq_zero_or_pos k with h0|h0
  ·have:=h2.2 h0;subst h0;rw[this];rfl
  ·have h3:val l≠0:=fun e=>by have:=h2.1 e;omega
   rw[q_t h0];symm;rw[decide_eq_true_eq];omega
theorem WR{neg:Bool}(h:Gs N w s l) (hd:Dig l) (hL:l.length<=35184372088832) (z:Int) (hz:Hid (z=if neg then -(val l:Int) else (val l:Int))) :
  Calls Tryz.prog 208 #[.bool neg,s] w (q0F N w z):=by
 have hN:=h.le;obtain⟨A,n,c,rfl,hlen,h2,h3⟩:=h.form;rw[hlen.out] at hL;have Hd:=q_h hd;clear hd;go_enter Tryz.func208,Tryz.ntmps208;go_wp2
 go_loop [5] (fun i=>∃k:Nat,k<=n/\i=.int .i64 k/\val (l.drop k)=0) (fun i=>(intOf i).toNat)
 case atStart=>exact⟨n,q_r,rfl,by rw[List.drop_of_length_le (by rw[hlen.out];exact q_r)];rfl⟩
 case round =>
  obtain⟨k,hk,rfl,hv⟩:=hrel;have HV:=q_h hv;clear hv
  rcases Nat.eq_zero_or_pos k with h0|h0
  ·subst h0;have HM:Hid (_/\_):=Jb hz.out (kU Hd.out (Nat.zero_le _) HV.out (.inl rfl)) (Nat.zero_le _);have HG:=q_h (h.take (k:=0) (Nat.zero_le _));cases neg
   ·go_wp2_with (at_builtin;refine q_o ?_);refine qU (N:=N) rfl (.tmp 25) (.tmp 28) rfl (w.heap.size+1) _ 0 [] rfl (kD _ _ (w.heap.size+1) (by simp) (by simp)) _ (l.take 0) rfl (by exact HG.out.ext (((Ext.refl w).alloc _).alloc _)) (by rw[List.length_take];omega) (by simp) ?_;intro A' c' w1 hown hgr;have hE:=((Ext.refl (w.alloc (Obj.cells #[Value.bool false,Value.slice none 0 0] 114))).alloc (Obj.cells #[] 196)).grownAt hgr (by simp);obtain⟨hc1,hf1⟩:=hE.rules (n:=w.heap.size+1) (by simp);have hG:=Gs.of_own (N:=N) (l:=[]++l.take 0) (q_l hN ((((Ext.refl w).alloc _).trans hE).size)) hown (fun x hx=>Nat.lt_trans (Hd.out x (List.mem_of_mem_take (i:=0) (by rw[List.nil_append] at hx;exact hx))) (by decide));rw[List.nil_append,Nat.zero_add] at hG;rw[Nat.zero_add];have HOW:=q_h hown;rw[Nat.zero_add] at HOW;clear hown hgr
    generalize (l.take 0).length=m at *
    go_wp2;exact vS rfl rfl rfl (((Ext.refl w).alloc _).trans hE) (hE.block (heap_alloc_new _ _)) (q_r) hN hG (by rw[<-HM.out.1];first|rfl|(simp;omega)) HM.out.2 (fun ad h=>Nat.le_of_succ_le (xU HOW.out ad h))
   ·go_wp2_with (at_builtin;refine q_o ?_);refine qU (N:=N) rfl (.tmp 25) (.tmp 28) rfl (w.heap.size+1) _ 0 [] rfl (kD _ _ (w.heap.size+1) (by simp) (by simp)) _ (l.take 0) rfl (by exact HG.out.ext (((Ext.refl w).alloc _).alloc _)) (by rw[List.length_take];omega) (by simp) ?_;intro A' c' w1 hown hgr;have hE:=((Ext.refl (w.alloc (Obj.cells #[Value.bool false,Value.slice none 0 0] 114))).alloc (Obj.cells #[] 196)).grownAt hgr (by simp);obtain⟨hc1,hf1⟩:=hE.rules (n:=w.heap.size+1) (by simp);have hG:=Gs.of_own (N:=N) (l:=[]++l.take 0) (q_l hN ((((Ext.refl w).alloc _).trans hE).size)) hown (fun x hx=>Nat.lt_trans (Hd.out x (List.mem_of_mem_take (i:=0) (by rw[List.nil_append] at hx;exact hx))) (by decide));rw[List.nil_append,Nat.zero_add] at hG;rw[Nat.zero_add];have HOW:=q_h hown;rw[Nat.zero_add] at HOW;clear hown hgr
    generalize (l.take 0).length=m at *
    go_wp2;exact vS rfl rfl rfl (((Ext.refl w).alloc _).trans hE) (hE.block (heap_alloc_new _ _)) (q_r) hN hG (by rw[<-HM.out.1];first|rfl|(simp;omega)) HM.out.2 (fun ad h=>Nat.le_of_succ_le (xU HOW.out ad h))
  ·obtain⟨b,off,y,rfl,hb0,g,z0,z1,hy⟩:=h.at_ (k:=k-1) (by omega)
   by_cases hy0:y=0
   ·have HV2:Hid (val (l.drop (k-1))=0):=xg (by rw[hlen.out];omega) (by rw[show k-1+1=k from by omega];exact HV.out) (by rw[List.getD_eq_getElem?_getD];have:=hy.out;omega);subst hy0;go_wp2
    go_round
    case rel=>exact⟨k-1,by omega,by go_num,HV2.out⟩
    case measure=>simp[intOf];omega
   ·have HM:Hid (_/\_):=Jb hz.out (kU Hd.out (by rw[hlen.out];omega) HV.out (.inr (by rw[List.getD_eq_getElem?_getD];have:=hy.out;omega))) (by rw[hlen.out];omega);have HG:=q_h (h.take (k:=k) (by omega));have hyb:(y == 0)=false:=by simpa using hy0
    cases neg
    ·go_wp2_with (at_builtin;refine q_o ?_);refine qU (N:=N) rfl (.tmp 25) (.tmp 28) rfl (w.heap.size+1) _ 0 [] rfl (kD _ _ (w.heap.size+1) (by simp) (by simp)) _ (l.take k) rfl (by exact HG.out.ext (((Ext.refl w).alloc _).alloc _)) (by rw[List.length_take];omega) (by simp) ?_;intro A' c' w1 hown hgr;have hE:=((Ext.refl (w.alloc (Obj.cells #[Value.bool false,Value.slice none 0 0] 114))).alloc (Obj.cells #[] 196)).grownAt hgr (by simp);obtain⟨hc1,hf1⟩:=hE.rules (n:=w.heap.size+1) (by simp);have hG:=Gs.of_own (N:=N) (l:=[]++l.take k) (q_l hN ((((Ext.refl w).alloc _).trans hE).size)) hown (fun x hx=>Nat.lt_trans (Hd.out x (List.mem_of_mem_take (i:=k) (by rw[List.nil_append] at hx;exact hx))) (by decide));rw[List.nil_append,Nat.zero_add] at hG;rw[Nat.zero_add];have HOW:=q_h hown;rw[Nat.zero_add] at HOW;clear hown hgr
     generalize (l.take k).length=m at *
     go_wp2;exact vS rfl rfl rfl (((Ext.refl w).alloc _).trans hE) (hE.block (heap_alloc_new _ _)) (q_r) hN hG (by rw[<-HM.out.1];first|rfl|(simp;omega)) HM.out.2 (fun ad h=>Nat.le_of_succ_le (xU HOW.out ad h))
    ·go_wp2_with (at_builtin;refine q_o ?_);refine qU (N:=N) rfl (.tmp 25) (.tmp 28) rfl (w.heap.size+1) _ 0 [] rfl (kD _ _ (w.heap.size+1) (by simp) (by simp)) _ (l.take k) rfl (by exact HG.out.ext (((Ext.refl w).alloc _).alloc _)) (by rw[List.length_take];omega) (by simp) ?_;intro A' c' w1 hown hgr;have hE:=((Ext.refl (w.alloc (Obj.cells #[Value.bool false,Value.slice none 0 0] 114))).alloc (Obj.cells #[] 196)).grownAt hgr (by simp);obtain⟨hc1,hf1⟩:=hE.rules (n:=w.heap.size+1) (by simp);have hG:=Gs.of_own (N:=N) (l:=[]++l.take k) (q_l hN ((((Ext.refl w).alloc _).trans hE).size)) hown (fun x hx=>Nat.lt_trans (Hd.out x (List.mem_of_mem_take (i:=k) (by rw[List.nil_append] at hx;exact hx))) (by decide));rw[List.nil_append,Nat.zero_add] at hG;rw[Nat.zero_add];have HOW:=q_h hown;rw[Nat.zero_add] at HOW;clear hown hgr
     generalize (l.take k).length=m at *
     go_wp2;exact vS rfl rfl rfl (((Ext.refl w).alloc _).trans hE) (hE.block (heap_alloc_new _ _)) (q_r) hN hG (by rw[<-HM.out.1];first|rfl|(simp;omega)) HM.out.2 (fun ad h=>Nat.le_of_succ_le (xU HOW.out ad h))
theorem YR{neg:Bool}(h:Gs N w s l) (hd:Dig l) (hL:l.length<=35184372088832) (z:Int) (hz:Hid (z=if neg then -(val l:Int) else (val l:Int))) :
  Calls Tryz.prog 208 #[.bool neg,s] w (Wj N w z):=(WR h hd hL z hz).mono fun _ _ h=>h.ri
theorem jV (z:Int):okB (decide (z<0)) (dg z.natAbs)=true:=by
 unfold okB;have hc:=Jy z.natAbs
 split
 ·rename_i h;rw[jf] at h
  have:¬z<0:=by omega
  simp[this]
 ·have h1:(dg z.natAbs).all (· < bs)=true:=by rw[List.all_eq_true];intro y hy;simpa using hc.1 y hy
  rw[h1,Bool.true_and,bne_iff_ne];exact hc.2
theorem WQ(h:jA N w v z) (hL:ln z.natAbs<=35184372088832) :
  Calls Tryz.prog 226 #[v] w (Wj N w z):=by
 obtain⟨s,rfl,hs⟩:=h;have hN:=hs.le;obtain⟨A,n,c,rfl,hlen,h2,h3⟩:=hs.form;have HO:=q_h (jV z);have HL:=q_h hL;unfold ln at HL;clear hL;obtain⟨neg,hneg⟩:=qf (decide (z<0));rw[<-hneg.out] at HO ⊢;obtain⟨l,hl⟩:=qf (dg z.natAbs);rw[<-hl.out] at HO hs hlen HL;go_enter Tryz.func226,Tryz.ntmps226;go_wp2_with (go_at_call 225;refine (J5 (by exact hs.ext (((Ext.refl w).alloc _).alloc _))).mono ?_;rintro e w1 ⟨rfl,e1⟩;rw[HO.out];refine q_o ?_);have hE:Ext w w1:=(((Ext.refl w).alloc _).alloc _).trans e1;obtain⟨hc1,hf1⟩:=e1.rules (n:=w.heap.size+2) (by simp);unfold Hid;go_wp2;have b0:w1.cell? ⟨w.heap.size,0,none⟩=some (.bool neg):=by rw[hc1 _ _ (by omega)];simp[go_sem]
 have b1:w1.cell? ⟨w.heap.size,1,none⟩=some (.slice A n c):=by rw[hc1 _ _ (by omega)];simp[go_sem]
 have bg:w1.heap[w.heap.size+1]?=some (.cells #[.bool false,.slice none 0 0] 114 (0,0)):=e1.block (by have:=heap_alloc_new (w.alloc (Obj.cells #[Value.bool neg,Value.slice A n c] 114)) (Obj.cells #[.bool false,.slice none 0 0] 114);simpa using this);have hsz:w.heap.size+2<=w1.heap.size:=by have:=e1.size;simpa using this
 have hs1:=hs.ext hE;clear hc1 hf1 e1
 go_region_held3 (fun w'=>w'.cell? ⟨w.heap.size,0,none⟩=some (.bool neg)/\w'.cell? ⟨w.heap.size,1,none⟩=some (.slice A n c)) (first|exact⟨b0,b1⟩|exact⟨(((Ext.refl w1).drew.alloc _).cell b0),(((Ext.refl w1).drew.alloc _).cell b1)⟩|exact⟨d0,d1⟩|exact⟨cell_far _ (cell_far _ d0 (by omega)) (by omega),cell_far _ (cell_far _ d1 (by omega)) (by omega)⟩)
  (first|(refine Qn (N:=N) rfl (.tmp 9) (.tmp 11) rfl w1.heap.size _ 0 [] rfl (kD _ _ w1.heap.size (by simp) (by simp)) _ l rfl (by exact hs1.ext (((Ext.refl w1).drew).alloc _)) (by have:=HL.out;omega) (by simp) ?_;intro A' c' w2 hown hgr;have e2:=((Ext.refl w1).drew.alloc (Obj.cells #[] 196)).grownAt hgr (by simp);have d0:=e2.cell b0;have d1:=e2.cell b1;have bg2:=e2.block bg;have k0:w2.cell? ⟨w.heap.size+1,0,none⟩=some (.bool false):=qj bg2 0;have k1:w2.cell? ⟨w.heap.size+1,1,none⟩=some (.slice none 0 0):=qj bg2 1;have k2:=qp bg2 0;have k3:=qp bg2 1))
 have hG:=Gs.of_own (N:=N) (l:=[]++l) (q_l hN (hE.trans e2).size) hown (fun x hx=>by rw[List.nil_append,hl.out] at hx;exact Nat.lt_trans (KL _ x hx) (by decide));rw[List.nil_append,Nat.zero_add] at hG;clear hown hgr;go_wp2;exact yG rfl rfl rfl (hE.trans e2) bg2 (by omega) hN hG hneg.out hl.out
theorem Jg(hN:N<=w.heap.size)(hd:d<4294967296){x:Int}(hx:x=((d:Nat):Int))(hg:w.heap.size=g):Gs N (w.alloc (.cells #[.int .u32 x] 196)) (.slice (some ⟨g,0,none⟩) 1 1) [d]:=by
 subst hg hx;refine⟨by simp;omega,_,1,1,rfl,rfl,q_r,by unfold maxLen;omega,by simpa using hd,fun _=>⟨w.heap.size,0,rfl,⟨by simp,.inr ⟨_,(0,0),heap_alloc_new w _⟩⟩,fun i hi=>?_⟩⟩;obtain rfl:i=0:=by omega
 exact qj (heap_alloc_new w _) 0
end
end Go.Proofs.YtdeeekdbhhenpaaGreatDoor
