import Derived.Test.YtdeeekdbhhenpaaGreatDoorWc02
import Derived.Laws.Bits64
import Derived.Laws.Bits64b
import Derived.RangeFuncNested
import Derived.RangeFuncBound
import Derived.RangeFuncCalls
import Derived.RangeFuncLeaves
import Derived.RangeFuncBox
import Derived.Shelf.Abstract
import Derived.OwnWalkIn
import Derived.TacticsInMore
import Derived.LoopNIn
import Derived.LoopIn
set_option linter.all false
set_option maxHeartbeats 8000000
set_option maxRecDepth 100000
namespace Go.Proofs.YtdeeekdbhhenpaaGreatDoor
variable {w w':World} {N n lo hi k g i m c j d:Nat} {v s:Value} {l:List Nat} {z:Int} {A:Option Addr}
section
open Go.RowKit
theorem J9 {u:Nat}{X:Nat}(h:X+bs ^ k*u=m) (hm:m<=9223372036854775808) (hu:0<u):k<3:=by
 rcases Nat.lt_or_ge k 3 with h1|h1
 ·exact h1
 ·have h2:bs ^ 3<=bs ^ k:=Nat.pow_le_pow_right yV h1;have h3:bs ^ k*1<=bs ^ k*u:=Nat.mul_le_mul_left _ hu;have h4:bs ^ 3=1000000000000000000000000000:=by decide
  omega
theorem YZ {X u q:Nat}(h:X+bs ^ k*u=m) (hq:u=d+bs*q):X+bs ^ k*d+bs ^ (k+1)*q=m:=by
 subst hq;rw[Nat.mul_add] at h;rw[Nat.pow_succ,Nat.mul_assoc];omega
def q3n (N:Nat) (w W:World) (m:Nat) (u v:Value) (wr:World):Prop :=
 ∃(k:Nat) (uz:Int) (A':Option Addr) (c':Nat) (xs:List Nat),k<=3/\u=.int .u64 uz/\0<=uz/\uz<=9223372036854775808/\v=.slice A' k c' /\
  wr.ownsRow (w.heap.size+1) 196 1 (.slice A' k c') k (xs.map X0)/\Dig xs/\val xs+bs ^ k*uz.toNat=m/\Ext W wr
theorem r1_of(hN:N<=w.heap.size) (n:Int) (h1 : -9223372036854775808<=n) (h2:n<=9223372036854775807) :
  Calls Tryz.prog 174 #[.int .i64 n] w (Wj N w n):=by
 by_cases hn:n<0
 ·go_enter Tryz.func174,Tryz.ntmps174;go_wp2
  go_loopw [3,4] (fun u v wr=>q3n N w (w.alloc (Obj.cells #[Value.bool false,Value.slice none 0 0] 114)) n.natAbs u v wr) (fun u _ _=>(intOf u).toNat)
  case atStart=>exact⟨0,_,_,_,[],by omega,rfl,by omega,by omega,rfl,kD _ _ _ (by simp) (q_r),Dig.nil,by simp[val];omega,(Ext.refl _).alloc _⟩
  case round =>
   obtain⟨k,uz,A',c',xs,hk,rfl,u0,u1,rfl,hown,hxs,hv,hE⟩:=hrel;have HV:=q_h hv;have HX:=q_h hxs;have HO:=q_h hown;clear hv hxs hown;have hW:=hE.size;rw[World.size_alloc] at hW;have HW:Hid (N<=wr.heap.size):=by unfold Hid;omega
   by_cases hlt:0<uz
   ·have hk3:=J9 HV.out (by omega) (show 0<uz.toNat by omega);go_wp2_with (at_builtin;refine q_o ?_);refine qU (N:=N) rfl (.tmp 17) (.tmp 21) rfl (w.heap.size+1) _ k xs rfl (HO.out.alloc _) _ [(uz % 1000000000).toNat] rfl (Jg HW.out (by omega) (by omega) rfl) (by simp;omega) (by simp;omega) ?_;intro A2 c2 w2 hown2 hgr;have hE2:=(hE.alloc _).own hgr (HO.out.alloc _) (by simp)
    have HR:Hid (val (xs ++ [(uz % 1000000000).toNat])+bs ^ (k+1)*(uz / 1000000000).toNat=n.natAbs):=by
     rw[Hid,XM,show xs.length=k from by simpa using HO.out.1];refine YZ HV.out ?_;unfold bs;omega
    have HX2:Hid (Dig (xs ++ [(uz % 1000000000).toNat])):=HX.out.append (Dig.mk (by unfold bs;omega) Dig.nil);have HO2:=q_h hown2;have HE2:=q_h hE2;clear hown2 hgr hE2
    generalize (uz % 1000000000).toNat=dd at *
    go_wp2;go_roundw
    case rel=>exact⟨k+1,uz / 1000000000,A2,c2,_,by omega,rfl,by omega,by omega,rfl,HO2.out,HX2.out,HR.out,HE2.out⟩
    case measure=>simp[intOf];omega
   ·obtain rfl:uz=0:=by omega
    have HF:Hid (val xs=n.natAbs):=by have:=HV.out;unfold Hid;simpa using this
    have hG:=Gs.of_own (N:=N) HW.out HO.out (fun x hx=>Nat.lt_trans (HX.out x hx) (by decide));go_wp2_with (go_at_call 208;refine q_o ?_);refine (YR hG HX.out (by rw[show xs.length=k from by simpa using HO.out.1];omega) n (by rw[HF.out];simp only[Hid];split<;>simp_all<;>omega)).mono ?_;intro e w3 hh;obtain⟨bb,A4,k4,c4,rfl,hb4,h4,e4⟩:=hh.form;obtain⟨hE0,hsz0,B0⟩:=QN (hE.trans e4);obtain⟨r0,r1,r2,r3⟩:=cells2 B0;go_wp2;exact yG rfl rfl rfl hE0 B0 (q_r) hN h4 hb4.out rfl
 ·go_enter Tryz.func174,Tryz.ntmps174;go_wp2
  go_loopw [3,4] (fun u v wr=>q3n N w (w.alloc (Obj.cells #[Value.bool false,Value.slice none 0 0] 114)) n.natAbs u v wr) (fun u _ _=>(intOf u).toNat)
  case atStart=>exact⟨0,_,_,_,[],by omega,rfl,by omega,by omega,rfl,kD _ _ _ (by simp) (q_r),Dig.nil,by simp[val];omega,(Ext.refl _).alloc _⟩
  case round =>
   obtain⟨k,uz,A',c',xs,hk,rfl,u0,u1,rfl,hown,hxs,hv,hE⟩:=hrel;have HV:=q_h hv;have HX:=q_h hxs;have HO:=q_h hown;clear hv hxs hown;have hW:=hE.size;rw[World.size_alloc] at hW;have HW:Hid (N<=wr.heap.size):=by unfold Hid;omega
   by_cases hlt:0<uz
   ·have hk3:=J9 HV.out (by omega) (show 0<uz.toNat by omega);go_wp2_with (at_builtin;refine q_o ?_);refine qU (N:=N) rfl (.tmp 17) (.tmp 21) rfl (w.heap.size+1) _ k xs rfl (HO.out.alloc _) _ [(uz % 1000000000).toNat] rfl (Jg HW.out (by omega) (by omega) rfl) (by simp;omega) (by simp;omega) ?_;intro A2 c2 w2 hown2 hgr;have hE2:=(hE.alloc _).own hgr (HO.out.alloc _) (by simp)
    have HR:Hid (val (xs ++ [(uz % 1000000000).toNat])+bs ^ (k+1)*(uz / 1000000000).toNat=n.natAbs):=by
     rw[Hid,XM,show xs.length=k from by simpa using HO.out.1];refine YZ HV.out ?_;unfold bs;omega
    have HX2:Hid (Dig (xs ++ [(uz % 1000000000).toNat])):=HX.out.append (Dig.mk (by unfold bs;omega) Dig.nil);have HO2:=q_h hown2;have HE2:=q_h hE2;clear hown2 hgr hE2
    generalize (uz % 1000000000).toNat=dd at *
    go_wp2;go_roundw
    case rel=>exact⟨k+1,uz / 1000000000,A2,c2,_,by omega,rfl,by omega,by omega,rfl,HO2.out,HX2.out,HR.out,HE2.out⟩
    case measure=>simp[intOf];omega
   ·obtain rfl:uz=0:=by omega
    have HF:Hid (val xs=n.natAbs):=by have:=HV.out;unfold Hid;simpa using this
    have hG:=Gs.of_own (N:=N) HW.out HO.out (fun x hx=>Nat.lt_trans (HX.out x hx) (by decide));go_wp2_with (go_at_call 208;refine q_o ?_);refine (YR hG HX.out (by rw[show xs.length=k from by simpa using HO.out.1];omega) n (by rw[HF.out];simp only[Hid];split<;>simp_all<;>omega)).mono ?_;intro e w3 hh;obtain⟨bb,A4,k4,c4,rfl,hb4,h4,e4⟩:=hh.form;obtain⟨hE0,hsz0,B0⟩:=QN (hE.trans e4);obtain⟨r0,r1,r2,r3⟩:=cells2 B0;go_wp2;exact yG rfl rfl rfl hE0 B0 (q_r) hN h4 hb4.out rfl
theorem Jj {fn:Func}{k:Tmp}(hres:fn.results=#[.cell k 114]){a:Act}(hp:a.tmps.getD k undef=.pointer (some ⟨g,0,none⟩)) (hd:a.defers=[])
{W:World}{neg:Bool}(hE:Ext w W) (hb:W.heap[g]?=some (.cells #[.bool neg,.slice A n c] 114 (0,0)))
  (hG:Gs N W (.slice A n c) l) (hneg:neg=decide (z<0)) (hl:l=dg z.natAbs):bodyPost Tryz.prog fn (Wj N w z) .ret a W:=by
 obtain⟨hc0,hc1,-,-⟩:=cells2 hb;refine bodyPost_ret (v:=.agg #[.bool neg,.slice A n c]) ?_ hd ⟨_,rfl,⟨.slice A n c,by rw[hneg],hl ▸ hG⟩,hE⟩;have hp':a.tmps[k]?.getD undef=.pointer (some ⟨g,0,none⟩):=by simpa using hp
 simp[results,hres,hp',hc0,hc1,go_sem]
theorem q2M(h:Gs N w (.slice A n c) l) (hd:Dig l) :
  Calls Tryz.prog 236 #[.slice A n c] w fun e w'=>(∃k,e=.returned (.slice A k c)/\Gs N w (.slice A k c) (dg (val l)))/\w=w':=by
 obtain⟨P,hP⟩:∃P:Ending->World->Prop,Hid (P=fun e w'=>(∃k,e=.returned (.slice A k c)/\Gs N w (.slice A k c) (dg (val l)))/\w=w'):=⟨_,rfl⟩
 rw[<-hP.out];have hlen:Hid (l.length=n):=by obtain⟨A',n',c',hv,hl',-,-⟩:=h.form;cases hv;exact hl'
 have hnc:n<=c/\c<=9223372036854775807:=by obtain⟨A',n',c',hv,hl',h1,h2⟩:=h.form;cases hv;exact⟨h1,h2⟩
 obtain⟨hn1,hn2⟩:=hnc;have Hd:=q_h hd;clear hd;go_enter Tryz.func236,Tryz.ntmps236;go_wp2
 go_loop [0] (fun s=>∃k:Nat,k<=n/\s=.slice A k c/\val (l.drop k)=0) (fun s=>match s with|.slice _ k _=>k|_=>0)
 case atStart=>exact⟨n,q_r,rfl,by rw[List.drop_of_length_le (by rw[hlen.out];exact q_r)];rfl⟩
 case round =>
  obtain⟨k,hk,rfl,hv⟩:=hrel;have HV:=q_h hv;clear hv
  rcases Nat.eq_zero_or_pos k with h0|h0
  ·subst h0
   have HG:Hid (Gs N w (.slice A 0 c) (dg (val l))):=by
    rw[Hid,<-kU Hd.out (Nat.zero_le _) HV.out (.inl rfl)];exact h.take (Nat.zero_le _)
   go_wp2;rw[hP.out];exact⟨⟨0,rfl,HG.out⟩,rfl⟩
  ·obtain⟨b,off,y,hA,hb0,g,z0,z1,hy⟩:=h.at_ (k:=k-1) (by omega)
   by_cases hy0:y=0
   ·have HV2:Hid (val (l.drop (k-1))=0):=xg (by rw[hlen.out];omega) (by rw[show k-1+1=k from by omega];exact HV.out) (by rw[List.getD_eq_getElem?_getD];have:=hy.out;omega);subst hy0 hA;go_wp2;refine⟨⟨k-1,by omega,rfl,HV2.out⟩,?_⟩
    show k-1<k
    omega
   ·have HG:Hid (Gs N w (.slice A k c) (dg (val l))):=by
     rw[Hid,<-kU Hd.out (by rw[hlen.out];omega) HV.out (.inr (by rw[List.getD_eq_getElem?_getD];have:=hy.out;omega))];exact h.take (by omega)
    have hyb:(y == 0)=false:=by simpa using hy0
    subst hA;go_wp2;rw[hP.out];exact⟨⟨k,rfl,HG.out⟩,rfl⟩
theorem Xx(hd:Dig l):∀k,k<=l.length->val (l.drop k)=0->∃k',k'<=k/\l.take k'=dg (val l):=by
 intro k
 induction k with
 | zero=>intro h0 hv;exact⟨0,q_r,kU hd h0 hv (.inl rfl)⟩
 | succ k ih =>
  intro h0 hv
  by_cases hz:l.getD k 0=0
  ·obtain⟨k',h1,h2⟩:=ih (by omega) (xg (by omega) hv hz);exact⟨k',by omega,h2⟩
  ·exact⟨k+1,q_r,kU hd h0 hv (.inr hz)⟩
theorem Gs.trimmed(h:Gs N w (.slice A n c) l) (hd:Dig l) (hk:(dg (val l)).length=k):Gs N w (.slice A k c) (dg (val l)):=by
 have hlen:l.length=n:=by obtain⟨A',n',c',hv,hl',-,-⟩:=h.form;cases hv;exact hl'.out
 obtain⟨k',hk',ht⟩:=Xx hd l.length (q_r) (by rw[List.drop_length];rfl);have:k'=k:=by rw[<-hk,<-ht,List.length_take];omega
 subst this;rw[<-ht];exact h.take (by omega)
theorem Vm{neg:Bool}(h:Gs N w (.slice A n c) l) (hd:Dig l) (z:Int) (hz:Hid (z=if neg then -(val l:Int) else (val l:Int))) :
  Calls Tryz.prog 206 #[.bool neg,.slice A n c] w (Wj N w z):=by
 have hN:=h.le;have HA:Hid (z.natAbs=val l):=by have:=hz.out;unfold Hid;split at this<;>omega
 have HS:Hid (val l≠0->decide (z<0)=neg):=by
  intro h0;have:=hz.out;cases neg
  ·simp at this;simp;omega
  ·simp at this;simp;omega
 clear hz;go_enter Tryz.func206,Tryz.ntmps206;go_wp2_with (go_at_call 236;refine q_o ?_);refine (q2M (h.ext ((Ext.refl w).alloc _)) hd).mono ?_;rintro e w' ⟨⟨k,rfl,hG⟩,rfl⟩;have hlk:Hid ((dg (val l)).length=k):=by obtain⟨A',n',c',hv,hl',-,-⟩:=hG.form;cases hv;exact hl'
 rcases Nat.eq_zero_or_pos k with h0|h0
 ·subst h0;have H0:Hid (val l=0):=jf.1 (List.eq_nil_of_length_eq_zero hlk.out);have HZ:Hid (z=0):=by have:=HA.out;have:=H0.out;unfold Hid;omega
  go_wp2;rw[HZ.out];exact Jj rfl rfl rfl ((Ext.refl w).alloc _) (heap_alloc_new w _) (Gs.nil (by simp;omega) none (Nat.zero_le _)) rfl zW.symm
 ·have hk0:((k:Int) == 0)=false:=by simp;omega
  have HB:Hid (neg=decide (z<0)):=(HS.out (fun e=>by have:=hlk.out;rw[e,zW] at this;simp at this;omega)).symm;go_wp2;refine Jj rfl rfl rfl ((Ext.refl w).alloc _) (heap_alloc_new w _) ?_ HB.out (by rw[HA.out]);have:=(h.trimmed hd hlk.out)
  exact this.ext ((Ext.refl w).alloc _)
theorem Xg (w:World) (base:Nat):w.ownsRow base 196 1 (.slice none 0 0) 0 (([]:List Nat).map X0):=⟨rfl,.inl ⟨rfl,rfl⟩⟩
def q0x (w:World) (m:Nat) (u v:Value) (wr:World):Prop :=
 ∃(k:Nat) (uz:Int) (A':Option Addr) (c':Nat) (xs:List Nat),k<=3/\u=.int .u64 uz/\0<=uz/\uz<=18446744073709551615/\v=.slice A' k c' /\
  wr.ownsRow w.heap.size 196 1 (.slice A' k c') k (xs.map X0)/\Dig xs/\xs++dg uz.toNat=dg m/\Ext w wr
theorem Xa {u:Nat}{X:Nat}(h:X+bs ^ k*u=m) (hm:m<=18446744073709551615) (hu:0<u):k<3:=by
 rcases Nat.lt_or_ge k 3 with h1|h1
 ·exact h1
 ·have h2:bs ^ 3<=bs ^ k:=Nat.pow_le_pow_right yV h1;have h3:bs ^ k*1<=bs ^ k*u:=Nat.mul_le_mul_left _ hu;have h4:bs ^ 3=1000000000000000000000000000:=by decide
  omega
theorem Vk(hN:N<=w.heap.size) (n:Int) (h1:0<=n) (h2:n<=18446744073709551615) :
  Calls Tryz.prog 207 #[.int .u64 n] w (RetMF N w n.toNat):=by
 obtain⟨m,hm⟩:=qf n.toNat;rw[<-hm.out];go_enter Tryz.func207,Tryz.ntmps207;go_wp2
 go_loopw [0,3] (fun u v wr=>q0x w m u v wr) (fun u _ _=>(intOf u).toNat)
 case atStart=>exact⟨0,n,_,_,[],by omega,rfl,h1,h2,rfl,Xg _ _,Dig.nil,by rw[hm.out];rfl,Ext.refl _⟩
 case round =>
  obtain⟨k,uz,A',c',xs,hk,rfl,u0,u1,rfl,hown,hxs,hv,hE⟩:=hrel;have HV:=q_h hv;have HX:=q_h hxs;have HO:=q_h hown;clear hv hxs hown;have HW:Hid (N<=wr.heap.size):=q_l hN hE.size
  by_cases hlt:0<uz
  ·have hpos:dg uz.toNat=(uz % 1000000000).toNat :: dg (uz / 1000000000).toNat:=by
    rw[KN (by omega),show uz.toNat % bs=(uz % 1000000000).toNat from by unfold bs;omega,show uz.toNat / bs=(uz / 1000000000).toNat from by unfold bs;omega]
   have hk3:k<3:=by
    have h3:=congrArg val HV.out;rw[val_append,vY,vY,show xs.length=k from by simpa using HO.out.1] at h3;exact Xa h3 (by have:=hm.out;omega) (by omega)
   have HR:Hid ((xs ++ [(uz % 1000000000).toNat])++dg (uz / 1000000000).toNat=dg m):=by
    rw[Hid,List.append_assoc,List.singleton_append,<-hpos];exact HV.out
   clear hpos;go_wp2_with (at_builtin;refine q_o ?_);refine qU (N:=N) rfl (.tmp 8) (.tmp 12) rfl w.heap.size _ k xs rfl (HO.out.alloc _) _ [(uz % 1000000000).toNat] rfl (Jg HW.out (by omega) (by omega) rfl) (by simp;omega) (by have:=hE.size;simp;omega) ?_;intro A2 c2 w2 hown2 hgr;have hE2:=(hE.alloc _).own hgr (HO.out.alloc _) (q_r);have HX2:Hid (Dig (xs ++ [(uz % 1000000000).toNat])):=HX.out.append (Dig.mk (by unfold bs;omega) Dig.nil);have HO2:=q_h hown2;have HE2:=q_h hE2;clear hown2 hgr hE2
   generalize (uz % 1000000000).toNat=dd at *
   go_wp2;go_roundw
   case rel=>exact⟨k+1,uz / 1000000000,A2,c2,_,by omega,rfl,by omega,by omega,rfl,HO2.out,HX2.out,HR.out,HE2.out⟩
   case measure=>simp[intOf];omega
  ·obtain rfl:uz=0:=by omega
   have HF:Hid (xs=dg m):=by have:=HV.out;rw[show (0:Int).toNat=0 from rfl,zW,List.append_nil] at this;exact this
   have hG:=Gs.of_own (N:=N) HW.out HO.out (fun x hx=>Nat.lt_trans (HX.out x hx) (by decide));go_wp2;go_ret;exact⟨_,_,_,rfl,by rw[<-HF.out];exact hG,hE,xU HO.out⟩
theorem Wu (n:Int) (hn:n<0) (h1 : -9223372036854775808<=n):IntKind.u64.wrap (-IntKind.u64.wrap n) = -n:=by
 simp only[IntKind.wrap,IntKind.bits,IntKind.signed]
 simp
 omega
theorem i_of(hN:N<=w.heap.size) (n:Int) (h1 : -9223372036854775808<=n) (h2:n<=9223372036854775807) :
  Calls Tryz.prog 173 #[.int .i64 n] w (Wj N w n):=by
 by_cases hn:n<0
 ·go_enter Tryz.func173,Tryz.ntmps173;go_wp2_with (go_at_call 207;refine q_o ?_);rw[Wu n hn h1];refine (Vk (N:=N) (by simp;omega) _ (by omega) (by omega)).mono ?_;rintro e w2 ⟨A2,k2,c2,rfl,g2,e2,-⟩;go_wp2_with (go_at_call 206;refine q_o ?_);refine (Vm g2 (KL _) n (by rw[vY];simp only[Hid];split<;>simp_all<;>omega)).mono ?_;intro e w3 hh;obtain⟨bb,A4,k4,c4,rfl,hb4,h4,e4⟩:=hh.form;obtain⟨hE0,hsz0,B0⟩:=QN (e2.trans e4);obtain⟨r0,r1,r2,r3⟩:=cells2 B0;go_wp2;exact yG rfl rfl rfl hE0 B0 (q_r) hN h4 hb4.out rfl
 ·go_enter Tryz.func173,Tryz.ntmps173;go_wp2_with (go_at_call 207;refine q_o ?_);refine (Vk (N:=N) (by simp;omega) _ (by omega) (by omega)).mono ?_;rintro e w2 ⟨A2,k2,c2,rfl,g2,e2,-⟩;go_wp2_with (go_at_call 206;refine q_o ?_);refine (Vm g2 (KL _) n (by rw[vY];simp only[Hid];split<;>simp_all<;>omega)).mono ?_;intro e w3 hh;obtain⟨bb,A4,k4,c4,rfl,hb4,h4,e4⟩:=hh.form;obtain⟨hE0,hsz0,B0⟩:=QN (e2.trans e4);obtain⟨r0,r1,r2,r3⟩:=cells2 B0;go_wp2;exact yG rfl rfl rfl hE0 B0 (q_r) hN h4 hb4.out rfl
theorem Jf(z:Int) (r:Bool) (hr:Hid (r=decide (1000000000<=z))) :
  Calls Tryz.prog 238 #[.int .u32 z] w fun e w'=>e=.returned (.bool r)/\w=w':=by
 by_cases h:1000000000<=z
 ·have HR:Hid (r=true):=by rw[Hid,hr.out];simpa using h
  go_enter Tryz.func238,Tryz.ntmps238;go_wp2;go_ret;exact⟨qx HR.out.symm,rfl⟩
 ·have HR:Hid (r=false):=by rw[Hid,hr.out];simpa using h
  go_enter Tryz.func238,Tryz.ntmps238;go_wp2;go_ret;exact⟨qx HR.out.symm,rfl⟩
def JA (l:List Nat):Bool:=!l.all (· < bs)
theorem q1Y(h:k<l.length)(hz:z=((l[k]?.getD 0:Nat):Int)) (hb:1000000000<=z):JA l=true:=by
 unfold JA
 have:l.all (· < bs)=false:=by
  rw[List.all_eq_false];refine⟨l[k],List.getElem_mem _,?_⟩;rw[List.getElem?_eq_getElem h] at hz;simp only[Option.getD_some] at hz;simp only[decide_eq_true_eq];unfold bs;omega
 rw[this];rfl
theorem q0q(h:Dig l):JA l=false:=by
 unfold JA;have:l.all (· < bs)=true:=by rw[List.all_eq_true];intro y hy;simpa using h y hy
 rw[this];rfl
theorem Xu(h:Gs N w s l) :
  Calls Tryz.prog 253 #[s,.func (.func 238) #[] #[]] w fun e w'=>(∃z:Int,e=.returned (.int .i64 z)/\Hid (JA l=decide (0<=z)))/\w=w':=by
 obtain⟨P,hP⟩:∃P:Ending->World->Prop,Hid (P=fun e w'=>(∃z:Int,e=.returned (.int .i64 z)/\Hid (JA l=decide (0<=z)))/\w=w'):=⟨_,rfl⟩
 rw[<-hP.out];obtain⟨A,n,c,rfl,hlen,h2,h3⟩:=h.form;go_enter Tryz.func253,Tryz.ntmps253;go_wp2
 go_loop [8] (fun i=>∃k:Nat,k<=n/\i=.int .i64 k/\Dig (l.take k)) (fun i=>n-(intOf i).toNat)
 case atStart=>exact⟨0,Nat.zero_le _,rfl,Dig.nil⟩
 case round =>
  obtain⟨k,hk,rfl,hd⟩:=hrel;have HD:=q_h hd;clear hd
  by_cases hlt:k<n
  ·obtain⟨b,off,z,rfl,hb0,g,z0,z1,hz⟩:=h.at_ hlt;go_wp2_with (go_at_call 238;refine q_o ?_)
   by_cases hb:1000000000<=z
   ·refine (Jf z true (by rw[q_t hb];rfl)).mono ?_;rintro e w' ⟨rfl,rfl⟩;have HR:Hid (JA l=true):=q1Y (by rw[hlen.out];exact hlt) hz.out hb;go_wp2;rw[hP.out];exact⟨⟨_,rfl,by rw[Hid,HR.out];symm;simp⟩,rfl⟩
   ·refine (Jf z false (by rw[q_f hb];rfl)).mono ?_;rintro e w' ⟨rfl,rfl⟩;have HD2:Hid (Dig (l.take (k+1))):=Dig.snoc_take (by rw[hlen.out];exact hlt) HD.out hz.out (by omega);go_wp2
    go_round
    case rel=>exact⟨k+1,by omega,by go_num,HD2.out⟩
    case measure=>simp[intOf];omega
  ·have HR:Hid (JA l=false):=q0q (by have:=HD.out;rwa [List.take_of_length_le (by rw[hlen.out];omega)] at this);go_wp2;rw[hP.out];exact⟨⟨_,rfl,by rw[Hid,HR.out];rfl⟩,rfl⟩
theorem Qr(h:Gs N w s l) :
  Calls Tryz.prog 237 #[s,.func (.func 238) #[] #[]] w fun e w'=>e=.returned (.bool (JA l))/\w=w':=by
 obtain⟨r,hr⟩:=qf (JA l);rw[<-hr.out];go_enter Tryz.func237,Tryz.ntmps237;go_wp2_with (go_at_call 253;refine q_o ?_);refine (Xu h).mono ?_;rintro e w' ⟨⟨z,rfl,hz⟩,rfl⟩;have HR:Hid (decide (0<=z)=r):=by rw[Hid,<-hz.out,hr.out]
 go_wp2;go_ret;exact⟨qx HR.out,rfl⟩
theorem WU {neg:Bool}(hn:l.length=n) (h0:0<n)(hz:z=((l[n-1]?.getD 0:Nat):Int)):okB neg l=(z != 0 && !JA l):=by
 unfold okB JA;rw[if_neg (by intro e;rw[e] at hn;simp at hn;omega)]
 have e:l.getLast?=some (l[n-1]?.getD 0):=by
  rw[List.getLast?_eq_getElem?,hn,List.getElem?_eq_getElem (by omega)];rfl
 rw[e,Bool.not_not,Bool.and_comm];subst hz
 by_cases hx0:l[n-1]?.getD 0=0
 ·rw[hx0];rfl
 ·have h1:((l[n-1]?.getD 0:Nat):Int)≠0:=by omega
  rw[bne_iff_ne.2 h1,bne_iff_ne.2 (fun e=>hx0 (Option.some.inj e))]
theorem Xt{neg:Bool}(h:Gs N w s l) :
  Calls Tryz.prog 209 #[.agg #[.bool neg,s]] w (qH w (.bool (okB neg l))):=by
 obtain⟨r,hr⟩:=qf (okB neg l);rw[<-hr.out];obtain⟨A,n,c,rfl,hlen,h2,h3⟩:=h.form
 rcases Nat.eq_zero_or_pos n with h0|h0
 ·subst h0;have HR:Hid (r=!neg):=by rw[Hid,hr.out,List.eq_nil_of_length_eq_zero hlen.out];rfl
  go_enter Tryz.func209,Tryz.ntmps209;go_wp2;go_ret;exact⟨qx HR.out.symm,(Ext.refl _).alloc _⟩
 ·obtain⟨b,off,z,hA,hb0,g,z0,z1,hz⟩:=h.at_ (k:=n-1) (by omega);have HK:Hid (r=(z != 0 && !JA l)):=hr.out.trans (WU hlen.out h0 hz.out);have h0':((n:Int) == 0)=false:=by simp;omega
  by_cases hz0:z=0
  ·have HR:Hid (r=false):=by rw[Hid,HK.out,hz0];rfl
   subst hz0 hA;go_enter Tryz.func209,Tryz.ntmps209;go_wp2;go_ret;exact⟨qx HR.out.symm,(Ext.refl _).alloc _⟩
  ·have hzb:(z == 0)=false:=by simpa using hz0
   have HR:Hid (r=!JA l):=by rw[Hid,HK.out,bne,hzb];rfl
   subst hA;go_enter Tryz.func209,Tryz.ntmps209;go_wp2_with (go_at_call 237;refine q_o ?_);refine (Qr (h.ext ((Ext.refl _).alloc _))).mono ?_;rintro e w' ⟨rfl,rfl⟩;go_wp2;go_ret;exact⟨qx HK.out.symm,(Ext.refl _).alloc _⟩
theorem Zd{b:Bool}(h:jA N w (.agg #[.bool b,.slice A n c]) z) :
  Calls Tryz.prog 220 #[.agg #[.bool b,.slice A n c]] w (qH w (.slice A n c)):=by
 obtain⟨s,hv,hs⟩:=h;have hv':(.bool b:Value)=.bool (decide (z<0))/\(.slice A n c:Value)=s:=by simpa using hv
 obtain⟨hb,rfl⟩:=hv'
 have HO:Hid (okB b (dg z.natAbs)=true):=by
  injection hb with hb;rw[Hid,hb];exact jV z
 clear hv hb;go_enter Tryz.func220,Tryz.ntmps220;go_wp2_with (go_at_call 209;refine q_o ?_);refine (Xt (hs.ext ((Ext.refl w).alloc _))).mono ?_;rintro e w1 ⟨rfl,e1⟩;rw[HO.out];obtain⟨hE,hsz,B0⟩:=QN e1;obtain⟨a0,a1,a2,a3⟩:=cells2 B0;go_wp2;go_ret;exact⟨rfl,hE⟩
theorem jA.parts(h:jA N w v z):∃(b:Bool) (A:Option Addr) (n c:Nat),v=.agg #[.bool b,.slice A n c]/\Hid (b=decide (z<0))/\Gs N w (.slice A n c) (dg z.natAbs)/\n=ln z.natAbs:=by
 obtain⟨s,rfl,hs⟩:=h;obtain⟨A,n,c,rfl,hl,-,-⟩:=hs.form;exact⟨_,A,n,c,rfl,rfl,hs,hl.out.symm⟩
theorem jA.mk{b:Bool}(hb:Hid (b=decide (z<0))) (h:Gs N w (.slice A n c) (dg z.natAbs)):jA N w (.agg #[.bool b,.slice A n c]) z:=⟨_,by rw[hb.out],h⟩
end
section
def sum:Nat->(Nat->Rat)->Rat
 | 0,_=>0
 | n+1,f=>sum n f+f n
end
section
open Go.RowKit
structure Chg (lo hi:Nat) (w w':World):Prop where
 os:w'.os=w.os
 tape:w'.tape=w.tape
 output:w'.output=w.output
 size:w.heap.size<=w'.heap.size
 block:∀k,k<w.heap.size->(k<lo\/hi<=k\/∃cs fr,w.heap[k]?=some (.cells cs 196 fr))->w'.heap[k]?=w.heap[k]?
theorem Ext.chg(h:Ext w w') (lo hi:Nat):Chg lo hi w w':=by
 have h':Below w.heap.size w w':=h;exact⟨h'.os,h'.tape,h'.output,h'.size,fun k hk _=>h'.block k hk⟩
theorem Chg.refl (lo hi:Nat) (w:World):Chg lo hi w w:=(Ext.refl w).chg lo hi
theorem Chg.trans{a b c:World}(h:Chg lo hi a b) (h':Chg lo hi b c):Chg lo hi a c :=
 ⟨h'.os.trans h.os,h'.tape.trans h.tape,h'.output.trans h.output,q_l h.size h'.size,fun k hk hc=>by
  have e:=h.block k hk hc;rw[<-e];refine h'.block k (Nat.lt_of_lt_of_le hk h.size) ?_
  rcases hc with hc|hc|⟨cs,fr,hc⟩
  ·exact .inl hc
  ·exact .inr (.inl hc)
  ·exact .inr (.inr ⟨cs,fr,e.trans hc⟩)⟩
theorem Chg.wide {lo' hi':Nat}(h:Chg lo hi w w') (h1:lo'<=lo) (h2:hi<=hi'):Chg lo' hi' w w' :=
 ⟨h.os,h.tape,h.output,h.size,fun k hk hc=>h.block k hk (hc.imp (fun h=>by omega) (fun h=>h.imp (fun h=>by omega) id))⟩
theorem Upd.chg(h:Upd g w w') (ht:NoU w g):Chg g (g+1) w w' :=
 ⟨h.os,h.tape,h.output,by rw[h.size];exact q_r,fun k _ hc=>h.block k (by
  rintro rfl
  rcases hc with hc|hc|⟨cs,fr,hc⟩
  ·omega
  ·omega
  ·exact ht cs fr hc)⟩
theorem Chg.ext{a:World}(h:Chg lo hi w w') (e:Ext a w) (hl:a.heap.size<=lo):Ext a w':=by
 have e':Below a.heap.size a w:=e;exact⟨h.os.trans e'.os,h.tape.trans e'.tape,h.output.trans e'.output,q_l e'.size h.size,fun k hk=>(h.block k (Nat.lt_of_lt_of_le hk e'.size) (.inl (by omega))).trans (e'.block k hk)⟩
theorem qK{o:Obj}(h:w.heap[k]?=some o):k<w.heap.size:=by
 rcases Nat.lt_or_ge k w.heap.size with h1|h1
 ·exact h1
 ·rw[Array.getElem?_eq_none h1] at h;cases h
theorem Chg.blk(h:Chg lo hi w w'){o:Obj}(hk:w.heap[k]?=some o) (hc:k<lo\/hi<=k):w'.heap[k]?=some o :=
 (h.block k (qK hk) (hc.imp id .inl)).trans hk
theorem cell_lt{p:Addr}(h:w.cell? p=some v):p.block<w.heap.size:=World.block_lt_of_cell? w p h
theorem Chg.cell(h:Chg lo hi w w'){p:Addr}(hp:w.cell? p=some v) (hc:p.block<lo\/hi<=p.block):w'.cell? p=some v:=by
 have e:=h.block p.block (cell_lt hp) (hc.imp id .inl);rw[World.cell?_of_block (w:=w) e];exact hp
theorem Gs.chg(h:Gs N w v l) (c:Chg lo hi w w') (hN:N<=lo):Gs N w' v l:=by
 obtain⟨hN',A,n,k,hv,h1,h2,h3,h4,h5⟩:=h;refine⟨q_l hN' c.size,A,n,k,hv,h1,h2,h3,h4,fun hn=>?_⟩;obtain⟨b,off,hA,⟨hs1,hs2⟩,hc⟩:=h5 hn;have e:w'.heap[b]?=w.heap[b]?:=c.block b hs1 (hs2.imp (fun h=>by omega) (fun h=>.inr h));refine⟨b,off,hA,⟨Nat.lt_of_lt_of_le hs1 c.size,?_⟩,fun i hi=>by rw[World.cell?_of_block (w:=w) e];exact hc i hi⟩
 rcases hs2 with hs2|⟨cs,fr,hs2⟩
 ·exact .inl hs2
 ·exact .inr ⟨cs,fr,e.trans hs2⟩
end
section
section
variable {P:Program}{ops:Array Oper}{Q:Exit->Act->World->Prop}{S:World->Prop}{late:List Nat}
def YT (ops:Array Oper) (i:Nat):List Nat :=
 match ops[i]? with
 | some o=>(o.after.toList.filter (fun e=>Region.binds .any e)).map (·.on)
 | none=>[]
def sweep (ops:Array Oper):Nat->List Nat->List Nat
 | 0,s=>s
 | i+1,s=>sweep ops i (if s.contains i then YT ops i++s else s)
def ZI (ops:Array Oper) (late:List Nat) (i:Nat):Bool :=
 !late.contains i&&late.all fun t=>(sweep ops t (YT ops t)).contains i
def Closed (ops:Array Oper) (listed:Array Bool):Prop:=∀i,listed.getD i false=true->∀j∈YT ops i,listed.getD j false=true
theorem wS {listed:Array Bool}(h:i∈Region.ready .any ops listed):∀j∈YT ops i,listed.getD j false=true:=by
 obtain⟨_,o,ho,hall⟩:=mem_ready.1 h;intro j hj;unfold YT at hj;rw[ho] at hj;simp only[List.mem_map,List.mem_filter] at hj;obtain⟨e,⟨he,hb⟩,rfl⟩:=hj;exact hall e (by simpa using he) hb
theorem Closed.start (n:Nat):Closed ops (Array.replicate n false):=by
 intro i hi
 exfalso
 rw[Array.getD_eq_getD_getElem?,Array.getElem?_replicate] at hi
 split at hi<;>simp at hi
theorem Closed.set {listed:Array Bool}(h:Closed ops listed)(hi:i∈Region.ready .any ops listed):Closed ops (listed.setIfInBounds i true):=by
 intro k hk j hj
 by_cases hki:i=k
 ·subst hki;exact getD_set_true (wS hi j hj)
 ·rw[Go.getD_set_ne false hki] at hk;exact getD_set_true (h k hk j hj)
theorem yM {listed:Array Bool}(h:Closed ops listed):∀(n:Nat) (s:List Nat),(∀j∈s,listed.getD j false=true)->∀j∈sweep ops n s,listed.getD j false=true
 | 0,_,hs=>hs
 | n+1,s,hs=>by
  unfold sweep;refine yM h n _ ?_
  split
  ·rename_i hc
   intro j hj
   rcases List.mem_append.1 hj with h1|h1
   ·exact h n (hs n (by simpa using hc)) j h1
   ·exact hs j h1
  ·exact hs
theorem Xn(hl:ZI ops late i=true){listed:Array Bool}(h:Closed ops listed){t:Nat}(ht:t∈Region.ready .any ops listed) (htl:late.contains t=true):listed.getD i false=true:=by
 unfold ZI at hl;rw[Bool.and_eq_true] at hl;have h2:=List.all_eq_true.1 hl.2 t (by simpa using htl);exact yM h t _ (wS ht) i (by simpa using h2)
def q1Z (P:Program) (ops:Array Oper) (Q:Exit->Act->World->Prop) (S:World->Prop) (late:List Nat):Nat->Array Bool->Act->World->Prop
 | 0,listed,a,w=>Region.ready .any ops listed=[]/\Q .normal a w
 | fuel+1,listed,a,w =>
  (Region.ready .any ops listed=[]->Q .normal a w) /\
  ∀i∈Region.ready .any ops listed,wpOp P ops Q i (fun a' w'=>(late.contains i=false->S w->S w')/\q1Z P ops Q S late fuel (listed.setIfInBounds i true) a' w') a w
theorem Qg:∀(fuel:Nat) (listed:Array Bool) (a:Act) (w:World),q1Z P ops Q S late fuel listed a w->wpAny P .any ops Q fuel listed a w
 | 0,_,_,_,h=>h
 | fuel+1,_,_,_,h=>⟨h.1,fun i hi=>wpOp_mono (fun a' w' h'=>Qg fuel _ a' w' h'.2) (h.2 i hi)⟩
theorem ZV {listed:Array Bool}(h:i∈Region.ready .any ops listed):listed.getD i false=false:=by
 have h0:=(mem_ready.1 h).1
 rcases Nat.lt_or_ge i listed.size with h'|h'
 ·simp[h'] at h0 ⊢;exact h0
 ·simp[Array.getElem?_eq_none h']
theorem Yg{oi:Oper}(hi:ops[i]?=some oi) (hl:ZI ops late i=true) (hsel:∀(j:Nat) (o:Oper) cs b,ops[j]?=some o->o.op≠.select cs b)
  (hQ:∀c a w,Q (.panic c) (a.put oi.dst v) w->Q (.panic c) a w) :
  ∀(fuel:Nat) (listed:Array Bool) (a:Act) (w:World),Closed ops listed ->
   (∀j oj,ops[j]?=some oj->j≠i->listed.getD j true=false->(∀e∈oj.after,Region.binds .any e=true->e.on≠i)->oi.apart ops oj=true) ->
   i∈Region.ready .any ops listed->YieldsIf P ops S oi v a->S w ->
   q1Z P ops Q S late fuel (listed.setIfInBounds i true) (a.put oi.dst v) w->q1Z P ops Q S late (fuel+1) listed a w:=by
 intro fuel
 induction fuel with
 | zero =>
  intro listed a w _ _ hr hy hS H;refine⟨fun h=>(by rw[h] at hr;cases hr),fun j hj=>?_⟩
  by_cases hji:j=i
  ·subst hji;exact hy.wpOp hi hS ⟨fun _ h=>h,H⟩
  ·have:=ready_mono hj hji;rw[H.1] at this;cases this
 | succ fuel ih =>
  intro listed a w hcl hfree hr hy hS H;refine⟨fun h=>(by rw[h] at hr;cases hr),fun j hj=>?_⟩
  by_cases hji:j=i
  ·subst hji;exact hy.wpOp hi hS ⟨fun _ h=>h,H⟩
  ·have h1:=H.2 j (ready_mono hj hji);obtain⟨hjun,oj,hoj,hall⟩:=mem_ready.1 hj;have hun:=ZV hr
   have hjt:late.contains j=false:=by
    cases hc:late.contains j with
    | false=>rfl
    | true =>
     have:=Xn hl hcl hj hc;rw[hun] at this;cases this
   have hnot:∀e∈oj.after,Region.binds .any e=true->e.on≠i:=fun e he hb heq=>by
    have h2:=hall e he hb;rw[heq,hun] at h2;cases h2
   have h2:=wpOp_putIf hoj (hfree j oj hoj hji hjun hnot) (fun cs b=>hsel i oi cs b hi) (fun cs b=>hsel j oj cs b hoj) hQ hy h1
   have hfree':∀k ok,ops[k]?=some ok->k≠i->(listed.setIfInBounds j true).getD k true=false ->
     (∀e∈ok.after,Region.binds .any e=true->e.on≠i)->oi.apart ops ok=true:=fun k ok hk hki hun' hno=>by
    refine hfree k ok hk hki ?_ hno
    by_cases hjk:j=k
    ·subst hjk;exact hjun
    ·rw[Go.getD_set_ne true hjk] at hun';exact hun'
   refine wpOp_mono (fun a' w' h3=>⟨h3.2.1,ih (listed.setIfInBounds j true) a' w' (hcl.set hj) hfree' (ready_mono hr (Ne.symm hji)) h3.1 (h3.2.1 hjt hS) ?_⟩) h2;rw[Array.setIfInBounds_comm _ _ hji];exact h3.2.2
theorem VX{oi:Oper}(hi:ops[i]?=some oi) (hsel:∀(j:Nat) (o:Oper) cs b,ops[j]?=some o->o.op≠.select cs b)
  (hQ:∀c a w,Q (.panic c) (a.put oi.dst v) w->Q (.panic c) a w) :
  ∀(fuel:Nat) (listed:Array Bool) (a:Act) (w:World),
   (∀j oj,ops[j]?=some oj->j≠i->listed.getD j true=false->(∀e∈oj.after,Region.binds .any e=true->e.on≠i)->oi.apart ops oj=true) ->
   i∈Region.ready .any ops listed->YieldsIf P ops (fun _=>True) oi v a ->
   q1Z P ops Q S late fuel (listed.setIfInBounds i true) (a.put oi.dst v) w->q1Z P ops Q S late (fuel+1) listed a w:=by
 intro fuel
 induction fuel with
 | zero =>
  intro listed a w _ hr hy H;refine⟨fun h=>(by rw[h] at hr;cases hr),fun j hj=>?_⟩
  by_cases hji:j=i
  ·subst hji;exact hy.wpOp hi trivial ⟨fun _ h=>h,H⟩
  ·have:=ready_mono hj hji;rw[H.1] at this;cases this
 | succ fuel ih =>
  intro listed a w hfree hr hy H;refine⟨fun h=>(by rw[h] at hr;cases hr),fun j hj=>?_⟩
  by_cases hji:j=i
  ·subst hji;exact hy.wpOp hi trivial ⟨fun _ h=>h,H⟩
  ·have h1:=H.2 j (ready_mono hj hji);obtain⟨hjun,oj,hoj,hall⟩:=mem_ready.1 hj;have hun:=ZV hr
   have hnot:∀e∈oj.after,Region.binds .any e=true->e.on≠i:=fun e he hb heq=>by
    have h2:=hall e he hb;rw[heq,hun] at h2;cases h2
   have h2:=wpOp_putIf hoj (hfree j oj hoj hji hjun hnot) (fun cs b=>hsel i oi cs b hi) (fun cs b=>hsel j oj cs b hoj) hQ hy h1
   have hfree':∀k ok,ops[k]?=some ok->k≠i->(listed.setIfInBounds j true).getD k true=false ->
     (∀e∈ok.after,Region.binds .any e=true->e.on≠i)->oi.apart ops ok=true:=fun k ok hk hki hun' hno=>by
    refine hfree k ok hk hki ?_ hno
    by_cases hjk:j=k
    ·subst hjk;exact hjun
    ·rw[Go.getD_set_ne true hjk] at hun';exact hun'
   refine wpOp_mono (fun a' w' h3=>⟨h3.2.1,ih (listed.setIfInBounds j true) a' w' hfree' (ready_mono hr (Ne.symm hji)) h3.1 ?_⟩) h2;rw[Array.setIfInBounds_comm _ _ hji];exact h3.2.2
def xk (P:Program) (ops:Array Oper) (Q:Exit->Act->World->Prop) (S:World->Prop) (late:List Nat) (fuel:Nat) (listed:Array Bool) (a:Act) (w:World):Prop:=Closed ops listed->q1Z P ops Q S late fuel listed a w
theorem JP{oi:Oper}{fuel:Nat}{listed:Array Bool}{a:Act}(hi:ops.toList[i]?=some oi) (hl:ZI ops late i=true)
  (hs:Region.noSelect ops=true) (hf:Region.free .any ops listed i=true) (hr:(Region.ready .any ops listed).contains i=true)
  (hQ:∀c a w,Q (.panic c) (a.put oi.dst v) w->Q (.panic c) a w) (hy:YieldsIf P ops S oi v a) (hS:S w)
  (h:xk P ops Q S late fuel (listed.setIfInBounds i true) (a.put oi.dst v) w):xk P ops Q S late (fuel+1) listed a w:=fun hcl =>
 have hi':ops[i]?=some oi:=by rw[<-Array.getElem?_toList];exact hi
 Yg hi' hl (Region.noSelect_spec hs) hQ fuel listed a w hcl (Region.free_spec hi' hf) (by simpa using hr) hy hS (h (hcl.set (by simpa using hr)))
theorem Qy{oi:Oper}{fuel:Nat}{listed:Array Bool}{a:Act}(hi:ops.toList[i]?=some oi)
  (hs:Region.noSelect ops=true) (hf:Region.free .any ops listed i=true) (hr:(Region.ready .any ops listed).contains i=true)
  (hQ:∀c a w,Q (.panic c) (a.put oi.dst v) w->Q (.panic c) a w) (hy:YieldsIf P ops (fun _=>True) oi v a)
  (h:xk P ops Q S late fuel (listed.setIfInBounds i true) (a.put oi.dst v) w):xk P ops Q S late (fuel+1) listed a w:=fun hcl =>
 have hi':ops[i]?=some oi:=by rw[<-Array.getElem?_toList];exact hi
 VX hi' (Region.noSelect_spec hs) hQ fuel listed a w (Region.free_spec hi' hf) (by simpa using hr) hy (h (hcl.set (by simpa using hr)))
theorem nr:(∀(a:Act) (d:Tmp) (v:Value),a.put (some d) v={ a with tmps:=a.tmps.setIfInBounds d v })/\(∀(a:Act) (v:Value),a.put none v=a)/\(∀(l:List Value) (i:Nat) (v:Value),l.toArray.setIfInBounds i v=(l.set i v).toArray)/\(∀(x:Value) (l:List Value) (v:Value),(x :: l).set 0 v=v :: l)/\(∀(x:Value) (l:List Value) (i:Nat) (v:Value),(x :: l).set (i+1) v=x :: l.set i v) :=
 ⟨fun _ _ _=>rfl,fun _ _=>rfl,fun _ _ _=>by simp,fun _ _ _=>rfl,fun _ _ _ _=>rfl⟩
theorem sP (i:Nat){oi:Oper}{fuel:Nat}{listed:Array Bool}{a:Act}(hi:ops.toList[i]?=some oi:=by rfl)
  (hs:Region.noSelect ops=true:=by kernel_rfl) (hf:Region.free .any ops listed i=true:=by kernel_rfl) (hr:(Region.ready .any ops listed).contains i=true:=by kernel_rfl)
  (hQ:∀c a w,Q (.panic c) (a.put oi.dst v) w->Q (.panic c) a w:=by exact fun _ _ _ h=>h) (hg:Region.wanted oi (yielded ops a.tmps)=true:=by rfl)
  (hy:∀w,True->(execOp a.eval oi).run P w=.ok (.value v) w:=by (intro w hSw;(try dsimp only at hSw);go_simp;(try (rw[if_pos (by omega)]));(try with_reducible rfl)))
  {L':Array Bool}{A':Act}(hL:listed.setIfInBounds i true=L':=by first|(simp only[nr];done)|(simp only[nr];rfl)|rfl) (hA:a.put oi.dst v=A':=by first|(simp only[nr];done)|(simp only[nr];rfl)|rfl)
  (h:xk P ops Q S late fuel L' A' w):xk P ops Q S late (fuel+1) listed a w :=
 Qy hi hs hf hr hQ (Or.inl ⟨hg,hy⟩) (by rw[hL,hA];exact h)
theorem sT (i:Nat){oi:Oper}{fuel:Nat}{listed:Array Bool}{a:Act}(hi:ops.toList[i]?=some oi:=by rfl) (hl:ZI ops late i=true:=by kernel_rfl)
  (hs:Region.noSelect ops=true:=by kernel_rfl) (hf:Region.free .any ops listed i=true:=by kernel_rfl) (hr:(Region.ready .any ops listed).contains i=true:=by kernel_rfl)
  (hQ:∀c a w,Q (.panic c) (a.put oi.dst v) w->Q (.panic c) a w:=by exact fun _ _ _ h=>h) (hg:Region.wanted oi (yielded ops a.tmps)=true:=by rfl)
  (hy:∀w,S w->(execOp a.eval oi).run P w=.ok (.value v) w:=by (intro w hSw;(try dsimp only at hSw);go_simp;(try (rw[if_pos (by omega)]));(try with_reducible rfl))) (hS:S w:=by assumption)
  {L':Array Bool}{A':Act}(hL:listed.setIfInBounds i true=L':=by first|(simp only[nr];done)|(simp only[nr];rfl)|rfl) (hA:a.put oi.dst v=A':=by first|(simp only[nr];done)|(simp only[nr];rfl)|rfl)
  (h:xk P ops Q S late fuel L' A' w):xk P ops Q S late (fuel+1) listed a w :=
 JP hi hl hs hf hr hQ (Or.inl ⟨hg,hy⟩) hS (by rw[hL,hA];exact h)
theorem qg{o:Oper}{fuel:Nat}{listed:Array Bool}{a:Act}(hi:ops.toList[i]?=some o) (hr:Region.ready .any ops listed=[i])
  (h:∀K':Act->World->Prop,Shut (∀a w,S w->(S w->xk P ops Q S late fuel (listed.setIfInBounds i true) a w)->K' a w)->if Region.wanted o (yielded ops a.tmps)=true then Oper.wp P o a w K' Q else K' (a.put o.dst undef) w) :
  xk P ops Q S late (fuel+1) listed a w:=fun hcl=>by
 refine⟨fun h0=>(by rw[hr] at h0;cases h0),fun j hj=>?_⟩;have hj':j=i:=by rw[hr] at hj;simpa using hj
 subst hj';have hi':ops[j]?=some o:=by rw[<-Array.getElem?_toList];exact hi
 exact wpOp_step hi' (fun K' hK=>h K' (fun a w hS hW=>hK a w ⟨fun _ _=>hS,hW hS (hcl.set hj)⟩))
theorem xQ{o o':Oper}{fuel:Nat}{listed:Array Bool}{a:Act}(hi:ops.toList[i]?=some o) (hj:ops.toList[j]?=some o') (hr:Region.ready .any ops listed=[i,j])
  (h:∀K':Act->World->Prop,Shut (∀a w,S w->(S w->xk P ops Q S late fuel (listed.setIfInBounds i true) a w)->K' a w)->if Region.wanted o (yielded ops a.tmps)=true then Oper.wp P o a w K' Q else K' (a.put o.dst undef) w)
  (h':∀K':Act->World->Prop,Shut (∀a w,S w->(S w->xk P ops Q S late fuel (listed.setIfInBounds j true) a w)->K' a w)->if Region.wanted o' (yielded ops a.tmps)=true then Oper.wp P o' a w K' Q else K' (a.put o'.dst undef) w) :
  xk P ops Q S late (fuel+1) listed a w:=fun hcl=>by
 refine⟨fun h0=>(by rw[hr] at h0;cases h0),fun k hk=>?_⟩;have hk':k=i\/k=j:=by rw[hr] at hk;simpa using hk
 rcases hk' with rfl|rfl
 ·have hi':ops[k]?=some o:=by rw[<-Array.getElem?_toList];exact hi
  exact wpOp_step hi' (fun K' hK=>h K' (fun a w hS hW=>hK a w ⟨fun _ _=>hS,hW hS (hcl.set hk)⟩))
 ·have hj':ops[k]?=some o':=by rw[<-Array.getElem?_toList];exact hj
  exact wpOp_step hj' (fun K' hK=>h' K' (fun a w hS hW=>hK a w ⟨fun _ _=>hS,hW hS (hcl.set hk)⟩))
theorem qC{o:Oper}{fuel:Nat}{listed:Array Bool}{a:Act}(hi:ops.toList[i]?=some o) (hr:Region.ready .any ops listed=[i]) (hc:late.contains i=true)
  (h:∀K':Act->World->Prop,Shut (∀a w,xk P ops Q S late fuel (listed.setIfInBounds i true) a w->K' a w)->if Region.wanted o (yielded ops a.tmps)=true then Oper.wp P o a w K' Q else K' (a.put o.dst undef) w) :
  xk P ops Q S late (fuel+1) listed a w:=fun hcl=>by
 refine⟨fun h0=>(by rw[hr] at h0;cases h0),fun j hj=>?_⟩;have hj':j=i:=by rw[hr] at hj;simpa using hj
 subst hj';have hi':ops[j]?=some o:=by rw[<-Array.getElem?_toList];exact hi
 exact wpOp_step hi' (fun K' hK=>h K' (fun a w hW=>hK a w ⟨fun h0=>(by rw[hc] at h0;cases h0),hW (hcl.set hj)⟩))
theorem qm {listed:Array Bool}{a:Act}(hr:Region.ready .any ops listed=[]) (h:Q .normal a w):∀fuel,xk P ops Q S late fuel listed a w
 | 0=>fun _=>⟨hr,h⟩
 | _+1=>fun _=>⟨fun _=>h,by rw[hr];simp⟩
theorem ql (S:World->Prop) (late:List Nat){id:Nat}{a:Act}(hm:P.follows .mixedOrders=true) (hS:S w.drew)
  (h:S w.drew->xk P ops Q S late ops.size (Array.replicate ops.size false) a w.drew):(Code.region id ops true).wp P Q a w :=
 wp_region_any hm (Qg _ _ _ _ (h hS (Closed.start _)))
end
end
section
open Go.RowKit
def U64 (x:Int):Prop:=0<=x/\x<18446744073709551616
theorem QO:IntKind.u8.wrap z=z % 256:=by unfold IntKind.wrap;rfl
theorem wrap64:IntKind.u64.wrap z=z % 18446744073709551616:=by unfold IntKind.wrap;rfl
theorem q0R {y:Int}(hy:U64 y):bits .or .u64 (IntKind.u64.wrap (y*32)) (y / 576460752303423488)=((q1l y.toNat:Nat):Int):=by
 obtain⟨h1,h2⟩:=hy;obtain⟨k,rfl⟩:=Int.eq_ofNat_of_zero_le h1
 have e1:IntKind.u64.wrap ((k:Int)*32)=((k*32 % 18446744073709551616:Nat):Int):=by
  rw[wrap64,Int.natCast_emod,Int.natCast_mul]
  rfl
 have e2:(k:Int) / 576460752303423488=((k / 576460752303423488:Nat):Int):=by
  rw[Int.natCast_ediv]
  rfl
 rw[e1,e2,bits_or_u64_nat _ _ (Nat.mod_lt _ (by decide)) (by omega)]
 rfl
def ByV (w:World) (v:Value) (l:Byt):Prop:=∃(A:Option Addr) (c:Nat),v=.slice A l.length c/\l.length<=c/\c<=maxLen/\(0<l.length->∃b off,A=some ⟨b,off,none⟩/\∀i,i<l.length->w.cell? ⟨b,off+i,none⟩=some (.int .u8 (chZ l i)))
theorem ByV.ext{l:Byt}(h:ByV w v l) (e:Ext w w'):ByV w' v l:=by
 obtain⟨A,c,hv,h1,h2,h3⟩:=h;refine⟨A,c,hv,h1,h2,fun h=>?_⟩;obtain⟨b,off,hA,hc⟩:=h3 h;exact⟨b,off,hA,fun i hi=>e.cell (hc i hi)⟩
theorem q1Q {y:Int}(hy:U64 y) (w:World) :
  Calls Tryz.prog 176 #[.int .u64 y,.int .i64 5] w (qH w (.int .u64 ((q1l y.toNat:Nat):Int))):=by
 obtain⟨r,hr⟩:=qf (((q1l y.toNat:Nat):Int));rw[<-hr.out];have t1:bits .and .u64 5 63=5:=bits_and_u64_nat 5 63 (by decide) (by decide)
 have t4:bits .or .u64 (IntKind.u64.wrap (y*32)) (y / 576460752303423488)=r:=by
  rw[hr.out];exact q0R hy
 go_enter Tryz.func176,Tryz.ntmps176;go_wp2
 first|go_ret|skip
 exact⟨rfl,Ext.refl _⟩
theorem q0I {x c:Int}(hx:U64 x) (hc:0<=c/\c<=255):bits .xor .u64 x c=((x.toNat ^^^ c.toNat:Nat):Int):=by
 obtain⟨h1,h2⟩:=hx;obtain⟨k,rfl⟩:=Int.eq_ofNat_of_zero_le h1;obtain⟨n,rfl⟩:=Int.eq_ofNat_of_zero_le hc.1;rw[bits_xor_u64_nat k n (by omega) (by omega)]
 rfl
theorem q17 {x c:Int}(hx:U64 x) (hc:0<=c/\c<=255):IntKind.u64.wrap (bits .xor .u64 x c*1099511628211)=((dgX x.toNat c.toNat:Nat):Int):=by
 rw[q0I hx hc,wrap64];unfold dgX;rw[Int.natCast_emod,Int.natCast_mul]
 rfl
theorem VA (x c:Nat):dgX x c<18446744073709551616:=by unfold dgX;exact Nat.mod_lt _ (by decide)
theorem m64:(18446744073709551616:Nat)=2 ^ 64:=by decide
theorem xor64 {a:Nat}(ha:a<18446744073709551616) (hc:c<256):a ^^^ c<18446744073709551616:=by
 rw[m64] at ha ⊢;exact Nat.xor_lt_two_pow ha (Nat.lt_of_lt_of_le hc (by decide))
theorem Vz {x y:Nat}(hc:c<256):dgY x y c<18446744073709551616:=by
 unfold dgY;exact xor64 (Nat.mod_lt _ (by decide)) hc
theorem c64:((18446744073709551616:Nat):Int)=18446744073709551616:=rfl
theorem sum64 (a b:Nat):IntKind.u64.wrap ((a:Int)+(b:Int))=(((a+b) % 18446744073709551616:Nat):Int):=by
 rw[wrap64,Int.natCast_emod,Int.natCast_add,c64]
theorem wo {a:Nat}(h:a<18446744073709551616):U64 (a:Int):=⟨by omega,by omega⟩
theorem q15 {x y c:Int}(hc:0<=c/\c<=255):bits .xor .u64 (IntKind.u64.wrap (((q1l y.toNat:Nat):Int)+((dgX x.toNat c.toNat:Nat):Int))) c=((dgY x.toNat y.toNat c.toNat:Nat):Int):=by
 rw[sum64,q0I (wo (Nat.mod_lt _ (by decide))) hc,Int.toNat_natCast];unfold dgY;exact rfl
def Yl (w:World) (g:Nat) (s:Nat×Nat):Prop:=w.heap[g]?=some (.cells #[.int .u64 (s.1:Int)] 198 (0,0))/\w.heap[g+1]?=some (.cells #[.int .u64 (s.2:Int)] 198 (0,0))/\s.1<18446744073709551616/\s.2<18446744073709551616
theorem VK{s:Nat×Nat}{ch:UInt8}(h:Yl w g s) :
  Calls Tryz.prog 175 #[.int .u8 (ch.toNat:Int),.pointer (some ⟨g,0,none⟩),.pointer (some ⟨g+1,0,none⟩)] w (fun e w'=>e=.returned (.tuple #[])/\Yl w' g (dgS s ch)/\Chg g (g+2) w w'):=by
 obtain⟨h0,h1,hx,hy⟩:=h;obtain⟨x,hxx⟩:=qf (s.1:Int);obtain⟨y,hyy⟩:=qf (s.2:Int);obtain⟨c,hcc⟩:=qf (ch.toNat:Int);obtain⟨Q,hQ⟩:=qf (fun (e:Ending) (w':World)=>e=.returned (.tuple #[])/\Yl w' g (dgS s ch)/\Chg g (g+2) w w');rw[<-hQ.out];have hc:0<=c/\c<=255:=by have:=ch.toNat_lt;have:=hcc.out;omega
 have hX:U64 x:=by rw[hxx.out];exact wo hx
 have hY:U64 y:=by rw[hyy.out];exact wo hy
 rw[<-hxx.out] at h0;rw[<-hyy.out] at h1;rw[<-hcc.out];have q0:w.cell? ⟨g,0,none⟩=some (.int .u64 x):=qj h0 0;have f0:w.frozen? ⟨g,0,none⟩=false:=qp h0 0;obtain⟨xc,hxc⟩:=qf (bits .xor .u64 x c);have t1:=hxc.out.symm;have t0:IntKind.u64.wrap c=c:=by rw[wrap64];omega
 obtain⟨x',hx'⟩:=qf (((dgX s.1 ch.toNat:Nat):Int))
 have t2:IntKind.u64.wrap (xc*1099511628211)=x':=by
  rw[hxc.out,q17 hX hc,hx'.out,hxx.out,hcc.out,Int.toNat_natCast,Int.toNat_natCast]
 obtain⟨r,hr⟩:=qf (((q1l y.toNat:Nat):Int));obtain⟨v,hv⟩:=qf (IntKind.u64.wrap (r+x'));have t3:=hv.out.symm;obtain⟨y',hy'⟩:=qf (((dgY s.1 s.2 ch.toNat:Nat):Int))
 have t4:bits .xor .u64 v c=y':=by
  have h9:=q15 (x:=x) (y:=y) hc;rw[hv.out,hr.out,hx'.out,hy'.out];rw[hxx.out,hyy.out,Int.toNat_natCast,Int.toNat_natCast,hcc.out,Int.toNat_natCast] at h9;rw[hyy.out,Int.toNat_natCast,hcc.out];exact h9
 have HY:=q_h hY;have HR:=q_h hr.out;clear hX hY hc hx hy hxx hyy hcc;go_enter Tryz.func175,Tryz.ntmps175;go_upto_region 1 with (fail);obtain⟨w1,E1,B1,U1⟩:=ex1 h0 (.int .u64 x');rw[E1];have b1:=U1.blk h1 (by omega);have p0:w1.cell? ⟨g,0,none⟩=some (.int .u64 x'):=qj B1 0;have p1:w1.cell? ⟨g+1,0,none⟩=some (.int .u64 y):=qj b1 0;have C1:=U1.chg (NoU.mk h0 (by decide));clear q0 f0 E1 U1;have eC:=(Ext.refl w1).drew;refine ql (fun w'=>w'.cell? ⟨g,0,none⟩=some (.int .u64 x')/\w'.cell? ⟨g+1,0,none⟩=some (.int .u64 y)) [7] (by kernel_rfl) (by exact⟨eC.cell p0,eC.cell p1⟩) (fun hHeld=>?_);refine sT 0 (h:=?_);refine sT 2 (h:=?_);refine sP 4 (h:=?_);refine sP 5 (h:=?_);refine qg (i:=1) rfl (by kernel_rfl) (fun K hK=>?_);go_simp;refine (q1Q HY.out _).mono ?_;rintro e w2 ⟨rfl,e2⟩;rw[<-HR.out];replace eC:=eC.trans e2;go_wp2_with fail;clear hHeld;refine hK.out _ _ (by exact⟨eC.cell p0,eC.cell p1⟩) fun hHeld=>?_
 clear hK K;try simp only[nr]
 refine sP 3 (h:=?_);refine sP 6 (h:=?_);refine qC (i:=7) rfl (by kernel_rfl) (by kernel_rfl) (fun K hK=>?_);have f1:=qp (eC.block b1) 0;go_simp;refine hK.out _ _ ?_;clear hK K;try simp only[nr]
 refine qm (by kernel_rfl) ?_ _;clear hHeld;have b1':=eC.block b1;obtain⟨w3,E3,B3,U3⟩:=ex1 b1' (.int .u64 y');rw[E3];refine bodyPost_end (results_none rfl _ _ _) rfl ?_;rw[hQ.out];refine⟨rfl,⟨?_,?_,VA _ _,Vz (ch.toNat_lt)⟩,?_⟩
 ·have h9:=U3.blk (eC.block B1) (by omega);rw[hx'.out] at h9;exact h9
 ·rw[hy'.out] at B3;exact B3
 ·exact (C1.wide (q_r) (by omega)).trans ((eC.chg g (g+2)).trans ((U3.chg (NoU.mk b1' (by decide))).wide (by omega) (by omega)))
def dgC (l:Byt):Array Value:=((List.range 16).map fun i=>Value.int .u8 ((dgB l i:Nat):Int)).toArray
theorem getD_take {l:Byt}(h:i<l.length):l.take (i+1)=l.take i ++ [l.getD i 0]:=by
 rw[List.getD_eq_getElem?_getD,List.getElem?_eq_getElem h,List.take_add_one,List.getElem?_eq_getElem h]
 rfl
theorem Xf {P:Program}{k:IntKind}(y:Int) (n:Nat) (hn:n<64) (w:World):(Op.shift .shr .u64 y k (n:Int)).run P w=.ok (.int .u64 (y / 2 ^ n)) w:=by
 unfold Op.shift;rw[if_neg (by omega)]
 have e:min (n:Int).toNat IntKind.u64.bits=n:=by
  have:IntKind.u64.bits=64:=rfl;omega
 simp only[e];rw[Int.fdiv_eq_ediv_of_nonneg _ (Int.le_of_lt (Int.pow_pos (by decide)))]
 rfl
theorem wrp {n:Int}(h : -9223372036854775808<=n) (h':n<=9223372036854775807):IntKind.i64.wrap n=n:=by
 rw[IntKind.wrap_i64];omega
theorem qL{cs:Array Value}{t:TypeId}(hb:w.heap[g]?=some (.cells cs t (0,0))) (i:Nat) (x:Value):∃w',w.setCell ⟨g,i,none⟩ x=w'/\w'.heap[g]?=some (.cells (cs.setIfInBounds i x) t (0,0))/\Upd g w w' :=
 ⟨_,rfl,heap_set hb i x,(Upd.refl g w).set i x⟩
def dgA (l:Byt) (i:Nat):Array Value:=((List.range 16).map fun j=>Value.int .u8 (if j<i\/(8<=j/\j<8+i) then ((dgB l j:Nat):Int) else 0)).toArray
theorem Zo (l:Byt) (i:Nat):(dgA l i).size=16:=by unfold dgA;rw[List.size_toArray,List.length_map,List.length_range]
theorem Zp (l:Byt) (i:Nat)(h:j<16):(dgA l i)[j]?=some (Value.int .u8 (if j<i\/(8<=j/\j<8+i) then ((dgB l j:Nat):Int) else 0)):=by
 unfold dgA;rw[List.getElem?_toArray,List.getElem?_map,List.getElem?_range h]
 rfl
theorem q1J (l:Byt)(h:i<8):((dgA l i).setIfInBounds i (.int .u8 ((dgB l i:Nat):Int))).setIfInBounds (8+i) (.int .u8 ((dgB l (8+i):Nat):Int))=dgA l (i+1):=by
 apply Array.ext_getElem?
 intro j;rw[Array.getElem?_setIfInBounds,Array.getElem?_setIfInBounds,Array.size_setIfInBounds,Zo]
 by_cases h16:j<16
 ·rw[Zp l i h16,Zp l (i+1) h16]
  by_cases h1:8+i=j
  ·subst h1;rw[if_pos rfl,if_pos h16,if_pos (by omega)]
  ·rw[if_neg h1]
   by_cases h2:i=j
   ·subst h2;rw[if_pos rfl,if_pos h16,if_pos (by omega)]
   ·rw[if_neg h2]
    by_cases h3:j<i\/(8<=j/\j<8+i)
    ·rw[if_pos h3,if_pos (by omega)]
    ·rw[if_neg h3,if_neg (by omega)]
 ·rw[Array.getElem?_eq_none (by rw[Zo];omega),Array.getElem?_eq_none (by rw[Zo];omega),if_neg (by omega),if_neg (by omega)]
theorem q0e (l:Byt):dgA l 8=dgC l:=by
 unfold dgA dgC
 have e:(List.range 16).map (fun j=>Value.int .u8 (if j<8\/(8<=j/\j<8+8) then ((dgB l j:Nat):Int) else 0))=(List.range 16).map fun i=>Value.int .u8 ((dgB l i:Nat):Int):=by
  refine List.map_congr_left fun j hj=>?_
  rw[List.mem_range] at hj;rw[if_pos (by omega)]
 rw[e]
theorem zS (l:Byt):(dgC l).size=16:=by unfold dgC;rw[List.size_toArray,List.length_map,List.length_range]
theorem q1I (l:Byt)(h:j<16):(dgC l)[j]?=some (Value.int .u8 ((dgB l j:Nat):Int)):=by
 unfold dgC;rw[List.getElem?_toArray,List.getElem?_map,List.getElem?_range h]
 rfl
theorem XD (l:Byt):(dgC l).toList.all (·.oneCell')=true:=by
 rw[List.all_eq_true];intro v hv;unfold dgC at hv;rw[List.mem_map] at hv;obtain⟨i,-,rfl⟩:=hv
 rfl
theorem xw:(Tryz.prog.info? 176).map (·.size)=some 16:=by kernel_rfl
theorem qh {ops:Array Oper}{rest:List Oper}{o:Oper}{a:Act}{Q:Exit->Act->World->Prop}(hgd:o.guard=none) (ty:TypeId) (x y:Operand) (ho:o.op=.store ty x y){cs old:Array Value}{t:TypeId}(hx:a.eval x=.pointer (some ⟨g,0,none⟩)) (hy:a.eval y=.agg cs)
  (hg:w.heap[g]?=some (.cells old t (0,0))){sz:Nat}(hi:(Tryz.prog.info? ty).map (·.size)=some sz) (hsz:cs.size=sz) (hold:old.size=cs.size) (h1:cs.toList.all (·.oneCell')=true)
  (h:∀w',w'.heap[g]?=some (.cells cs t (0,0))->Upd g w w'->wpList Tryz.prog ops Q rest (a.put o.dst undef) w'):wpList Tryz.prog ops Q (o :: rest) a w :=
 wpList_plain hgd fun _ hK=>wp_store_row ty x y ho g _ hx hy t _ hg (by rw[hsz];exact hi) hold (by rw[<-Array.all_toList];exact h1) (hK _ _ (h _ (setRow_heap w g old cs t (0,0) hg) ⟨rfl,rfl,rfl,by simp[World.setRow],fun k hk=>setRow_other w g k cs hk⟩))
def dg0:Nat×Nat:=(14695981039346656037,1099511628211)
theorem len8_get(h:i<8):(len8 n).getD i 0=UInt8.ofNat (n / 2 ^ (8*i)):=by
 unfold len8;rw[List.getD_eq_getElem?_getD,List.getElem?_map,List.getElem?_range h]
 rfl
theorem vJ (n:Nat):(len8 n).length=8:=by unfold len8;rw[List.length_map,List.length_range]
theorem q2S {l:Byt}(h:ByV w v l):Calls Tryz.prog 133 #[v] w (qH w (.agg (dgC l))):=by
 obtain⟨A,c,rfl,hnc,hcm,hl⟩:=h;have HL:=q_h hl;unfold maxLen at hcm;obtain⟨n,hn⟩:=qf l.length;rw[<-hn.out] at HL hnc ⊢;clear hl;obtain⟨Q,hQ⟩:=qf (qH w (.agg (dgC l)));rw[<-hQ.out];go_enter Tryz.func133,Tryz.ntmps133;go_upto_region 2 with (fail);refine Jz ?_;intro W hE hsz B0 B1 B2;obtain⟨g,hg⟩:=qf (w.heap.size+1);rw[<-hg.out] at B1 B2 ⊢;have hgw:w.heap.size<g:=by have:=hg.out;omega
 have HD0:Hid (Yl W g (jJ (l.take 0) dg0)):=⟨B1,B2,(by show (14695981039346656037:Nat)<18446744073709551616;decide),(by show (1099511628211:Nat)<18446744073709551616;decide)⟩
 have HB0:=q_h B0;have HE:=q_h hE;clear B0 B1 B2 hE hg;go_wp2_with fail
 go_loopw [14] (fun iv wr=>∃i:Nat,i<=n/\iv=.int .i64 (i:Int)/\Hid (Yl wr g (jJ (l.take i) dg0))/\Hid (Chg g (g+2) W wr)) (fun iv _=>n-(intOf iv).toNat)
 case atStart=>exact⟨0,Nat.zero_le _,rfl,HD0,Chg.refl _ _ _⟩
 case round =>
  clear HD0;obtain⟨i,hi9,rfl,HD,HC⟩:=hrel
  by_cases hlt:i<n
  case pos =>
   have u1:decide ((i:Int)<(n:Int))=true:=q_t (by omega);have u1':decide (i<n)=true:=q_t hlt;have u2:(i:Int)<(n:Int):=by omega
   obtain⟨b,off,rfl,hx⟩:=HL.out (by omega);have p0:=HC.out.cell (HE.out.cell (hx i (by omega))) (.inl (Nat.lt_trans (cell_lt (hx i (by omega))) hgw));obtain⟨z,hz⟩:=qf (chZ l i);rw[<-hz.out] at p0
   have HS:Hid (Calls Tryz.prog 175 #[.int .u8 z,.pointer (some ⟨g,0,none⟩),.pointer (some ⟨g+1,0,none⟩)] wr (fun e w'=>e=.returned (.tuple #[])/\Yl w' g (dgS (jJ (l.take i) dg0) (l.getD i 0))/\Chg g (g+2) wr w')):=by
    rw[hz.out];exact VK HD.out
   clear hx;go_wp2_with (go_at_call 175;refine q_o ?_);refine HS.out.mono ?_;rintro e w2 ⟨rfl,hd,c2⟩
   have HD2:Hid (Yl w2 g (jJ (l.take (i+1)) dg0)):=by
    rw[getD_take (by have:=hn.out;omega),yf];exact hd
   have HC2:=q_h (HC.out.trans c2);clear hd c2 HS p0 HD HC;go_wp2;go_roundw
   case rel=>exact⟨i+1,by omega,by go_num,HD2,HC2⟩
   case measure=>simp[intOf];omega
  have u1:decide ((i:Int)<(n:Int))=false:=q_f (by omega);have u1':decide (i<n)=false:=q_f hlt
  have HD1:Hid (Yl wr g (jJ (l++(len8 n).take 0) dg0)):=by
   have e:l.take i=l++(len8 n).take 0:=by rw[List.take_of_length_le (by have:=hn.out;omega)];simp
   rw[<-e];exact HD.out
  obtain⟨w3,hw3⟩:∃w3,w3=wr:=⟨_,rfl⟩
  subst hw3;have HC1:=HC;clear HD HC hlt hi9;go_wp2_with fail
  go_loopw [22] (fun iv wr=>∃i:Nat,i<=8/\iv=.int .i64 (i:Int)/\Hid (Yl wr g (jJ (l++(len8 n).take i) dg0))/\Hid (Chg g (g+2) W wr)) (fun iv _=>8-(intOf iv).toNat)
  case atStart=>exact⟨0,Nat.zero_le _,rfl,HD1,HC1⟩
  case round =>
   clear HD1 HC1 u1 u1';obtain⟨i,hi9,rfl,HD,HC⟩:=hrel
   by_cases hlt:i<8
   case pos =>
    have u1:decide ((i:Int)<8)=true:=q_t (by omega);have u1':decide (i<8)=true:=q_t hlt;obtain⟨k8,hk8⟩:=qf (8*(i:Int));have u2:IntKind.i64.wrap (8*(i:Int))=k8:=by rw[hk8.out];exact wrp (by omega) (by omega)
    have u3:IntKind.u64.wrap (n:Int)=(n:Int):=by rw[wrap64];omega
    obtain⟨q,hq⟩:=qf ((n:Int) / 2 ^ (8*i))
    have u4:∀w,(Op.shift .shr .u64 (n:Int) .i64 k8).run Tryz.prog w=.ok (.int .u64 q) w:=by
     rw[hk8.out,hq.out];exact Xf (k:=.i64) (n:Int) (8*i) (by omega)
    obtain⟨z,hz⟩:=qf ((((len8 n).getD i 0).toNat:Int))
    have u5:IntKind.u8.wrap q=z:=by
     rw[hz.out,hq.out,len8_get hlt,UInt8.toNat_ofNat'];have e:(n:Int) / 2 ^ (8*i)=((n / 2 ^ (8*i):Nat):Int):=by rw[Int.natCast_ediv,Int.natCast_pow];rfl
     rw[e,QO];omega
    have HS:Hid (Calls Tryz.prog 175 #[.int .u8 z,.pointer (some ⟨g,0,none⟩),.pointer (some ⟨g+1,0,none⟩)] wr (fun e w'=>e=.returned (.tuple #[])/\Yl w' g (dgS (jJ (l++(len8 n).take i) dg0) ((len8 n).getD i 0))/\Chg g (g+2) wr w')):=by
     rw[hz.out];exact VK HD.out
    go_wp2_with (go_at_call 175;refine q_o ?_);refine HS.out.mono ?_;rintro e w2 ⟨rfl,hd,c2⟩
    have HD2:Hid (Yl w2 g (jJ (l++(len8 n).take (i+1)) dg0)):=by
     rw[getD_take (by rw[vJ];exact hlt),<-List.append_assoc,yf];exact hd
    have HC2:=q_h (HC.out.trans c2);clear hd c2 HS HD HC u2 u3 u4 u5;go_wp2;go_roundw
    case rel=>exact⟨i+1,by omega,by go_num,HD2,HC2⟩
    case measure=>simp[intOf];omega
   have u1:decide ((i:Int)<8)=false:=q_f (by omega);have u1':decide (i<8)=false:=q_f hlt
   have HD1:Hid (Yl wr g (dgW l)):=by
    have e:dgW l=jJ (l++(len8 n).take i) dg0:=by
     unfold dgW;rw[List.take_of_length_le (by rw[vJ];omega),hn.out]
     rfl
    rw[e];exact HD.out
   obtain⟨w4,hw4⟩:∃w4,w4=wr:=⟨_,rfl⟩
   subst hw4;have HC1:=HC;clear HD HC hlt hi9;go_upto_region 14 with (fail);refine qo ?_;intro w5 e5 hsz5 B5;obtain⟨g9,hg9⟩:=qf w4.heap.size;rw[<-hg9.out] at B5 ⊢;have HB5:Hid (w5.heap[g9]?=some (.cells (dgA l 0) 176 (0,0))):=B5;have HX5:Hid (Ext w4 w5):=e5;have hg9w:g+1<w4.heap.size:=qK HD1.out.2.1;have hg9':w4.heap.size<=g9:=by rw[hg9.out];exact q_r
   clear B5 e5 hsz5 hg9;go_wp2_with fail
   go_loopw [35] (fun iv wr=>∃i:Nat,i<=8/\iv=.int .i64 (i:Int)/\Hid (Ext w4 wr)/\Hid (wr.heap[g9]?=some (.cells (dgA l i) 176 (0,0)))) (fun iv _=>8-(intOf iv).toNat)
   case atStart=>exact⟨0,Nat.zero_le _,rfl,HX5,HB5⟩
   case round =>
    clear HX5 HB5 u1 u1';obtain⟨i,hi9,rfl,HX,HB⟩:=hrel
    by_cases hlt:i<8
    case pos =>
     have u1:decide ((i:Int)<8)=true:=q_t (by omega);have u1':decide (i<8)=true:=q_t hlt;obtain⟨k8,hk8⟩:=qf (8*(i:Int));have u2:IntKind.i64.wrap (8*(i:Int))=k8:=by rw[hk8.out];exact wrp (by omega) (by omega)
     obtain⟨k56,hk56⟩:=qf (((56-8*i:Nat):Int));have u3:IntKind.i64.wrap (56-k8)=k56:=by rw[hk56.out,hk8.out,wrp (by omega) (by omega)];omega
     obtain⟨j8,hj8⟩:=qf (8+i);have u4:IntKind.i64.wrap (8+(i:Int))=(j8:Int):=by rw[wrp (by omega) (by omega),hj8.out];omega
     have hj16:j8<16:=by rw[hj8.out];omega
     obtain⟨x,hx⟩:=qf (((dgW l).1:Int));obtain⟨y,hy⟩:=qf (((dgW l).2:Int));obtain⟨q1,hq1⟩:=qf (x / 2 ^ (56-8*i));obtain⟨q2,hq2⟩:=qf (y / 2 ^ (56-8*i))
     have u5:∀w,(Op.shift .shr .u64 x .i64 k56).run Tryz.prog w=.ok (.int .u64 q1) w:=by
      rw[hk56.out,hq1.out];exact Xf (k:=.i64) x (56-8*i) (by omega)
     have u6:∀w,(Op.shift .shr .u64 y .i64 k56).run Tryz.prog w=.ok (.int .u64 q2) w:=by
      rw[hk56.out,hq2.out];exact Xf (k:=.i64) y (56-8*i) (by omega)
     obtain⟨z1,hz1⟩:=qf (((dgB l i:Nat):Int));obtain⟨z2,hz2⟩:=qf (((dgB l (8+i):Nat):Int))
     have u7:IntKind.u8.wrap q1=z1:=by
      rw[hz1.out,hq1.out,hx.out,QO];unfold dgB;rw[if_pos hlt,Int.natCast_emod,Int.natCast_ediv,Int.natCast_pow]
      rfl
     have u8':IntKind.u8.wrap q2=z2:=by
      rw[hz2.out,hq2.out,hy.out,QO];unfold dgB;rw[if_neg (by omega),show 8+i-8=i by omega,Int.natCast_emod,Int.natCast_ediv,Int.natCast_pow]
      rfl
     have p0:w4.cell? ⟨g,0,none⟩=some (.int .u64 x):=by rw[hx.out];exact qj HD1.out.1 0
     have p1:w4.cell? ⟨g+1,0,none⟩=some (.int .u64 y):=by rw[hy.out];exact qj HD1.out.2.1 0
     obtain⟨wq,hwq⟩:∃wq,wq=wr:=⟨_,rfl⟩
     subst hwq;have hi16:i<16:=by omega
     have HAS:=q_h (q1J l hlt);go_upto_region 17 with (fail);have eC:=HX.out.drew;refine ql (fun w'=>w'.cell? ⟨g,0,none⟩=some (.int .u64 x)/\w'.cell? ⟨g+1,0,none⟩=some (.int .u64 y)) [] (by kernel_rfl) (by exact⟨eC.cell p0,eC.cell p1⟩) (fun hHeld=>?_);refine sP 0 (h:=?_);refine sP 1 (h:=?_);refine sP 2 (h:=?_);refine sT 3 (h:=?_);refine sP 4 (h:=?_);refine sP 5 (h:=?_);refine sP 6 (h:=?_);refine sP 7 (h:=?_);refine sP 8 (h:=?_);refine sT 9 (h:=?_);refine sP 10 (h:=?_);refine sP 11 (h:=?_);refine sP 12 (h:=?_);refine sP 13 (h:=?_);refine sP 14 (h:=?_);refine sP 15 (h:=?_);refine qg (i:=16) rfl (by kernel_rfl) (fun K hK=>?_);have b0:wq.heap[g9]?=some (.cells (dgA l i) 176 (0,0)):=HB.out;have f0:=qp b0 i;have c0:=(qj b0 i).trans (Zp l i hi16);go_simp;obtain⟨w6,E6,B6,U6⟩:=qL b0 i (.int .u8 z1);rw[E6];replace eC:Ext w4 w6.drew:=((U6.chg (NoU.mk b0 (by decide))).ext HX.out hg9').drew;have b6:w6.drew.heap[g9]?=some (.cells ((dgA l i).setIfInBounds i (.int .u8 z1)) 176 (0,0)):=B6;clear f0 c0;clear hHeld;refine hK.out _ _ (by exact⟨eC.cell p0,eC.cell p1⟩) fun hHeld=>?_
     clear hK K;try simp only[nr]
     refine sP 17 (h:=?_);refine qg (i:=18) rfl (by kernel_rfl) (fun K hK=>?_);have f0:=qp b6 j8;have c0:w6.drew.cell? ⟨g9,j8,none⟩=some _:=(qj b6 j8).trans (by rw[Array.getElem?_setIfInBounds,if_neg (by have:=hj8.out;omega),Zp l i hj16]);go_simp;obtain⟨w7,E7,B7,U7⟩:=qL B6 j8 (.int .u8 z2);rw[E7];replace eC:Ext w4 w7.drew:=((U7.chg (NoU.mk B6 (by decide))).ext ((U6.chg (NoU.mk b0 (by decide))).ext HX.out hg9') hg9').drew;clear hHeld;refine hK.out _ _ (by exact⟨eC.cell p0,eC.cell p1⟩) fun hHeld=>?_
     clear hK K;try simp only[nr]
     refine qm (by kernel_rfl) ?_ _;clear hHeld
     have HB2:Hid (w7.drew.heap[g9]?=some (.cells (dgA l (i+1)) 176 (0,0))):=by
      rw[hz1.out,hz2.out,hj8.out,HAS.out] at B7;exact B7
     have HX2:=q_h eC;clear B7 eC u2 u3 u4 u5 u6 u7 u8' p0 p1 HB HX;go_wp2;go_roundw
     case rel=>exact⟨i+1,by omega,by go_num,HX2,HB2⟩
     case measure=>simp[intOf];omega
    have u1:decide ((i:Int)<8)=false:=q_f (by omega);have u1':decide (i<8)=false:=q_f hlt
    have HR:Hid (wr.heap[g9]?=some (.cells (dgC l) 176 (0,0))):=by
     rw[<-q0e l,show 8=i by omega];exact HB.out
    obtain⟨w8,hw8⟩:∃w8,w8=wr:=⟨_,rfl⟩
    subst hw8;have HB08:=q_h (HX.out.block (HC1.out.blk HB0.out (.inl (by omega))));clear HB;go_upto_region 19 with (fail);refine wp_region_lit ?_;refine wpList_load_row rfl 176 _ rfl _ (by rfl) _ (dgC l) _ _ HR.out Tryz.underlying176 rfl (by rw[zS];exact xw) ?_;refine qh rfl 176 _ _ rfl (by rfl) (by rfl) HB08.out xw (zS l) (by rw[zS];rfl) (XD l) ?_;intro w9 B9 U9;go_wp2;refine bodyPost_ret (results_cell_row rfl _ _ _ _ _ _ _ rfl B9 Tryz.underlying176 rfl (by rw[zS];exact xw)) rfl ?_;rw[hQ.out];refine⟨rfl,?_⟩;have hX:=HX.out;have hC:=HC1.out;have hE:=HE.out;exact (U9.chg (NoU.mk HB08.out (by decide))).ext (((hC.ext hE (by omega)).trans hX)) (q_r)
end
section
open Go.RowKit Go.Shelf
attribute [local go_sem] Oper.semAt_some
abbrev yj (n:Nat):List (Fin n):=(List.finRange n).reverse
def VT (l:List Nat) (j:Fin l.length):Array Value:=#[.int .i64 ((j.1:Nat):Int),.int .u32 ((l[j.1]?.getD 0:Nat):Int)]
theorem kL (n:Nat):(yj n).length=n:=by simp[yj]
theorem QK(hk:k<n):(yj n).take (k+1)=(yj n).take k ++ [⟨n-1-k,by omega⟩]:=by
 rw[List.take_succ_eq_append_getElem (by rw[kL];exact hk)]
 congr 1
 simp[yj]
def yK (n₀ Bs:Nat) (W W':World):Prop:=Below n₀ W W'/\W'.heap[Bs]?=W.heap[Bs]?
theorem yK.refl (n₀ Bs:Nat) (W:World):yK n₀ Bs W W:=⟨Below.refl _ _,rfl⟩
theorem Xq {n₀ Bs:Nat}{A B C:World}(h:yK n₀ Bs A B) (h':yK n₀ Bs B C):yK n₀ Bs A C:=⟨h.1.trans h'.1,h'.2.trans h.2⟩
theorem Ve {n₀ Bs:Nat}(hn:n₀<=w.heap.size) (hB:Bs<w.heap.size):∀(W:World) (l:Nat) (o o':Obj),w.heap.size<=l->W.heap[l]?=some o->o.isCells=false->o.isWalk=false->yK n₀ Bs W (W.putObj l o') :=
 fun W l o o' h1 h2 h3 h4=>⟨belowK_b (w:=w) hn W l o o' h1 h2 h3 h4,World.putObj_heap_other (by omega)⟩
theorem yK.box {n₀ Bs:Nat}{W W':World}(h:yK n₀ Bs W W')(hc:W.cell? ⟨Bs,0,none⟩=some v):W'.cell? ⟨Bs,0,none⟩=some v:=by
 rw[World.cell?_of_block (w:=W) h.2];exact hc
theorem q0r (F:Fence) (n:Nat) (hf:F.fn 248) (hro:F.round=none) (hn:1<=n) (lb Bs n₀:Nat) (A:Option Addr) (len cap:Nat) (l:List Nat) (hlen:Hid (l.length=len)) (hcap:len<=9223372036854775807) (J Jx:List (Fin l.length)->World->Prop)
  (hY:∀pre x W,J pre W->pre.length<len->YieldAt F (n-1) Tryz.prog lb (VT l x) W fun e W' =>
   (e=.returned (.bool true)/\J (pre ++ [x]) W'/\yK n₀ Bs W W')\/(e=.returned (.bool false)/\Jx (pre ++ [x]) W'))
  (W:World) (hB:W.cell? ⟨Bs,0,none⟩=some (.slice A len cap))
  (hc:∀j,j<len->∃b off,A=some ⟨b,off,none⟩/\b<n₀/\W.cell? ⟨b,off+j,none⟩=some (.int .u32 ((l[j]?.getD 0:Nat):Int))) (h0:J [] W) :
  CallsIn F n Tryz.prog 248 #[.func (.yield lb) #[] #[],.pointer (some ⟨Bs,0,none⟩)] W fun e W'=>(∃v,e=.returned v) /\
   ((∃ys,ys=yj l.length/\J ys W')\/(∃pre,pre <+: yj l.length/\Jx pre W')):=by
 have HC:=q_h hc;clear hc;refine callsIn_of_wp Tryz.func248 rfl hf ?_ hro;simp only[Tryz.ntmps248,List.size_toArray,List.length_cons,List.length_nil,Nat.reduceAdd,Nat.reduceSub,Array.replicate_succ,Array.replicate_zero,List.push_toArray,List.append_toArray,List.nil_append,List.cons_append]
 gi_wp2
 gi_loopw [3] (fun i wr=>∃k:Nat,k<=len/\i=.int .i64 ((len:Int)-k-1)/\J ((yj l.length).take k) wr/\yK n₀ Bs W wr)
  (fun i _=>(intOf i+1).toNat)
 case atStart=>exact⟨0,Nat.zero_le _,by simp,h0,yK.refl _ _ _⟩
 case round =>
  obtain⟨k,hk,rfl,hJs,hnx⟩:=hrel
  by_cases hlt:k<len
  ·obtain⟨j,hj⟩:=qf (len-1-k);have hjl:j<len:=by rw[hj.out];omega
   rw[show ((len:Int)-k-1)=(j:Int) from by have:=hj.out;omega];obtain⟨b,off,hA,hb,hcell⟩:=HC.out j hjl;have hcx:=(hnx.1.cell (p:=⟨b,off+j,none⟩) hb).trans hcell;have hBx:=hnx.box hB
   have HT:Hid ((yj l.length).take (k+1)=(yj l.length).take k ++ [⟨j,by rw[hlen.out];exact hjl⟩]):=by
    rw[Hid,QK (by rw[hlen.out];exact hlt)]
    congr 2
    rw[Fin.mk.injEq,hlen.out,hj.out]
   obtain⟨fn,tmps,assign,body,hy,hR⟩:=hY _ ⟨j,by rw[hlen.out];exact hjl⟩ wr hJs (by rw[List.length_take,kL,hlen.out];omega)
   dsimp only[VT] at hy
   obtain⟨z,hz⟩:=qf ((l[j]?.getD 0:Nat):Int);rw[<-hz.out] at hy hcx;subst hA;clear hcell HC
   gi_wp2
   refine hR.mono ?_;rintro e W3 (⟨rfl,hJ3,hk3⟩|⟨rfl,hJx3⟩)
   ·gi_wp2
    go_roundw
    case rel=>exact⟨k+1,by omega,congrArg (Value.int .i64) (by have:=hj.out;omega),by rw[HT.out];exact hJ3,Xq hnx hk3⟩
    case measure=>simp[intOf]
   ·gi_wp2
    refine bodyPost_ret (results_none rfl _ _ _) rfl ?_;exact⟨⟨_,rfl⟩,.inr ⟨_,by rw[<-HT.out];exact List.take_prefix _ _,hJx3⟩⟩
  ·obtain rfl:k=len:=by omega
   rw[show ((k:Int)-k-1) = -1 from by omega]
   gi_wp2
   go_end0
   exact⟨⟨_,rfl⟩,.inl ⟨_,rfl,by rw[List.take_of_length_le (by rw[kL,hlen.out];exact q_r)] at hJs;exact hJs⟩⟩
theorem VV (F:Fence) (n:Nat) (hf:F.fn 221) (hro:F.round=none) (A:Option Addr) (len cap:Nat) (w:World) :
  CallsIn F n Tryz.prog 221 #[.slice A len cap] w fun e w'=>e=.returned (.func (.func 248) #[] #[.pointer (some ⟨w.heap.size,0,none⟩)])/\w'=w.alloc (.cells #[.slice A len cap] 112):=by
 refine callsIn_of_wp Tryz.func221 rfl hf ?_ hro;simp only[Tryz.ntmps221,List.size_toArray,List.length_cons,List.length_nil,Nat.reduceAdd,Nat.reduceSub,Array.replicate_succ,Array.replicate_zero,List.push_toArray,List.append_toArray,List.nil_append,List.cons_append]
 gi_wp2
 go_ret;exact⟨rfl,rfl⟩
theorem QL (F:Fence) (n:Nat) (hf:F.fn 248) (hro:F.round=none) (hn:1<=n)(w w0:World) (A:Option Addr) (len cap:Nat) (l:List Nat) (h:Gs N w0 (.slice A len cap) l) (he:Ext w0 w) (Bs n₀:Nat) (hBs:Bs<w.heap.size) (hn₀:n₀<=w.heap.size) (hw0:w0.heap.size<=n₀)
  (hc:w.cell? ⟨Bs,0,none⟩=some (.slice A len cap)) :
  SeqStopsK F n Tryz.prog 248 #[.pointer (some ⟨Bs,0,none⟩)] (VT l) (yK n₀ Bs) (fun ys=>ys=yj l.length) (fun pre=>pre <+: yj l.length) l.length w:=fun lb J Jx W hW _ _ hY h0=>by
 have hlen:l.length=len/\len<=9223372036854775807:=by obtain⟨A',n',c',hv,hl',h1,h2⟩:=h.form;cases hv;exact⟨hl'.out,by omega⟩
 refine q0r F n hf hro hn lb Bs n₀ A len cap l hlen.1 hlen.2 J Jx (fun pre x W1 h1 h2=>hY pre x W1 h1 (Nat.lt_of_lt_of_eq h2 hlen.1.symm)) W ((hW.cell (p:=⟨Bs,0,none⟩) hBs).trans hc) (fun j hj=>?_) h0;obtain⟨hN,A',n',c',hv,h1,h2,h3,h4,h5⟩:=h;injection hv with e1 e2 e3
 subst e1 e2 e3;obtain⟨b,off,hA,hs,hcell⟩:=h5 (by omega);refine⟨b,off,hA,by have:=hs.1;omega,(hW.cell (p:=⟨b,off+j,none⟩) (by have:=hs.1;show b<_;omega)).trans (he.cell (hcell j hj))⟩
end
end Go.Proofs.YtdeeekdbhhenpaaGreatDoor
