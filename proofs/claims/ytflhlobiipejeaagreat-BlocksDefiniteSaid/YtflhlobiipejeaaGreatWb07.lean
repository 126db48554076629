import Derived.Test.YtflhlobiipejeaaGreatWb04
import Derived.Test.YtflhlobiipejeaaGreatWb05
import Derived.RangeFuncNested
import Derived.RangeFuncBound
import Derived.RangeFuncCalls
import Derived.RangeFuncLeaves
import Derived.RangeFuncBox
import Derived.Shelf.Abstract
import Derived.OwnWalkIn
import Derived.TacticsInMore
import Derived.LoopNIn
import Derived.LoopIn
import Derived.OrdersIn
import Derived.RegionTactic
set_option linter.all false
set_option maxHeartbeats 8000000
set_option maxRecDepth 100000
namespace Go.Proofs.YtflhlobiipejeaaGreat
variable {w w':World} {N n k g i m c b j d:Nat} {v s:Value} {l:List Nat} {q x:Rat} {z:Int} {A:Option Addr}
section
open Go.RowKit
theorem q0a {fn:Func}{k:Tmp}(hres:fn.results=#[.cell k 33]){a:Act}(hp:a.tmps.getD k undef=.pointer (some ⟨g,0,none⟩)) (hd:a.defers=[])
{W:World}{neg:Bool}(hE:Ext w W) (hb:W.heap[g]?=some (.cells #[.bool neg,.slice A n c] 33 (0,0)))
  (hG:Gs N W (.slice A n c) l) (hneg:neg=decide (z<0)) (hl:l=dg z.natAbs):bodyPost Tryz.prog fn (Kr N w z) .ret a W:=by
 obtain⟨hc0,hc1,-,-⟩:=cells2 hb;refine bodyPost_ret (v:=.agg #[.bool neg,.slice A n c]) ?_ hd ⟨_,rfl,⟨.slice A n c,by rw[hneg],hl ▸ hG⟩,hE⟩;have hp':a.tmps[k]?.getD undef=.pointer (some ⟨g,0,none⟩):=by simpa using hp
 simp[results,hres,hp',hc0,hc1,go_sem]
theorem QM(h:Gs N w (.slice A n c) l) (hd:Dig l) :
  Calls Tryz.prog 188 #[.slice A n c] w fun e w'=>(∃k,e=.returned (.slice A k c)/\Gs N w (.slice A k c) (dg (val l)))/\w=w':=by
 obtain⟨P,hP⟩:∃P:Ending->World->Prop,Hid (P=fun e w'=>(∃k,e=.returned (.slice A k c)/\Gs N w (.slice A k c) (dg (val l)))/\w=w'):=⟨_,rfl⟩
 rw[<-hP.out];have hlen:Hid (l.length=n):=by obtain⟨A',n',c',hv,hl',-,-⟩:=h.form;cases hv;exact hl'
 have hnc:n<=c/\c<=9223372036854775807:=by obtain⟨A',n',c',hv,hl',h1,h2⟩:=h.form;cases hv;exact⟨h1,h2⟩
 obtain⟨hn1,hn2⟩:=hnc;have Hd:=q_h hd;clear hd;go_enter Tryz.func188,Tryz.ntmps188;go_wp2
 go_loop [0] (fun s=>∃k:Nat,k<=n/\s=.slice A k c/\val (l.drop k)=0) (fun s=>match s with|.slice _ k _=>k|_=>0)
 case atStart=>exact⟨n,q_r,rfl,by rw[List.drop_of_length_le (by rw[hlen.out];exact q_r)];rfl⟩
 case round =>
  obtain⟨k,hk,rfl,hv⟩:=hrel;have HV:=q_h hv;clear hv
  rcases Nat.eq_zero_or_pos k with h0|h0
  ·subst h0
   have HG:Hid (Gs N w (.slice A 0 c) (dg (val l))):=by
    rw[Hid,<-jf Hd.out (Nat.zero_le _) HV.out (.inl rfl)];exact h.take (Nat.zero_le _)
   go_wp2;rw[hP.out];exact⟨⟨0,rfl,HG.out⟩,rfl⟩
  ·obtain⟨b,off,y,hA,hb0,g,z0,z1,hy⟩:=h.at_ (k:=k-1) (by omega)
   by_cases hy0:y=0
   ·have HV2:Hid (val (l.drop (k-1))=0):=jo (by rw[hlen.out];omega) (by rw[show k-1+1=k from by omega];exact HV.out) (by rw[List.getD_eq_getElem?_getD];have:=hy.out;omega);subst hy0 hA;go_wp2;refine⟨⟨k-1,by omega,rfl,HV2.out⟩,?_⟩
    show k-1<k
    omega
   ·have HG:Hid (Gs N w (.slice A k c) (dg (val l))):=by
     rw[Hid,<-jf Hd.out (by rw[hlen.out];omega) HV.out (.inr (by rw[List.getD_eq_getElem?_getD];have:=hy.out;omega))];exact h.take (by omega)
    have hyb:(y == 0)=false:=by simpa using hy0
    subst hA;go_wp2;rw[hP.out];exact⟨⟨k,rfl,HG.out⟩,rfl⟩
theorem q8i(h:Gs N w s l) (k:Nat){i:Int}(hi:i=(k:Int)) (hz:z=((l[k]?.getD 0:Nat):Int)) :
  Calls Tryz.prog 195 #[s,.int .i64 i] w fun e w'=>e=.returned (.int .u32 z)/\w'=w:=by
 subst hi;obtain⟨A,n,c,rfl,hlen,h2,h3⟩:=h.form;have HZ:=q_h hz;clear hz
 by_cases hk:k<n
 ·obtain⟨b,off,y,rfl,hb0,g,y0,y1,hy⟩:=h.at_ hk;have HE:Hid (y=z):=hy.out.trans HZ.out.symm;go_enter Tryz.func195,Tryz.ntmps195;go_wp2;go_ret;exact⟨qJ HE.out,rfl⟩
 ·have HE:Hid (z=0):=by rw[Hid,HZ.out,List.getElem?_eq_none (by rw[hlen.out];omega)];rfl
  go_enter Tryz.func195,Tryz.ntmps195;go_wp2;go_ret;exact⟨qJ HE.out.symm,rfl⟩
theorem VO(hd:Dig l):∀k,k<=l.length->val (l.drop k)=0->∃k',k'<=k/\l.take k'=dg (val l):=by
 intro k
 induction k with
 | zero=>intro h0 hv;exact⟨0,q_r,jf hd h0 hv (.inl rfl)⟩
 | succ k ih =>
  intro h0 hv
  by_cases hz:l.getD k 0=0
  ·obtain⟨k',h1,h2⟩:=ih (by omega) (jo (by omega) hv hz);exact⟨k',by omega,h2⟩
  ·exact⟨k+1,q_r,jf hd h0 hv (.inr hz)⟩
theorem Gs.trimmed(h:Gs N w (.slice A n c) l) (hd:Dig l) (hk:(dg (val l)).length=k):Gs N w (.slice A k c) (dg (val l)):=by
 have hlen:l.length=n:=by obtain⟨A',n',c',hv,hl',-,-⟩:=h.form;cases hv;exact hl'.out
 obtain⟨k',hk',ht⟩:=VO hd l.length (q_r) (by rw[List.drop_length];rfl);have:k'=k:=by rw[<-hk,<-ht,List.length_take];omega
 subst this;rw[<-ht];exact h.take (by omega)
theorem q04{neg:Bool}(h:Gs N w (.slice A n c) l) (hd:Dig l) (z:Int) (hz:Hid (z=if neg then -(val l:Int) else (val l:Int))) :
  Calls Tryz.prog 175 #[.bool neg,.slice A n c] w (Kr N w z):=by
 have hN:=h.le;have HA:Hid (z.natAbs=val l):=by have:=hz.out;unfold Hid;split at this<;>omega
 have HS:Hid (val l≠0->decide (z<0)=neg):=by
  intro h0;have:=hz.out;cases neg
  ·simp at this;simp;omega
  ·simp at this;simp;omega
 clear hz;go_enter Tryz.func175,Tryz.ntmps175;go_wp2_with (go_at_call 188;refine q_o ?_);refine (QM (h.ext ((Ext.refl w).alloc _)) hd).mono ?_;rintro e w' ⟨⟨k,rfl,hG⟩,rfl⟩;have hlk:Hid ((dg (val l)).length=k):=by obtain⟨A',n',c',hv,hl',-,-⟩:=hG.form;cases hv;exact hl'
 rcases Nat.eq_zero_or_pos k with h0|h0
 ·subst h0;have H0:Hid (val l=0):=zU.1 (List.eq_nil_of_length_eq_zero hlk.out);have HZ:Hid (z=0):=by have:=HA.out;have:=H0.out;unfold Hid;omega
  go_wp2;rw[HZ.out];exact q0a rfl rfl rfl ((Ext.refl w).alloc _) (heap_alloc_new w _) (Gs.nil (by simp;omega) none (Nat.zero_le _)) rfl zO.symm
 ·have hk0:((k:Int) == 0)=false:=by simp;omega
  have HB:Hid (neg=decide (z<0)):=(HS.out (fun e=>by have:=hlk.out;rw[e,zO] at this;simp at this;omega)).symm;go_wp2;refine q0a rfl rfl rfl ((Ext.refl w).alloc _) (heap_alloc_new w _) ?_ HB.out (by rw[HA.out]);have:=(h.trimmed hd hlk.out)
  exact this.ext ((Ext.refl w).alloc _)
theorem q7b (w:World) (base:Nat):w.ownsRow base 119 1 (.slice none 0 0) 0 (([]:List Nat).map vG):=⟨rfl,.inl ⟨rfl,rfl⟩⟩
def q5Q (w:World) (m:Nat) (u v:Value) (wr:World):Prop :=
 ∃(k:Nat) (uz:Int) (A':Option Addr) (c':Nat) (xs:List Nat),k<=3/\u=.int .u64 uz/\0<=uz/\uz<=18446744073709551615/\v=.slice A' k c' /\
  wr.ownsRow w.heap.size 119 1 (.slice A' k c') k (xs.map vG)/\Dig xs/\xs++dg uz.toNat=dg m/\Ext w wr
theorem Vd {u:Nat}{X:Nat}(h:X+bs ^ k*u=m) (hm:m<=18446744073709551615) (hu:0<u):k<3:=by
 rcases Nat.lt_or_ge k 3 with h1|h1
 ·exact h1
 ·have h2:bs ^ 3<=bs ^ k:=Nat.pow_le_pow_right qV h1;have h3:bs ^ k*1<=bs ^ k*u:=Nat.mul_le_mul_left _ hu;have h4:bs ^ 3=1000000000000000000000000000:=by decide
  omega
theorem VG(hN:N<=w.heap.size) (n:Int) (h1:0<=n) (h2:n<=18446744073709551615) :
  Calls Tryz.prog 176 #[.int .u64 n] w (QX N w n.toNat):=by
 obtain⟨m,hm⟩:=qc n.toNat;rw[<-hm.out];go_enter Tryz.func176,Tryz.ntmps176;go_wp2
 go_loopw [0,3] (fun u v wr=>q5Q w m u v wr) (fun u _ _=>(intOf u).toNat)
 case atStart=>exact⟨0,n,_,_,[],by omega,rfl,h1,h2,rfl,q7b _ _,Dig.nil,by rw[hm.out];rfl,Ext.refl _⟩
 case round =>
  obtain⟨k,uz,A',c',xs,hk,rfl,u0,u1,rfl,hown,hxs,hv,hE⟩:=hrel;have HV:=q_h hv;have HX:=q_h hxs;have HO:=q_h hown;clear hv hxs hown;have HW:Hid (N<=wr.heap.size):=q_l hN hE.size
  by_cases hlt:0<uz
  ·have hpos:dg uz.toNat=(uz % 1000000000).toNat :: dg (uz / 1000000000).toNat:=by
    rw[QO (by omega),show uz.toNat % bs=(uz % 1000000000).toNat from by unfold bs;omega,show uz.toNat / bs=(uz / 1000000000).toNat from by unfold bs;omega]
   have hk3:k<3:=by
    have h3:=congrArg val HV.out;rw[val_append,qC,qC,show xs.length=k from by simpa using HO.out.1] at h3;exact Vd h3 (by have:=hm.out;omega) (by omega)
   have HR:Hid ((xs ++ [(uz % 1000000000).toNat])++dg (uz / 1000000000).toNat=dg m):=by
    rw[Hid,List.append_assoc,List.singleton_append,<-hpos];exact HV.out
   clear hpos;go_wp2_with (at_builtin;refine q_o ?_);refine qA (N:=N) rfl (.tmp 8) (.tmp 12) rfl w.heap.size _ k xs rfl (HO.out.alloc _) _ [(uz % 1000000000).toNat] rfl (yP HW.out (by omega) (by omega) rfl) (by simp;omega) (by have:=hE.size;simp;omega) ?_;intro A2 c2 w2 hown2 hgr;have hE2:=(hE.alloc _).own hgr (HO.out.alloc _) (q_r);have HX2:Hid (Dig (xs ++ [(uz % 1000000000).toNat])):=HX.out.append (Dig.mk (by unfold bs;omega) Dig.nil);have HO2:=q_h hown2;have HE2:=q_h hE2;clear hown2 hgr hE2
   generalize (uz % 1000000000).toNat=dd at *
   go_wp2;go_roundw
   case rel=>exact⟨k+1,uz / 1000000000,A2,c2,_,by omega,rfl,by omega,by omega,rfl,HO2.out,HX2.out,HR.out,HE2.out⟩
   case measure=>simp[intOf];omega
  ·obtain rfl:uz=0:=by omega
   have HF:Hid (xs=dg m):=by have:=HV.out;rw[show (0:Int).toNat=0 from rfl,zO,List.append_nil] at this;exact this
   have hG:=Gs.of_own (N:=N) HW.out HO.out (fun x hx=>Nat.lt_trans (HX.out x hx) (by decide));go_wp2;go_ret;exact⟨_,_,_,rfl,by rw[<-HF.out];exact hG,hE,jh HO.out⟩
theorem Zb(hN:N<=w.heap.size) (n:Int) (h1:0<=n) (h2:n<=18446744073709551615) :
  Calls Tryz.prog 176 #[.int .u64 n] w (q1t N w n.toNat):=(VG hN n h1 h2).mono fun _ _ h=>h.rm
theorem q4d (n:Int) (hn:n<0) (h1 : -9223372036854775808<=n):IntKind.u64.wrap (-IntKind.u64.wrap n) = -n:=by
 simp only[IntKind.wrap,IntKind.bits,IntKind.signed]
 simp
 omega
theorem i_of(hN:N<=w.heap.size) (n:Int) (h1 : -9223372036854775808<=n) (h2:n<=9223372036854775807) :
  Calls Tryz.prog 155 #[.int .i64 n] w (Kr N w n):=by
 by_cases hn:n<0
 ·go_enter Tryz.func155,Tryz.ntmps155;go_wp2_with (go_at_call 176;refine q_o ?_);rw[q4d n hn h1];refine (VG (N:=N) (by simp;omega) _ (by omega) (by omega)).mono ?_;rintro e w2 ⟨A2,k2,c2,rfl,g2,e2,-⟩;go_wp2_with (go_at_call 175;refine q_o ?_);refine (q04 g2 (qI _) n (by rw[qC];simp only[Hid];split<;>simp_all<;>omega)).mono ?_;intro e w3 hh;obtain⟨bb,A4,k4,c4,rfl,hb4,h4,e4⟩:=hh.form;obtain⟨hE0,hsz0,B0⟩:=yU (e2.trans e4);obtain⟨r0,r1,r2,r3⟩:=cells2 B0;go_wp2;exact zC rfl rfl rfl hE0 B0 (q_r) hN h4 hb4.out rfl
 ·go_enter Tryz.func155,Tryz.ntmps155;go_wp2_with (go_at_call 176;refine q_o ?_);refine (VG (N:=N) (by simp;omega) _ (by omega) (by omega)).mono ?_;rintro e w2 ⟨A2,k2,c2,rfl,g2,e2,-⟩;go_wp2_with (go_at_call 175;refine q_o ?_);refine (q04 g2 (qI _) n (by rw[qC];simp only[Hid];split<;>simp_all<;>omega)).mono ?_;intro e w3 hh;obtain⟨bb,A4,k4,c4,rfl,hb4,h4,e4⟩:=hh.form;obtain⟨hE0,hsz0,B0⟩:=yU (e2.trans e4);obtain⟨r0,r1,r2,r3⟩:=cells2 B0;go_wp2;exact zC rfl rfl rfl hE0 B0 (q_r) hN h4 hb4.out rfl
theorem q03(z:Int) (r:Bool) (hr:Hid (r=decide (1000000000<=z))) :
  Calls Tryz.prog 172 #[.int .u32 z] w fun e w'=>e=.returned (.bool r)/\w=w':=by
 by_cases h:1000000000<=z
 ·have HR:Hid (r=true):=by rw[Hid,hr.out];simpa using h
  go_enter Tryz.func172,Tryz.ntmps172;go_wp2;go_ret;exact⟨qB HR.out.symm,rfl⟩
 ·have HR:Hid (r=false):=by rw[Hid,hr.out];simpa using h
  go_enter Tryz.func172,Tryz.ntmps172;go_wp2;go_ret;exact⟨qB HR.out.symm,rfl⟩
def q0s (l:List Nat):Bool:=!l.all (· < bs)
theorem q7Z(h:k<l.length)(hz:z=((l[k]?.getD 0:Nat):Int)) (hb:1000000000<=z):q0s l=true:=by
 unfold q0s
 have:l.all (· < bs)=false:=by
  rw[List.all_eq_false];refine⟨l[k],List.getElem_mem _,?_⟩;rw[List.getElem?_eq_getElem h] at hz;simp only[Option.getD_some] at hz;simp only[decide_eq_true_eq];unfold bs;omega
 rw[this];rfl
theorem q5E(h:Dig l):q0s l=false:=by
 unfold q0s;have:l.all (· < bs)=true:=by rw[List.all_eq_true];intro y hy;simpa using h y hy
 rw[this];rfl
theorem VI(h:Gs N w s l) :
  Calls Tryz.prog 185 #[s,.func (.func 172) #[] #[]] w fun e w'=>(∃z:Int,e=.returned (.int .i64 z)/\Hid (q0s l=decide (0<=z)))/\w=w':=by
 obtain⟨P,hP⟩:∃P:Ending->World->Prop,Hid (P=fun e w'=>(∃z:Int,e=.returned (.int .i64 z)/\Hid (q0s l=decide (0<=z)))/\w=w'):=⟨_,rfl⟩
 rw[<-hP.out];obtain⟨A,n,c,rfl,hlen,h2,h3⟩:=h.form;go_enter Tryz.func185,Tryz.ntmps185;go_wp2
 go_loop [8] (fun i=>∃k:Nat,k<=n/\i=.int .i64 k/\Dig (l.take k)) (fun i=>n-(intOf i).toNat)
 case atStart=>exact⟨0,Nat.zero_le _,rfl,Dig.nil⟩
 case round =>
  obtain⟨k,hk,rfl,hd⟩:=hrel;have HD:=q_h hd;clear hd
  by_cases hlt:k<n
  ·obtain⟨b,off,z,rfl,hb0,g,z0,z1,hz⟩:=h.at_ hlt;go_wp2_with (go_at_call 172;refine q_o ?_)
   by_cases hb:1000000000<=z
   ·refine (q03 z true (by rw[q_t hb];rfl)).mono ?_;rintro e w' ⟨rfl,rfl⟩;have HR:Hid (q0s l=true):=q7Z (by rw[hlen.out];exact hlt) hz.out hb;go_wp2;rw[hP.out];exact⟨⟨_,rfl,by rw[Hid,HR.out];symm;simp⟩,rfl⟩
   ·refine (q03 z false (by rw[q_f hb];rfl)).mono ?_;rintro e w' ⟨rfl,rfl⟩;have HD2:Hid (Dig (l.take (k+1))):=Dig.snoc_take (by rw[hlen.out];exact hlt) HD.out hz.out (by omega);go_wp2
    go_round
    case rel=>exact⟨k+1,by omega,by go_num,HD2.out⟩
    case measure=>simp[intOf];omega
  ·have HR:Hid (q0s l=false):=q5E (by have:=HD.out;rwa [List.take_of_length_le (by rw[hlen.out];omega)] at this);go_wp2;rw[hP.out];exact⟨⟨_,rfl,by rw[Hid,HR.out];rfl⟩,rfl⟩
theorem KG(h:Gs N w s l) :
  Calls Tryz.prog 171 #[s,.func (.func 172) #[] #[]] w fun e w'=>e=.returned (.bool (q0s l))/\w=w':=by
 obtain⟨r,hr⟩:=qc (q0s l);rw[<-hr.out];go_enter Tryz.func171,Tryz.ntmps171;go_wp2_with (go_at_call 185;refine q_o ?_);refine (VI h).mono ?_;rintro e w' ⟨⟨z,rfl,hz⟩,rfl⟩;have HR:Hid (decide (0<=z)=r):=by rw[Hid,<-hz.out,hr.out]
 go_wp2;go_ret;exact⟨qB HR.out,rfl⟩
theorem q4W {neg:Bool}(hn:l.length=n) (h0:0<n)(hz:z=((l[n-1]?.getD 0:Nat):Int)):okB neg l=(z != 0 && !q0s l):=by
 unfold okB q0s;rw[if_neg (by intro e;rw[e] at hn;simp at hn;omega)]
 have e:l.getLast?=some (l[n-1]?.getD 0):=by
  rw[List.getLast?_eq_getElem?,hn,List.getElem?_eq_getElem (by omega)];rfl
 rw[e,Bool.not_not,Bool.and_comm];subst hz
 by_cases hx0:l[n-1]?.getD 0=0
 ·rw[hx0];rfl
 ·have h1:((l[n-1]?.getD 0:Nat):Int)≠0:=by omega
  rw[bne_iff_ne.2 h1,bne_iff_ne.2 (fun e=>hx0 (Option.some.inj e))]
theorem VF{neg:Bool}(h:Gs N w s l) :
  Calls Tryz.prog 152 #[.agg #[.bool neg,s]] w (zH w (.bool (okB neg l))):=by
 obtain⟨r,hr⟩:=qc (okB neg l);rw[<-hr.out];obtain⟨A,n,c,rfl,hlen,h2,h3⟩:=h.form
 rcases Nat.eq_zero_or_pos n with h0|h0
 ·subst h0;have HR:Hid (r=!neg):=by rw[Hid,hr.out,List.eq_nil_of_length_eq_zero hlen.out];rfl
  go_enter Tryz.func152,Tryz.ntmps152;go_wp2;go_ret;exact⟨qB HR.out.symm,(Ext.refl _).alloc _⟩
 ·obtain⟨b,off,z,hA,hb0,g,z0,z1,hz⟩:=h.at_ (k:=n-1) (by omega);have HK:Hid (r=(z != 0 && !q0s l)):=hr.out.trans (q4W hlen.out h0 hz.out);have h0':((n:Int) == 0)=false:=by simp;omega
  by_cases hz0:z=0
  ·have HR:Hid (r=false):=by rw[Hid,HK.out,hz0];rfl
   subst hz0 hA;go_enter Tryz.func152,Tryz.ntmps152;go_wp2;go_ret;exact⟨qB HR.out.symm,(Ext.refl _).alloc _⟩
  ·have hzb:(z == 0)=false:=by simpa using hz0
   have HR:Hid (r=!q0s l):=by rw[Hid,HK.out,bne,hzb];rfl
   subst hA;go_enter Tryz.func152,Tryz.ntmps152;go_wp2_with (go_at_call 171;refine q_o ?_);refine (KG (h.ext ((Ext.refl _).alloc _))).mono ?_;rintro e w' ⟨rfl,rfl⟩;go_wp2;go_ret;exact⟨qB HK.out.symm,(Ext.refl _).alloc _⟩
theorem kL{b:Bool}(h:zy N w (.agg #[.bool b,.slice A n c]) z) :
  Calls Tryz.prog 164 #[.agg #[.bool b,.slice A n c]] w (zH w (.slice A n c)):=by
 obtain⟨s,hv,hs⟩:=h;have hv':(.bool b:Value)=.bool (decide (z<0))/\(.slice A n c:Value)=s:=by simpa using hv
 obtain⟨hb,rfl⟩:=hv'
 have HO:Hid (okB b (dg z.natAbs)=true):=by
  injection hb with hb;rw[Hid,hb];exact wL z
 clear hv hb;go_enter Tryz.func164,Tryz.ntmps164;go_wp2_with (go_at_call 152;refine q_o ?_);refine (VF (hs.ext ((Ext.refl w).alloc _))).mono ?_;rintro e w1 ⟨rfl,e1⟩;rw[HO.out];obtain⟨hE,hsz,B0⟩:=yU e1;obtain⟨a0,a1,a2,a3⟩:=cells2 B0;go_wp2;go_ret;exact⟨rfl,hE⟩
def RetLF (N:Nat) (w:World) (l:List Nat) (e:Ending) (w':World):Prop:=∃A k c,e=.returned (.slice A k c)/\Gs N w' (.slice A k c) l/\Ext w w'/\Hid (∀ad,A=some ad->w.heap.size<=ad.block)
theorem VJ(h:Gs N w (.slice A n c) l) (hL:n<=1000000000000) :
  Calls Tryz.prog 178 #[.slice A n c] w (RetLF N w l):=by
 have hN:=h.le;have hlen:Hid (l.length=n):=by obtain⟨A',n',c',hv,hl',-,-⟩:=h.form;cases hv;exact hl'
 have h32:Hid (∀x∈l,x<4294967296):=by obtain⟨_,A',n',c',hv,h1,h2,h3,h4,h5⟩:=h;exact h4
 have hnl:=fun (w:World) (a:Option Addr) (n c:Nat)=>Lib.run_eql_slice_nil (P:=Tryz.prog) w 31 119 a n c 0 0 Tryz.underlying31
 cases A with
 | none =>
  have hl0:Hid (l=[]):=by
   obtain⟨_,A',n',c',hv,h1,h2,h3,h4,h5⟩:=h;injection hv with e1 e2 e3
   subst e1 e2 e3
   rcases Nat.eq_zero_or_pos n with h0|h0
   ·exact List.eq_nil_of_length_eq_zero (by omega)
   ·obtain⟨b,o,hA,_⟩:=h5 h0;cases hA
  go_enter Tryz.func178,Tryz.ntmps178;go_wp2;go_ret;exact⟨_,_,_,rfl,by rw[hl0.out];exact Gs.nil hN _ (Nat.zero_le _),Ext.refl _,fun ad h=>by cases h⟩
 | some ad =>
  go_enter Tryz.func178,Tryz.ntmps178;go_wp2_with (at_builtin;refine q_o ?_);refine qA (N:=N) rfl (.tmp 5) (.tmp 6) rfl w.heap.size _ 0 [] rfl (kC _ _ w.heap.size rfl (q_r)) _ l rfl (h.ext ((Ext.refl w).alloc _)) (by rw[hlen.out];omega) (by simp) ?_;intro A2 c2 w2 hown2 hgr;have hE2:Ext w w2:=((Ext.refl w).alloc _).grownAt hgr (q_r);have hG:=Gs.of_own (N:=N) (l:=[]++l) (q_l hN hE2.size) hown2 (fun x hx=>h32.out x (by simpa using hx));rw[List.nil_append,Nat.zero_add] at hG;have HF:=q_h (jh hown2);clear hgr hown2;go_wp2;go_ret;exact⟨_,_,_,rfl,hG,hE2,HF.out⟩
theorem zy.parts(h:zy N w v z):∃(b:Bool) (A:Option Addr) (n c:Nat),v=.agg #[.bool b,.slice A n c]/\Hid (b=decide (z<0))/\Gs N w (.slice A n c) (dg z.natAbs)/\n=ln z.natAbs:=by
 obtain⟨s,rfl,hs⟩:=h;obtain⟨A,n,c,rfl,hl,-,-⟩:=hs.form;exact⟨_,A,n,c,rfl,rfl,hs,hl.out.symm⟩
theorem zy.mk{b:Bool}(hb:Hid (b=decide (z<0))) (h:Gs N w (.slice A n c) (dg z.natAbs)):zy N w (.agg #[.bool b,.slice A n c]) z:=⟨_,by rw[hb.out],h⟩
theorem VH(h:zy N w v z) (hL:ln z.natAbs<=1000000000000) :
  Calls Tryz.prog 162 #[v] w (Kr N w (-z)):=by
 have hI:=h;obtain⟨b,A,n,c,rfl,hb,hs,hn⟩:=h.parts;have hN:=hs.le;have HL:Hid (n<=1000000000000):=by rw[Hid,hn];exact hL
 clear hL hn;obtain⟨y,hy⟩:=qc (-z);rw[<-hy.out];go_enter Tryz.func162,Tryz.ntmps162;go_wp2;refine kD ?_;intro W hE hsz B0 B1;obtain⟨a0,a1,a2,a3⟩:=cells2 B0;have eC:=(Ext.refl W).drew
 go_region_held3 (fun w'=>w'.cell? ⟨w.heap.size,0,none⟩=some (.bool b)/\w'.cell? ⟨w.heap.size,1,none⟩=some (.slice A n c)) ((repeat' apply And.intro)<;>repeat with_reducible first|assumption|exact eC.cell (by assumption)|refine cell_far _ ?_ (by omega))
  (first
   | (go_at_call 164;refine (kL (by exact hI.ext (hE.trans eC))).mono ?_;rintro e w1 ⟨rfl,e1⟩;replace eC:=eC.trans e1)
   | (go_at_call 178;refine (VJ (by exact hs.ext (hE.trans eC)) HL.out).mono ?_;rintro e w2 ⟨A2,k2,c2,rfl,g2,e2,-⟩;replace eC:=eC.trans e2)
   | (go_at_call 175;refine (q04 (by exact g2) (qI _) y (by rw[hb.out];exact hy.out.trans q2L.symm)).mono ?_;intro e w3 hh;obtain⟨b4,A4,k4,c4,rfl,hb4,h4,e4⟩:=hh.form;replace eC:=eC.trans e4;obtain⟨r0,r1,r2,r3⟩:=cells2 (eC.block B1)))
 go_wp2;exact zC rfl rfl rfl (hE.trans eC) (eC.block B1) (by omega) hN h4 hb4.out rfl
theorem Xl(h:zy N w v z) :
  Calls Tryz.prog 134 #[v] w (zH w (.int .i64 z.sign)):=by
 have hI:=h;obtain⟨b,A,n,c,rfl,hb,hs,hn⟩:=h.parts;have hN:=hs.le;have Hn:=q_h hn;clear hn;obtain⟨y,hy⟩:=qc (z.sign);rw[<-hy.out];go_enter Tryz.func134,Tryz.ntmps134;go_wp2_with (go_at_call 164;refine q_o ?_);refine (kL (hI.ext ((Ext.refl w).alloc _))).mono ?_;rintro e w1 ⟨rfl,e1⟩;obtain⟨hE,hsz,B0⟩:=yU e1;obtain⟨a0,a1,a2,a3⟩:=cells2 B0;clear e1
 rcases Int.lt_trichotomy z 0 with hz|hz|hz
 ·obtain rfl:b=true:=by rw[hb.out];simpa using hz
  have hn:((n:Int) == 0)=false:=by
   have:n≠0:=fun e=>by have h5:=Hn.out;rw[e] at h5;have:=qP z.natAbs;rw[<-h5,Nat.pow_zero] at this;omega
   simpa using this
  have HY:Hid (y = -1):=by rw[Hid,hy.out];exact Int.sign_eq_neg_one_of_neg hz
  go_wp2;go_ret;exact⟨qJ HY.out.symm,hE⟩
 ·subst hz;have hn:n=0:=by rw[Hn.out];exact yf
  subst hn;have HY:Hid (y=0):=hy.out;go_wp2;go_ret;exact⟨qJ HY.out.symm,hE⟩
 ·obtain rfl:b=false:=by rw[hb.out];simp;omega
  have hn:((n:Int) == 0)=false:=by
   have:n≠0:=fun e=>by have h5:=Hn.out;rw[e] at h5;have:=qP z.natAbs;rw[<-h5,Nat.pow_zero] at this;omega
   simpa using this
  have HY:Hid (y=1):=by rw[Hid,hy.out];exact Int.sign_eq_one_of_pos hz
  go_wp2;go_ret;exact⟨qJ HY.out.symm,hE⟩
end
section
def sum:Nat->(Nat->Rat)->Rat
 | 0,_=>0
 | n+1,f=>sum n f+f n
theorem xJ (f:q_v):sum 0 f=0:=rfl
theorem qN (n:Nat) (f:q_v):sum (n+1) f=sum n f+f n:=rfl
theorem qf{f g:q_v}(h:∀i,i<n->f i=g i):sum n f=sum n g:=by
 induction n with
 | zero=>rfl
 | succ n ih=>rw[qN,qN,ih (fun i hi=>h i (by omega)),h n (by omega)]
theorem qy{f:q_v}(h:∀i,i<n->f i=0):sum n f=0:=by
 induction n with
 | zero=>rfl
 | succ n ih=>rw[qN,ih (fun i hi=>h i (by omega)),h n (by omega)];grind
theorem Ql (n:Nat) (f g:q_v):sum n (fun i=>f i+g i)=sum n f+sum n g:=by
 induction n with
 | zero=>simp only[sum];grind
 | succ n ih=>simp only[qN];rw[ih];grind
theorem XE (n:Nat) (f g:q_v):sum n (fun i=>f i-g i)=sum n f-sum n g:=by
 induction n with
 | zero=>simp only[sum];grind
 | succ n ih=>simp only[qN];rw[ih];grind
theorem zN (n:Nat) (a:Rat) (f:q_v):sum n (fun i=>a*f i)=a*sum n f:=by
 induction n with
 | zero=>simp only[sum];grind
 | succ n ih=>simp only[qN];rw[ih];grind
theorem qE (n:Nat) (a:Rat) (f:q_v):sum n (fun i=>f i*a)=sum n f*a:=by
 induction n with
 | zero=>simp only[sum];grind
 | succ n ih=>simp only[qN];rw[ih];grind
theorem jV (n:Nat) (f:q_v):sum n (fun i=>- f i) = - sum n f:=by
 induction n with
 | zero=>simp only[sum];grind
 | succ n ih=>simp only[qN];rw[ih];grind
theorem zu (n m:Nat) (f:q_m):sum n (fun i=>sum m (fun j=>f i j))=sum m (fun j=>sum n (fun i=>f i j)):=by
 induction n with
 | zero=>simp only[sum];exact (qy (fun _ _=>rfl)).symm
 | succ n ih=>simp only[qN];rw[ih,Ql]
theorem kN(hj:j<n){f:q_v}(h:∀i,i<n->i≠j->f i=0):sum n f=f j:=by
 induction n with
 | zero=>omega
 | succ n ih =>
  rw[qN]
  rcases Nat.lt_or_ge j n with h1|h1
  ·rw[ih h1 (fun i hi=>h i (by omega)),h n (by omega) (by omega)];grind
  ·obtain rfl:j=n:=by omega
   rw[qy (fun i hi=>h i (by omega) (by omega))];grind
theorem KR{f:q_v}(h:∀i,i<n->0<=f i):0<=sum n f:=by
 induction n with
 | zero=>simp only[sum];grind
 | succ n ih=>have h1:=ih (fun i hi=>h i (by omega));have h2:=h n (by omega);rw[qN];grind
def dlt (i j:Nat):Rat:=if i=j then 1 else 0
theorem kX (i:Nat):dlt i i=1:=by simp[dlt]
theorem kY(h:i≠j):dlt i j=0:=by simp[dlt,h]
theorem zi(hj:j<n) (f:q_v):sum n (fun i=>dlt j i*f i)=f j:=by
 rw[kN hj (fun i _ hi=>by rw[kY (by omega)];grind),kX];grind
theorem vP(hj:j<n) (f:q_v):sum n (fun i=>f i*dlt i j)=f j:=by
 rw[kN hj (fun i _ hi=>by rw[kY hi];grind),kX];grind
def mm (n:Nat) (a b:q_m) (i j:Nat):Rat:=sum n (fun k=>a i k*b k j)
theorem jA (n m:Nat) (a b c:q_m) (i j:Nat):mm m (mm n a b) c i j=mm n a (mm m b c) i j:=by
 unfold mm;have h1:∀k,sum n (fun l=>a i l*b l k)*c k j=sum n (fun l=>a i l*b l k*c k j):=fun k=>(qE _ _ _).symm
 have h2:∀l,a i l*sum m (fun k=>b l k*c k j)=sum m (fun k=>a i l*(b l k*c k j)):=fun l=>(zN _ _ _).symm
 rw[qf (fun k _=>h1 k),qf (fun l _=>h2 l),zu];refine qf fun l _=>qf fun k _=>?_
 grind
theorem xH{a a' b b':q_m}(h:∀k,k<n->a i k=a' i k) (h':∀k,k<n->b k j=b' k j):mm n a b i j=mm n a' b' i j :=
 qf fun k hk=>by rw[h k hk,h' k hk]
theorem q6e(a:q_m)(hj:j<n):mm n a dlt i j=a i j:=vP hj _
theorem WI(a:q_m)(hi:i<n):mm n dlt a i j=a i j:=zi hi _
def XJ (M:q_m) (m j:Nat):Nat->Nat->Nat
 | 0,r=>r
 | f+1,r=>if r<m then (if M r j=0 then XJ M m j f (r+1) else r) else r
def swp (M:q_m) (r k:Nat) (i c:Nat):Rat:=if i=r then M k c else if i=k then M r c else M i c
def nrm (M:q_m) (r j:Nat) (i c:Nat):Rat:=if i=r then M r c / M r j else M i c
def clr (M:q_m) (r j:Nat) (i c:Nat):Rat:=if i=r then M r c else M i c-M i j*M r c
def Vg (m:Nat) (st:(Nat->Nat->Rat)×List Nat) (j:Nat):(Nat->Nat->Rat)×List Nat :=
 let r:=st.2.length
 let k:=XJ st.1 m j (m-r) r
 if k<m then (clr (nrm (swp st.1 r k) r j) r j,st.2 ++ [j]) else st
def zI (m:Nat) (M:q_m):Nat->(Nat->Nat->Rat)×List Nat
 | 0=>(M,[])
 | j+1=>Vg m (zI m M j) j
theorem vV (M:q_m) (m j:Nat):∀(f r:Nat),m-r<=f->r<=m->(r<=XJ M m j f r/\XJ M m j f r<=m/\(∀i,r<=i->i<XJ M m j f r->M i j=0)/\(XJ M m j f r<m->M (XJ M m j f r) j≠0)):=by
 intro f
 induction f with
 | zero=>intro r h1 h2;simp only[XJ];exact⟨q_r,h2,fun i h3 h4=>by omega,fun h=>by omega⟩
 | succ f ih =>
  intro r h1 h2;simp only[XJ]
  by_cases h3:r<m
  ·rw[if_pos h3]
   by_cases h4:M r j=0
   ·rw[if_pos h4];obtain⟨a,b,c,d⟩:=ih (r+1) (by omega) (by omega);refine⟨by omega,b,fun i h5 h6=>?_,d⟩
    rcases Nat.eq_or_lt_of_le h5 with h7|h7
    ·subst h7;exact h4
    ·exact c i (by omega) h6
   ·rw[if_neg h4];exact⟨q_r,h2,fun i h5 h6=>by omega,fun _=>h4⟩
  ·rw[if_neg h3];exact⟨q_r,h2,fun i h5 h6=>by omega,fun h=>by omega⟩
def JO (m:Nat) (a b:q_m):Prop:=∃T,∀i,i<m->∀c,b i c=mm m T a i c
theorem JO.refl (m:Nat) (a:q_m):JO m a a:=⟨dlt,fun i hi c=>(WI a hi).symm⟩
theorem JO.trans{a b c:q_m}(h:JO m a b) (h':JO m b c):JO m a c:=by
 obtain⟨T,hT⟩:=h;obtain⟨S,hS⟩:=h';refine⟨mm m S T,fun i hi c=>?_⟩;rw[jA,hS i hi];exact xH (fun _ _=>rfl) (fun k hk=>hT k hk c)
theorem q6L {M:q_m}{r:Nat}:∀i c,swp (swp M r k) r k i c=M i c:=by
 intro i c;unfold swp
 by_cases h1:i=r
 ·subst h1
  by_cases h2:k=i
  ·subst h2;simp
  ·simp[h2]
 ·by_cases h2:i=k
  ·subst h2;simp[h1]
  ·simp[h1,h2]
theorem q0k {r:Nat}(hr:r<m) (hk:k<m) (M:q_m):JO m M (swp M r k):=by
 refine⟨fun i l=>if i=r then dlt k l else if i=k then dlt r l else dlt i l,fun i hi c=>?_⟩;unfold mm swp
 by_cases h1:i=r
 ·simp only[h1,if_true];exact (zi hk (fun l=>M l c)).symm
 ·by_cases h2:i=k
  ·simp only[h1,h2,if_true,if_false];have:k≠r:=by omega
   simp only[this,if_false];exact (zi hr (fun l=>M l c)).symm
  ·simp only[h1,h2,if_false];exact (zi hi (fun l=>M l c)).symm
theorem q5u {r:Nat}(hr:r<m) (M:q_m):JO m M (nrm M r j):=by
 refine⟨fun i l=>if i=r then dlt r l / M r j else dlt i l,fun i hi c=>?_⟩;unfold mm nrm
 by_cases h1:i=r
 ·simp only[h1,if_true];rw[kN hr (fun l _ hl=>by rw[kY (by omega)];grind),kX];grind
 ·simp only[h1,if_false];exact (zi hi (fun l=>M l c)).symm
theorem q3E {r:Nat}(hr:r<m) (M:q_m) (h:M r j≠0):JO m (nrm M r j) M:=by
 refine⟨fun i l=>if i=r then dlt r l*M r j else dlt i l,fun i hi c=>?_⟩;unfold mm nrm
 by_cases h1:i=r
 ·simp only[h1,if_true];rw[kN hr (fun l _ hl=>by rw[kY (by omega)];grind),kX,if_pos rfl];grind
 ·simp only[h1,if_false];rw[zi hi (fun l=>if l=r then M r c / M r j else M l c),if_neg h1]
theorem q5v {r:Nat}(hr:r<m) (M:q_m):JO m M (clr M r j):=by
 refine⟨fun i l=>if i=r then dlt r l else dlt i l-M i j*dlt r l,fun i hi c=>?_⟩;unfold mm clr
 by_cases h1:i=r
 ·simp only[h1,if_true];exact (zi hr (fun l=>M l c)).symm
 ·simp only[h1,if_false];have e:∀l,(dlt i l-M i j*dlt r l)*M l c=dlt i l*M l c-M i j*(dlt r l*M l c):=fun l=>by grind
  rw[qf (fun l _=>e l),XE,zN,zi hi (fun l=>M l c),zi hr (fun l=>M l c)]
theorem q3F {r:Nat}(hr:r<m) (M:q_m):JO m (clr M r j) M:=by
 refine⟨fun i l=>if i=r then dlt r l else dlt i l+M i j*dlt r l,fun i hi c=>?_⟩;unfold mm clr
 by_cases h1:i=r
 ·simp only[h1,if_true];rw[zi hr (fun l=>if l=r then M r c else M l c-M l j*M r c),if_pos rfl]
 ·simp only[h1,if_false];have e:∀l,(dlt i l+M i j*dlt r l)*(if l=r then M r c else M l c-M l j*M r c)=dlt i l*(if l=r then M r c else M l c-M l j*M r c)+M i j*(dlt r l*(if l=r then M r c else M l c-M l j*M r c)):=fun l=>by grind
  rw[qf (fun l _=>e l),Ql,zN,zi hi (fun l=>if l=r then M r c else M l c-M l j*M r c),zi hr (fun l=>if l=r then M r c else M l c-M l j*M r c),if_pos rfl,if_neg h1]
  grind
theorem q3D {r:Nat}(hr:r<m) (hk:k<m) (M:q_m):JO m (swp M r k) M:=by
 obtain⟨T,hT⟩:=q0k hr hk (swp M r k);exact⟨T,fun i hi c=>by rw[<-hT i hi c,q6L]⟩
structure q1s (m j:Nat) (M0 M:q_m) (p:List Nat):Prop where
 len:p.length<=m
 low:∀s,s<p.length->p[s]?.getD 0<j
 inc:∀s t,s<t->t<p.length->p[s]?.getD 0<p[t]?.getD 0
 unit:∀s,s<p.length->∀i,i<m->M i (p[s]?.getD 0)=dlt i s
 zero:∀i,p.length<=i->i<m->∀c,c<j->M i c=0
 left:∀s,s<p.length->∀c,c<p[s]?.getD 0->M s c=0
 there:JO m M0 M
 back:JO m M M0
theorem Qm {p:List Nat}{s:Nat}(h:s<p.length):(p ++ [j])[s]?.getD 0=p[s]?.getD 0:=by rw[List.getElem?_append_left h]
theorem vT {p:List Nat}:(p ++ [j])[p.length]?.getD 0=j:=by simp
theorem xY (m:Nat) (M0:q_m):∀j,q1s m j M0 (zI m M0 j).1 (zI m M0 j).2:=by
 intro j
 induction j with
 | zero=>exact⟨Nat.zero_le _,fun s h=>by simp[zI] at h,fun s t _ h=>by simp[zI] at h,fun s h=>by simp[zI] at h,fun i _ _ c h=>by omega,fun s h=>by simp[zI] at h,JO.refl _ _,JO.refl _ _⟩
 | succ j ih =>
  simp only[zI]
  generalize zI m M0 j=st at ih
  obtain⟨M,p⟩:=st;simp only at ih;unfold Vg;simp only;obtain⟨s1,s2,s3,s4⟩:=vV M m j (m-p.length) p.length (q_r) ih.len
  generalize XJ M m j (m-p.length) p.length=k at s1 s2 s3 s4
  obtain⟨r,hr⟩:∃r,r=p.length:=⟨_,rfl⟩
  rw[<-hr] at s1 s3 ⊢
  by_cases hk:k<m
  ·rw[if_pos hk]
   show q1s m (j+1) M0 (clr (nrm (swp M r k) r j) r j) (p ++ [j])
   have hrm:r<m:=by omega
   have hkj:=s4 hk;have hS:∀i c,swp M r k i c=if i=r then M k c else if i=k then M r c else M i c:=fun _ _=>rfl
   have hN:∀i c,nrm (swp M r k) r j i c=if i=r then M k c / M k j else if i=k then M r c else M i c:=by
    intro i c;unfold nrm swp
    by_cases h1:i=r
    ·simp[h1]
    ·simp[h1]
   have hC:∀i c,clr (nrm (swp M r k) r j) r j i c=if i=r then M k c / M k j else (if i=k then M r c else M i c)-(if i=k then M r j else M i j)*(M k c / M k j):=by
    intro i c;unfold clr
    by_cases h1:i=r
    ·simp[h1,hN]
    ·simp[h1,hN]
   refine⟨by simp;omega,?_,?_,?_,?_,?_,?_,?_⟩
   ·intro s hs;simp only[List.length_append,List.length_singleton] at hs
    rcases Nat.lt_or_ge s p.length with h1|h1
    ·rw[Qm h1];have:=ih.low s h1;omega
    ·obtain rfl:s=p.length:=by omega
     rw[vT];omega
   ·intro s t hst ht;simp only[List.length_append,List.length_singleton] at ht
    rcases Nat.lt_or_ge t p.length with h1|h1
    ·rw[Qm h1,Qm (by omega)];exact ih.inc s t hst h1
    ·obtain rfl:t=p.length:=by omega
     rw[vT,Qm hst];exact ih.low s hst
   ·intro s hs i hi;simp only[List.length_append,List.length_singleton] at hs
    rcases Nat.lt_or_ge s p.length with h1|h1
    ·rw[Qm h1];have u1:=ih.unit s h1;have z1:M k (p[s]?.getD 0)=0:=by rw[u1 k hk,kY (by omega)]
     rw[hC]
     by_cases h2:i=r
     ·rw[if_pos h2,z1,kY (by omega)];grind
     ·rw[if_neg h2,z1]
      by_cases h3:i=k
      ·rw[if_pos h3,u1 r hrm,kY (by omega),kY (by omega)];grind
      ·rw[if_neg h3,u1 i hi];grind
    ·obtain rfl:s=p.length:=by omega
     rw[vT,<-hr,hC]
     by_cases h2:i=r
     ·rw[if_pos h2,h2,kX];grind
     ·rw[if_neg h2,kY h2];grind
   ·intro i h1 hi c hc;simp only[List.length_append,List.length_singleton] at h1;rw[hC,if_neg (by omega)]
    rcases Nat.lt_or_ge c j with h2|h2
    ·rw[ih.zero k (by omega) hk c h2,ih.zero r (by omega) hrm c h2,ih.zero i (by omega) hi c h2]
     split<;>grind
    ·obtain rfl:c=j:=by omega
     grind
   ·intro s hs c hc;simp only[List.length_append,List.length_singleton] at hs
    rcases Nat.lt_or_ge s p.length with h1|h1
    ·rw[Qm h1] at hc;have l1:=ih.low s h1;rw[hC,if_neg (by omega),if_neg (by omega),ih.left s h1 c hc,ih.zero k (by omega) hk c (by omega)]
     grind
    ·obtain rfl:s=p.length:=by omega
     rw[vT] at hc;rw[hC,if_pos hr.symm,ih.zero k (by omega) hk c hc]
     grind
   ·exact ((ih.there.trans (q0k hrm hk M)).trans (q5u hrm _)).trans (q5v hrm _)
   ·have hne:swp M r k r j≠0:=by unfold swp;simpa using hkj
    exact (q3F hrm _).trans ((q3E hrm _ hne).trans ((q3D hrm hk M).trans ih.back))
  ·rw[if_neg hk]
   show q1s m (j+1) M0 M p
   have hkm:k=m:=by omega
   refine⟨ih.len,fun s hs=>by have:=ih.low s hs;omega,ih.inc,ih.unit,?_,ih.left,ih.there,ih.back⟩;intro i h1 hi c hc
   rcases Nat.lt_or_ge c j with h2|h2
   ·exact ih.zero i h1 hi c h2
   ·obtain rfl:c=j:=by omega
    exact s3 i (by omega) (by omega)
end
section
open Rat (divInt)
def Ht (k:Nat) (q:Rat):Prop:=q.num.natAbs<2 ^ k/\q.den<2 ^ k
theorem Ht.mono(h:Ht k q) (hk:k<=m):Ht m q :=
 ⟨Nat.lt_of_lt_of_le h.1 (Nat.pow_le_pow_right (by omega) hk),Nat.lt_of_lt_of_le h.2 (Nat.pow_le_pow_right (by omega) hk)⟩
theorem Ht.pos(h:Ht k q):0<k:=by
 rcases Nat.eq_zero_or_pos k with h0|h0
 ·have h1:=h.2;rw[h0,Nat.pow_zero] at h1;have:=q.den_pos;omega
 ·exact h0
theorem ZL {a b:Int}(ha:a.natAbs<2 ^ k) (hb:b.natAbs<2 ^ k) (hk:0<k):Ht k (divInt a b):=by
 have h1:1<2 ^ k:=Nat.one_lt_two_pow (by omega)
 constructor
 ·rw[Rat.num_divInt];refine Nat.lt_of_le_of_lt (Int.natAbs_ediv_le_natAbs _ _) ?_;rw[Int.natAbs_mul]
  rcases Int.lt_trichotomy b 0 with h|h|h
  ·rw[Int.sign_eq_neg_one_of_neg h];simpa using ha
  ·rw[h];simp;omega
  ·rw[Int.sign_eq_one_of_pos h];simpa using ha
 ·rw[Rat.den_divInt]
  split
  ·exact h1
  ·exact Nat.lt_of_le_of_lt (Nat.div_le_self _ _) hb
theorem QF (x y:Rat):x+y=divInt (x.num*y.den+y.num*x.den) ((x.den:Int)*y.den):=by
 rw[Rat.add_def',<-Rat.divInt_ofNat,Int.natCast_mul]
theorem Qw (x y:Rat):x*y=divInt (x.num*y.num) ((x.den:Int)*y.den):=by
 rw[Rat.mul_def',<-Rat.divInt_ofNat,Int.natCast_mul]
theorem Xv (x y:Rat):x / y=divInt (x.num*y.den) ((x.den:Int)*y.num):=by
 rw[Rat.div_def,Rat.inv_def];have:=Rat.divInt_mul_divInt x.num (y.den:Int) (d₁:=(x.den:Int)) (d₂:=y.num);rw[Rat.num_divInt_den] at this;exact this
theorem xh {a:Nat}(ha:a<2 ^ k) (hb:b<2 ^ m):a*b<2 ^ (k+m):=by
 rw[Nat.pow_add];exact Nat.mul_lt_mul_of_lt_of_le ha (Nat.le_of_lt hb) (Nat.pow_pos (by omega))
theorem Ht.mul{y:Rat}(h:Ht k x) (h':Ht m y):Ht (k+m) (x*y):=by
 rw[Qw];refine ZL ?_ ?_ (by have:=h.pos;omega)
 ·rw[Int.natAbs_mul];exact xh h.1 h'.1
 ·rw[Int.natAbs_mul,Int.natAbs_natCast,Int.natAbs_natCast];exact xh h.2 h'.2
theorem Ht.div{y:Rat}(h:Ht k x) (h':Ht m y):Ht (k+m) (x / y):=by
 rw[Xv];refine ZL ?_ ?_ (by have:=h.pos;omega)
 ·rw[Int.natAbs_mul,Int.natAbs_natCast];exact xh h.1 h'.2
 ·rw[Int.natAbs_mul,Int.natAbs_natCast];exact xh h.2 h'.1
theorem Ht.add{y:Rat}(h:Ht k x) (h':Ht m y):Ht (k+m+1) (x+y):=by
 rw[QF];refine ZL ?_ ?_ (by omega)
 ·refine Nat.lt_of_le_of_lt (Int.natAbs_add_le _ _) ?_;rw[Int.natAbs_mul,Int.natAbs_mul,Int.natAbs_natCast,Int.natAbs_natCast,Nat.pow_succ];have h1:=xh h.1 h'.2;have h2:=xh h'.1 h.2;rw[Nat.add_comm m k] at h2;omega
 ·rw[Int.natAbs_mul,Int.natAbs_natCast,Int.natAbs_natCast,Nat.pow_succ];have h1:=xh h.2 h'.2;omega
theorem Ht.neg(h:Ht k x):Ht k (-x):=by
 constructor
 ·rw[Rat.neg_num,Int.natAbs_neg];exact h.1
 ·rw[Rat.neg_den];exact h.2
theorem Ht.sub{y:Rat}(h:Ht k x) (h':Ht m y):Ht (k+m+1) (x-y):=by
 rw[Rat.sub_eq_add_neg];exact h.add h'.neg
theorem Ht.zero:Ht 1 0:=⟨by decide,by decide⟩
theorem Ht.one:Ht 1 1:=⟨by decide,by decide⟩
theorem wR{f:q_v}(h:∀i,i<n->Ht k (f i)):Ht (n*(k+1)+1) (sum n f):=by
 induction n with
 | zero=>exact Ht.zero.mono (by omega)
 | succ n ih =>
  rw[qN];refine ((ih (fun i hi=>h i (by omega))).add (h n (by omega))).mono ?_;rw[Nat.add_mul];omega
def Sz (q:Rat):Prop:=ln q.num.natAbs<=1000000000/\ln q.den<=1000000000
theorem Yo {s:Nat}(h:k<=29*s):2 ^ k<=bs ^ s:=by
 refine q_l (Nat.pow_le_pow_right (by omega) h) ?_;rw[Nat.pow_mul];exact Nat.pow_le_pow_left (by decide) s
theorem Ht.lns {s:Nat}(h:Ht k q) (hk:k<=29*s):ln q.num.natAbs<=s/\ln q.den<=s :=
 ⟨zo (Nat.lt_of_lt_of_le h.1 (Yo hk)),zo (Nat.lt_of_lt_of_le h.2 (Yo hk))⟩
theorem Ht.sz(h:Ht k q) (hk:k<=29000000000):Sz q:=h.lns (s:=1000000000) hk
theorem XQ {a b:Int}(hb:0<b):(divInt a b).num=a / (Int.gcd a b:Nat):=by
 rw[Rat.num_divInt,Int.sign_eq_one_of_pos hb,Int.one_mul,Int.gcd_comm]
theorem XR {a b:Int}(hb:0<b):((divInt a b).den:Int)=b / (Int.gcd a b:Nat):=by
 rw[Rat.den_divInt,if_neg (by omega),Int.gcd_comm,Int.natCast_ediv,Int.natAbs_of_nonneg (by omega)]
theorem q2e (a b:Int):divInt a b=divInt (-a) (-b):=(Rat.neg_divInt_neg a b).symm
end
section
open Go.RowKit
structure Raw where
 b1:Bool
 l1:List Nat
 b2:Bool
 l2:List Nat
def KL (N:Nat) (w:World) (v:Value) (R:Raw):Prop:=∃s t,v=.agg #[.bool R.b1,s,.bool R.b2,t]/\Gs N w s R.l1/\Gs N w t R.l2
theorem KL.ext{R:Raw}(h:KL N w v R) (e:Ext w w'):KL N w' v R:=by
 obtain⟨s,t,hv,h1,h2⟩:=h;exact⟨s,t,hv,h1.ext e,h2.ext e⟩
theorem KL.le{R:Raw}(h:KL N w v R):N<=w.heap.size:=by
 obtain⟨s,t,hv,h1,h2⟩:=h;exact h1.le
def yV (b:Bool) (l:List Nat):Int:=if b then -(val l:Int) else (val l:Int)
def raw (q:Rat):Raw:=⟨decide (q.num<0),dg q.num.natAbs,false,dg q.den⟩
def okR (R:Raw):Bool:=okB R.b1 R.l1&&okB R.b2 R.l2&&decide (0<yV R.b2 R.l2)&&decide (Int.gcd (yV R.b1 R.l1) (yV R.b2 R.l2)=1)
def qX (N:Nat) (w:World) (v:Value) (q:Rat):Prop:=KL N w v (raw q)
theorem qX.ext(h:qX N w v q) (e:Ext w w'):qX N w' v q:=KL.ext h e
theorem qX.le(h:qX N w v q):N<=w.heap.size:=KL.le h
theorem KL.parts{R:Raw}(h:KL N w v R):∃(A:Option Addr) (n c:Nat) (A':Option Addr) (n' c':Nat),v=.agg #[.bool R.b1,.slice A n c,.bool R.b2,.slice A' n' c']/\Gs N w (.slice A n c) R.l1/\Gs N w (.slice A' n' c') R.l2:=by
 obtain⟨s,t,rfl,h1,h2⟩:=h;obtain⟨A,n,c,rfl,-,-,-⟩:=h1.form;obtain⟨A',n',c',rfl,-,-,-⟩:=h2.form;exact⟨A,n,c,A',n',c',rfl,h1,h2⟩
theorem qX.parts(h:qX N w v q):∃(b:Bool) (A:Option Addr) (n c:Nat) (A':Option Addr) (n' c':Nat),v=.agg #[.bool b,.slice A n c,.bool false,.slice A' n' c']/\Hid (b=decide (q.num<0))/\Gs N w (.slice A n c) (dg q.num.natAbs)/\Gs N w (.slice A' n' c') (dg q.den):=by
 obtain⟨A,n,c,A',n',c',hv,h1,h2⟩:=KL.parts h;exact⟨_,A,n,c,A',n',c',hv,rfl,h1,h2⟩
theorem qX.mk{b:Bool}{t:Value}(hb:Hid (b=decide (q.num<0))) (h1:Gs N w s (dg q.num.natAbs)) (h2:Gs N w t (dg q.den)):qX N w (.agg #[.bool b,s,.bool false,t]) q :=
 ⟨s,t,by rw[hb.out];rfl,h1,h2⟩
theorem zF{b:Bool}(hb:Hid (b=decide (q.num<0))) (h:Gs N w (.slice A n c) (dg q.num.natAbs)):zy N w (.agg #[.bool b,.slice A n c]) q.num:=zy.mk hb h
theorem zM(h:Gs N w (.slice A n c) (dg d)):zy N w (.agg #[.bool false,.slice A n c]) (d:Int):=by
 refine zy.mk ?_ (by rw[Int.natAbs_natCast];exact h);rw[Hid];symm;simp
def jP (N:Nat) (w:World) (q:Rat) (e:Ending) (w':World):Prop:=∃v,e=.returned v/\qX N w' v q/\Ext w w'
theorem jP.form{e:Ending}(h:jP N w q e w'):∃(b:Bool) (A:Option Addr) (n c:Nat) (A':Option Addr) (n' c':Nat),e=.returned (.agg #[.bool b,.slice A n c,.bool false,.slice A' n' c'])/\Hid (b=decide (q.num<0))/\Gs N w' (.slice A n c) (dg q.num.natAbs)/\Gs N w' (.slice A' n' c') (dg q.den)/\Ext w w':=by
 obtain⟨v,rfl,hv,he⟩:=h;obtain⟨b,A,n,c,A',n',c',rfl,hb,h1,h2⟩:=hv.parts;exact⟨b,A,n,c,A',n',c',rfl,hb,h1,h2,he⟩
theorem jy {b:Bool}(h:okB b l=true):l=dg (val l)/\b=decide (yV b l<0)/\val l=(yV b l).natAbs:=by
 unfold okB at h
 by_cases hl:l=[]
 ·subst hl;rw[if_pos rfl] at h;have hb:b=false:=by simpa using h
  subst hb;exact⟨zO.symm,by simp[yV,val],by simp[yV,val]⟩
 ·rw[if_neg hl] at h;simp only[Bool.and_eq_true,List.all_eq_true,decide_eq_true_eq,bne_iff_ne,ne_eq] at h;have hc:Canon l:=⟨fun x hx=>h.1 x hx,h.2⟩
  have hp:=hc.val_pos hl;refine⟨hc.eq_dg,?_,?_⟩
  ·unfold yV;cases b
   ·simp
   ·simp;omega
  ·unfold yV;cases b<;>simp
theorem KN (z:Int):yV (decide (z<0)) (dg z.natAbs)=z:=by
 unfold yV;rw[qC]
 by_cases h:z<0
 ·simp[h];omega
 ·simp[h];omega
theorem ja (q:Rat):okR (raw q)=true:=by
 have h1:=wL q.num;have h2:=wL (q.den:Int);have h3:decide ((q.den:Int)<0)=false:=by simp
 rw[h3,Int.natAbs_natCast] at h2;have h4:yV false (dg q.den)=(q.den:Int):=by unfold yV;rw[qC];simp
 have h5:(0:Int)<(q.den:Int):=by have:=q.den_pos;omega
 have h6:Int.gcd q.num (q.den:Int)=1:=q.reduced;unfold okR raw;simp only[h1,h2,h4,KN,h5,h6]
 rfl
theorem q4U {R:Raw}(h:okR R=true):∃q:Rat,R=raw q:=by
 obtain⟨b1,l1,b2,l2⟩:=R;unfold okR at h;simp only[Bool.and_eq_true,decide_eq_true_eq] at h;obtain⟨⟨⟨h1,h2⟩,h3⟩,h4⟩:=h;obtain⟨e1,e2,e3⟩:=jy h1;obtain⟨f1,f2,f3⟩:=jy h2;have hb2:b2=false:=by rw[f2];simp;omega
 subst hb2;have hz:yV false l2=(val l2:Int):=by unfold yV;simp
 rw[hz] at h3 h4;refine⟨⟨yV b1 l1,val l2,by omega,?_⟩,?_⟩
 ·exact h4
 ·unfold raw;simp only[Raw.mk.injEq];exact⟨e2,by rw[<-e3];exact e1,trivial,f1⟩
theorem qQ {fn:Func}{k:Tmp}(hres:fn.results=#[.cell k 35]){a:Act}(hp:a.tmps.getD k undef=.pointer (some ⟨g,0,none⟩)) (hd:a.defers=[])
{W:World}{o1 o2 o3 o4:Value}{neg:Bool}{A':Option Addr}{n' c':Nat}(hE:Ext w W) (hb:W.heap[g]?=some (.cells #[o1,o2,o3,o4] 35 (0,0))) (hg:w.heap.size<=g) (hN:N<=w.heap.size)
  (hG:Gs N W (.slice A n c) (dg q.num.natAbs)) (hG':Gs N W (.slice A' n' c') (dg q.den)) (hneg:Hid (neg=decide (q.num<0))) :
  bodyPost Tryz.prog fn (jP N w q) .ret a ((((W.setCell ⟨g,0,none⟩ (.bool neg)).setCell ⟨g,1,none⟩ (.slice A n c)).setCell ⟨g,2,none⟩ (.bool false)).setCell ⟨g,3,none⟩ (.slice A' n' c')):=by
 obtain⟨w1,E1,B1,U⟩:=ex4 hb (.bool neg) (.slice A n c) (.bool false) (.slice A' n' c');rw[E1];obtain⟨c0,c1,c2,c3,-⟩:=cells4 B1;have hT:NoU W g:=NoU.mk hb (by decide);refine bodyPost_ret (v:=.agg #[.bool neg,.slice A n c,.bool false,.slice A' n' c']) ?_ hd ⟨_,rfl,qX.mk hneg (hG.upd U (by omega) hT) (hG'.upd U (by omega) hT),U.ext hE hg⟩;have hp':a.tmps[k]?.getD undef=.pointer (some ⟨g,0,none⟩):=by simpa using hp
 simp[results,hres,hp',c0,c1,c2,c3,go_sem]
def q9t (w:World) (g K:Nat) (a b:List Nat) (c i:Value) (wr:World):Prop :=
 ∃(k:Nat) (cz:Int) (l:List Nat),k<=K/\i=.int .i64 k/\c=.int .u32 cz/\0<=cz/\cz<=1/\Arr wr g l/\l.length=K/\Dig l /\
  val l+bs ^ k*cz.toNat=val (a.take k)+val (b.take k)/\(∀t,k<=t->l[t]?.getD 0=0)/\Ext w wr
theorem zL{t x:Nat}(h:i≠t):(l.set i x)[t]?.getD 0=l[t]?.getD 0:=by rw[List.getElem?_set_ne h]
theorem Z7{C A B a q:Nat}(hk:k<l.length) (h0:l[k]?.getD 0=0) (h:val l+bs ^ k*C=A+B) (hq:a+b+C=d+bs*q) (hc:c=q):val (l.set k d)+bs ^ (k+1)*c=A+bs ^ k*a+(B+bs ^ k*b):=by
 have h1:=kG hk d;rw[h0,Nat.mul_zero,Nat.add_zero] at h1;rw[h1];exact ZC h hq hc
theorem q6h{t:Value}{a b:List Nat}(h:Gs N w s a) (h':Gs N w t b) (ha:Dig a) (hb:Dig b) (hL:a.length<=1000000000000) (hL':b.length<=1000000000000) :
  Calls Tryz.prog 191 #[s,t] w (QX N w (val a+val b)):=by
 obtain⟨r,hr⟩:=qc (val a+val b);rw[<-hr.out];have hN:=h.le;obtain⟨A1,k1,c1,rfl,hlen,-,-⟩:=h.form;obtain⟨A2,k2,c2,rfl,hlen',-,-⟩:=h'.form;rw[hlen.out] at hL;rw[hlen'.out] at hL';obtain⟨K,hK⟩:=qc (max k1 k2+1)
 have HS:Hid (val a+val b<bs ^ K):=by
  have h1:=jS ha;have h2:=jS hb;rw[hlen.out] at h1;rw[hlen'.out] at h2;have h3:bs ^ k1<=bs ^ max k1 k2:=Nat.pow_le_pow_right qV (Nat.le_max_left _ _);have h4:bs ^ k2<=bs ^ max k1 k2:=Nat.pow_le_pow_right qV (Nat.le_max_right _ _);rw[Hid,hK.out,Nat.pow_succ];have:bs ^ max k1 k2*2<=bs ^ max k1 k2*bs:=Nat.mul_le_mul_left _ (by decide);omega
 have hKb:K<=1000000000001/\k1<=K/\k2<=K:=by have:=hK.out;omega
 obtain⟨hK1,hK2,hK3⟩:=hKb
 rcases Nat.lt_or_ge k1 k2 with hm|hm
 ·go_enter Tryz.func191,Tryz.ntmps191;go_wp2_with (at_make;refine q_o ?_);refine zf rfl (.tmp 14) (.tmp 14) rfl .i64 .i64 _ _ K rfl rfl (by rw[hK.out];omega) (by rw[hK.out];omega) (by omega) ?_;intro w5 hA e5;obtain⟨g,hg⟩:=qc w.heap.size;rw[<-hg.out] at hA ⊢;go_wp2
  go_loopw [6,18] (fun c i wr=>q9t w g K a b c i wr) (fun _ i _=>K-(intOf i).toNat)
  case atStart=>exact⟨0,0,_,Nat.zero_le _,rfl,rfl,by omega,by omega,hA,List.length_replicate,Dig.replicate _,by simp[zt,val],fun t _=>by rw[List.getElem?_replicate];split<;>rfl,e5⟩
  case round =>
   obtain⟨k,cz,l,hk,rfl,rfl,cz0,cz1,hA2,hll,hDl,hv,hzero,e6⟩:=hrel;have HV:=q_h hv;have HZ:=q_h hzero;have HLL:=q_h hll;have HDl:=q_h hDl;clear hv hzero hll hDl
   by_cases hlt:k<K
   ·obtain⟨za,hza⟩:=qc (((a[k]?.getD 0:Nat)):Int);obtain⟨zb,hzb⟩:=qc (((b[k]?.getD 0:Nat)):Int);have za0:0<=za/\za<1000000000:=by have:=ha.get k;unfold bs at this;have:=hza.out;omega
    have zb0:0<=zb/\zb<1000000000:=by have:=hb.get k;unfold bs at this;have:=hzb.out;omega
    obtain⟨za0,za1⟩:=za0;obtain⟨zb0,zb1⟩:=zb0;obtain⟨oz,gz3,fz3,oz0,oz1,hoz⟩:=hA2.at_ (k:=k) (by rw[HLL.out];exact hlt);clear hoz;go_wp2_with (go_at_call 195;refine q_o ?_);refine (q8i (h.ext e6) k rfl hza.out).mono ?_;rintro e w' ⟨rfl,rfl⟩;go_wp2_with (go_at_call 195;refine q_o ?_);refine (q8i (h'.ext e6) k rfl hzb.out).mono ?_;rintro e w' ⟨rfl,rfl⟩
    by_cases hs:za+zb+cz<1000000000
    ·have HR:Hid (val (l.set k (za+zb+cz).toNat)+bs ^ (k+1)*(0:Int).toNat=val (a.take (k+1))+val (b.take (k+1))):=by
      rw[Hid,qx,qx];refine Z7 (q:=(0:Int).toNat) (by rw[HLL.out];omega) (HZ.out k (q_r)) HV.out ?_ rfl;have e1:=hza.out;have e2:=hzb.out;unfold bs;omega
     have HDn:Hid (Dig (l.set k (za+zb+cz).toNat)):=HDl.out.set _ _ (by unfold bs;omega);go_wp2;refine⟨⟨k+1,0,l.set k (za+zb+cz).toNat,by omega,by go_num,rfl,by omega,by omega,Arr.set hA2 _ (by omega) (by omega),by rw[List.length_set];exact HLL.out,HDn.out,HR.out,fun t ht=>?_,e6.setCell (p:=⟨g,k,none⟩) (by rw[hg.out];exact q_r) _⟩,by simp[intOf];omega⟩;rw[zL (by omega)];exact HZ.out t (by omega)
    ·have HR:Hid (val (l.set k (za+zb+cz-1000000000).toNat)+bs ^ (k+1)*(1:Int).toNat=val (a.take (k+1))+val (b.take (k+1))):=by
      rw[Hid,qx,qx];refine Z7 (q:=(1:Int).toNat) (by rw[HLL.out];omega) (HZ.out k (q_r)) HV.out ?_ rfl;have e1:=hza.out;have e2:=hzb.out;unfold bs;omega
     have HDn:Hid (Dig (l.set k (za+zb+cz-1000000000).toNat)):=HDl.out.set _ _ (by unfold bs;omega);go_wp2;refine⟨⟨k+1,1,l.set k (za+zb+cz-1000000000).toNat,by omega,by go_num,rfl,by omega,by omega,Arr.set hA2 _ (by omega) (by omega),by rw[List.length_set];exact HLL.out,HDn.out,HR.out,fun t ht=>?_,e6.setCell (p:=⟨g,k,none⟩) (by rw[hg.out];exact q_r) _⟩,by simp[intOf];omega⟩;rw[zL (by omega)];exact HZ.out t (by omega)
   ·obtain rfl:k=K:=by omega
    have HF:Hid (val l=r):=by
     have h1:=HV.out;rw[qG (by rw[hlen.out];exact hK2),qG (by rw[hlen'.out];exact hK3)] at h1;have h2:=HS.out;rw[Hid,hr.out]
     rcases Nat.eq_zero_or_pos cz.toNat with h0|h0
     ·rw[h0] at h1;omega
     ·have:=Nat.mul_le_mul_left (bs ^ k) h0;rw[Nat.succ_eq_add_one,Nat.zero_add,Nat.mul_one] at this;omega
    have hG:=hA2.gsN (N:=N) (q_l hN e6.size) (n:=k) (c:=k) HLL.out rfl (by unfold maxLen;omega);go_wp2_with (go_at_call 188;refine q_o ?_);refine (QM hG HDl.out).mono ?_;rintro e w' ⟨⟨k9,rfl,hG9⟩,rfl⟩;rw[HF.out] at hG9;go_wp2;go_ret;exact⟨_,_,_,rfl,hG9,e6,fun ad h=>by injection h with h;rw[<-h,hg.out];exact q_r⟩
 ·go_enter Tryz.func191,Tryz.ntmps191;go_wp2_with (at_make;refine q_o ?_);refine zf rfl (.tmp 14) (.tmp 14) rfl .i64 .i64 _ _ K rfl rfl (by rw[hK.out];omega) (by rw[hK.out];omega) (by omega) ?_;intro w5 hA e5;obtain⟨g,hg⟩:=qc w.heap.size;rw[<-hg.out] at hA ⊢;go_wp2
  go_loopw [6,18] (fun c i wr=>q9t w g K a b c i wr) (fun _ i _=>K-(intOf i).toNat)
  case atStart=>exact⟨0,0,_,Nat.zero_le _,rfl,rfl,by omega,by omega,hA,List.length_replicate,Dig.replicate _,by simp[zt,val],fun t _=>by rw[List.getElem?_replicate];split<;>rfl,e5⟩
  case round =>
   obtain⟨k,cz,l,hk,rfl,rfl,cz0,cz1,hA2,hll,hDl,hv,hzero,e6⟩:=hrel;have HV:=q_h hv;have HZ:=q_h hzero;have HLL:=q_h hll;have HDl:=q_h hDl;clear hv hzero hll hDl
   by_cases hlt:k<K
   ·obtain⟨za,hza⟩:=qc (((a[k]?.getD 0:Nat)):Int);obtain⟨zb,hzb⟩:=qc (((b[k]?.getD 0:Nat)):Int);have za0:0<=za/\za<1000000000:=by have:=ha.get k;unfold bs at this;have:=hza.out;omega
    have zb0:0<=zb/\zb<1000000000:=by have:=hb.get k;unfold bs at this;have:=hzb.out;omega
    obtain⟨za0,za1⟩:=za0;obtain⟨zb0,zb1⟩:=zb0;obtain⟨oz,gz3,fz3,oz0,oz1,hoz⟩:=hA2.at_ (k:=k) (by rw[HLL.out];exact hlt);clear hoz;go_wp2_with (go_at_call 195;refine q_o ?_);refine (q8i (h.ext e6) k rfl hza.out).mono ?_;rintro e w' ⟨rfl,rfl⟩;go_wp2_with (go_at_call 195;refine q_o ?_);refine (q8i (h'.ext e6) k rfl hzb.out).mono ?_;rintro e w' ⟨rfl,rfl⟩
    by_cases hs:za+zb+cz<1000000000
    ·have HR:Hid (val (l.set k (za+zb+cz).toNat)+bs ^ (k+1)*(0:Int).toNat=val (a.take (k+1))+val (b.take (k+1))):=by
      rw[Hid,qx,qx];refine Z7 (q:=(0:Int).toNat) (by rw[HLL.out];omega) (HZ.out k (q_r)) HV.out ?_ rfl;have e1:=hza.out;have e2:=hzb.out;unfold bs;omega
     have HDn:Hid (Dig (l.set k (za+zb+cz).toNat)):=HDl.out.set _ _ (by unfold bs;omega);go_wp2;refine⟨⟨k+1,0,l.set k (za+zb+cz).toNat,by omega,by go_num,rfl,by omega,by omega,Arr.set hA2 _ (by omega) (by omega),by rw[List.length_set];exact HLL.out,HDn.out,HR.out,fun t ht=>?_,e6.setCell (p:=⟨g,k,none⟩) (by rw[hg.out];exact q_r) _⟩,by simp[intOf];omega⟩;rw[zL (by omega)];exact HZ.out t (by omega)
    ·have HR:Hid (val (l.set k (za+zb+cz-1000000000).toNat)+bs ^ (k+1)*(1:Int).toNat=val (a.take (k+1))+val (b.take (k+1))):=by
      rw[Hid,qx,qx];refine Z7 (q:=(1:Int).toNat) (by rw[HLL.out];omega) (HZ.out k (q_r)) HV.out ?_ rfl;have e1:=hza.out;have e2:=hzb.out;unfold bs;omega
     have HDn:Hid (Dig (l.set k (za+zb+cz-1000000000).toNat)):=HDl.out.set _ _ (by unfold bs;omega);go_wp2;refine⟨⟨k+1,1,l.set k (za+zb+cz-1000000000).toNat,by omega,by go_num,rfl,by omega,by omega,Arr.set hA2 _ (by omega) (by omega),by rw[List.length_set];exact HLL.out,HDn.out,HR.out,fun t ht=>?_,e6.setCell (p:=⟨g,k,none⟩) (by rw[hg.out];exact q_r) _⟩,by simp[intOf];omega⟩;rw[zL (by omega)];exact HZ.out t (by omega)
   ·obtain rfl:k=K:=by omega
    have HF:Hid (val l=r):=by
     have h1:=HV.out;rw[qG (by rw[hlen.out];exact hK2),qG (by rw[hlen'.out];exact hK3)] at h1;have h2:=HS.out;rw[Hid,hr.out]
     rcases Nat.eq_zero_or_pos cz.toNat with h0|h0
     ·rw[h0] at h1;omega
     ·have:=Nat.mul_le_mul_left (bs ^ k) h0;rw[Nat.succ_eq_add_one,Nat.zero_add,Nat.mul_one] at this;omega
    have hG:=hA2.gsN (N:=N) (q_l hN e6.size) (n:=k) (c:=k) HLL.out rfl (by unfold maxLen;omega);go_wp2_with (go_at_call 188;refine q_o ?_);refine (QM hG HDl.out).mono ?_;rintro e w' ⟨⟨k9,rfl,hG9⟩,rfl⟩;rw[HF.out] at hG9;go_wp2;go_ret;exact⟨_,_,_,rfl,hG9,e6,fun ad h=>by injection h with h;rw[<-h,hg.out];exact q_r⟩
def q9u (w:World) (g K:Nat) (a b:List Nat) (c i:Value) (wr:World):Prop :=
 ∃(k:Nat) (cz:Int) (l:List Nat),k<=K/\i=.int .i64 k/\c=.int .u32 cz/\0<=cz/\cz<=1/\Arr wr g l/\l.length=K/\Dig l /\
  val (a.take k)+bs ^ k*cz.toNat=val l+val (b.take k)/\(∀t,k<=t->l[t]?.getD 0=0)/\Ext w wr
theorem Yy{C A B a:Nat}(hk:k<l.length) (h0:l[k]?.getD 0=0) (h:A+bs ^ k*C=val l+B) (hq:a+bs*c=d+b+C):A+bs ^ k*a+bs ^ (k+1)*c=val (l.set k d)+(B+bs ^ k*b):=by
 have h1:=kG hk d;rw[h0,Nat.mul_zero,Nat.add_zero] at h1;rw[h1];exact Xf h hq
theorem q7w{t:Value}{a b:List Nat}(h:Gs N w s a) (h':Gs N w t b) (ha:Dig a) (hb:Dig b) (hL:a.length<=1000000000000) (hle:val b<=val a) :
  Calls Tryz.prog 192 #[s,t] w (QX N w (val a-val b)):=by
 obtain⟨r,hr⟩:=qc (val a-val b);rw[<-hr.out];have hN:=h.le;obtain⟨A1,K,c1,rfl,hlen,-,-⟩:=h.form;obtain⟨A2,k2,c2,rfl,hlen',-,-⟩:=h'.form;rw[hlen.out] at hL;have Hle:=q_h hle;clear hle;go_enter Tryz.func192,Tryz.ntmps192;go_wp2_with (at_make;refine q_o ?_);refine zf rfl (.tmp 10) (.tmp 10) rfl .i64 .i64 _ _ K rfl rfl rfl rfl (by omega) ?_;intro w5 hA e5;obtain⟨g,hg⟩:=qc w.heap.size;rw[<-hg.out] at hA ⊢;go_wp2
 go_loopw [6,14] (fun c i wr=>q9u w g K a b c i wr) (fun _ i _=>K-(intOf i).toNat)
 case atStart=>exact⟨0,0,_,Nat.zero_le _,rfl,rfl,by omega,by omega,hA,List.length_replicate,Dig.replicate _,by simp[zt,val],fun t _=>by rw[List.getElem?_replicate];split<;>rfl,e5⟩
 case round =>
  obtain⟨k,cz,l,hk,rfl,rfl,cz0,cz1,hA2,hll,hDl,hv,hzero,e6⟩:=hrel;have HV:=q_h hv;have HZ:=q_h hzero;have HLL:=q_h hll;have HDl:=q_h hDl;clear hv hzero hll hDl
  by_cases hlt:k<K
  ·obtain⟨b1,o1,za,hA1,hb1,g1,za0,za2,hza⟩:=(h.ext e6).at_ hlt;have za1:za<1000000000:=by have:=ha.get k;unfold bs at this;have:=hza.out;omega
   obtain⟨zb,hzb⟩:=qc (((b[k]?.getD 0:Nat)):Int);have zb0:0<=zb/\zb<1000000000:=by have:=hb.get k;unfold bs at this;have:=hzb.out;omega
   obtain⟨zb0,zb1⟩:=zb0;obtain⟨oz,gz3,fz3,oz0,oz1,hoz⟩:=hA2.at_ (k:=k) (by rw[HLL.out];exact hlt);clear hoz;subst hA1;go_wp2_with (go_at_call 195;refine q_o ?_);refine (q8i (h'.ext e6) k rfl hzb.out).mono ?_;rintro e w' ⟨rfl,rfl⟩
   by_cases hs:za<zb+cz
   ·have HR:Hid (val (a.take (k+1))+bs ^ (k+1)*(1:Int).toNat=val (l.set k (za+1000000000-(zb+cz)).toNat)+val (b.take (k+1))):=by
     rw[Hid,qx,qx];refine Yy (by rw[HLL.out];omega) (HZ.out k (q_r)) HV.out ?_;have e1:=hza.out;have e2:=hzb.out;unfold bs;omega
    have HDn:Hid (Dig (l.set k (za+1000000000-(zb+cz)).toNat)):=HDl.out.set _ _ (by unfold bs;omega);go_wp2;refine⟨⟨k+1,1,l.set k (za+1000000000-(zb+cz)).toNat,by omega,by go_num,rfl,by omega,by omega,Arr.set hA2 _ (by omega) (by omega),by rw[List.length_set];exact HLL.out,HDn.out,HR.out,fun t ht=>?_,e6.setCell (p:=⟨g,k,none⟩) (by rw[hg.out];exact q_r) _⟩,by simp[intOf];omega⟩;rw[zL (by omega)];exact HZ.out t (by omega)
   ·have HR:Hid (val (a.take (k+1))+bs ^ (k+1)*(0:Int).toNat=val (l.set k (za-(zb+cz)).toNat)+val (b.take (k+1))):=by
     rw[Hid,qx,qx];refine Yy (by rw[HLL.out];omega) (HZ.out k (q_r)) HV.out ?_;have e1:=hza.out;have e2:=hzb.out;unfold bs;omega
    have HDn:Hid (Dig (l.set k (za-(zb+cz)).toNat)):=HDl.out.set _ _ (by unfold bs;omega);go_wp2;refine⟨⟨k+1,0,l.set k (za-(zb+cz)).toNat,by omega,by go_num,rfl,by omega,by omega,Arr.set hA2 _ (by omega) (by omega),by rw[List.length_set];exact HLL.out,HDn.out,HR.out,fun t ht=>?_,e6.setCell (p:=⟨g,k,none⟩) (by rw[hg.out];exact q_r) _⟩,by simp[intOf];omega⟩;rw[zL (by omega)];exact HZ.out t (by omega)
  ·obtain rfl:k=K:=by omega
   have HF:Hid (val l=r):=by rw[Hid,hr.out];exact Yx ha HDl.out hlen.out HLL.out Hle.out HV.out
   have hG:=hA2.gsN (N:=N) (q_l hN e6.size) (n:=k) (c:=k) HLL.out rfl (by unfold maxLen;omega);go_wp2_with (go_at_call 188;refine q_o ?_);refine (QM hG HDl.out).mono ?_;rintro e w' ⟨⟨k9,rfl,hG9⟩,rfl⟩;rw[HF.out] at hG9;go_wp2;go_ret;exact⟨_,_,_,rfl,hG9,e6,fun ad h=>by injection h with h;rw[<-h,hg.out];exact q_r⟩
def q8a (N:Nat) (w:World) (n:Nat) (e:Ending) (w':World):Prop:=∃g k c l,e=.returned (.slice (some ⟨g,0,none⟩) k c)/\Arr w' g l/\Hid (l.length=c)/\Hid (l.take k=dg n)/\k<=c/\w.heap.size<=g/\Ext w w'/\Gs N w' (.slice (some ⟨g,0,none⟩) k c) (dg n)
theorem q8a.mf{e:Ending}(h:q8a N w n e w'):QX N w n e w':=by
 obtain⟨g,k,c,l,rfl,-,-,-,-,hg,he,hG⟩:=h;exact⟨_,_,_,rfl,hG,he,fun ad h=>by injection h with h;rw[<-h];exact hg⟩
theorem Jm{t:Value}{a b:List Nat}(h:Gs N w s a) (h':Gs N w t b) (ha:Dig a) (hb:Dig b) (hL:a.length<=500000000000) (hL':b.length<=500000000000) :
  Calls Tryz.prog 179 #[s,t] w (q8a N w (val a*val b)):=by
 obtain⟨r,hr⟩:=qc (val a*val b);rw[<-hr.out];have hN:=h.le;obtain⟨A1,k1,c1,rfl,hla,-,-⟩:=h.form;obtain⟨A2,k2,c2,rfl,hlb,-,-⟩:=h'.form;rw[hla.out] at hL;rw[hlb.out] at hL';go_enter Tryz.func179,Tryz.ntmps179;go_wp2_with (at_make;refine q_o ?_);refine zf rfl (.tmp 16) (.tmp 16) rfl .i64 .i64 _ _ (k1+k2) rfl rfl (by omega) (by omega) (by omega) ?_;intro w5 hA e5;obtain⟨n,hn⟩:=qc (k1+k2);rw[<-hn.out] at hA ⊢;obtain⟨g,hg⟩:=qc w.heap.size;rw[<-hg.out] at hA ⊢;go_wp2
 go_loopw [20] (fun i wr=>q6A w g a b i wr) (fun i _=>k1-(intOf i).toNat)
 case atStart=>exact⟨0,_,Nat.zero_le _,rfl,hA,by rw[List.length_replicate,hn.out,hla.out,hlb.out],Dig.replicate _,by simp[zt,val],fun t _=>by rw[List.getElem?_replicate];split<;>rfl,e5⟩
 case round =>
  obtain⟨k,l,hk,rfl,hA2,hll,hDl,hv,hzero,e6⟩:=hrel;obtain⟨wo,rfl⟩:∃wo,wo=wr:=⟨_,rfl⟩
  rw[hla.out] at hk;have HV:=q_h hv;have HZ:=q_h hzero;have HLL:=q_h hll;clear hv hzero hll
  by_cases hlt:k<k1
  ·obtain⟨q1,o1,za,hA1e,hq1,gz1,za0,za1,hza⟩:=(h.ext e6).at_ hlt;have za2:za<=999999999:=by have:=ha.get k;unfold bs at this;have:=hza.out;omega
   subst hA1e;go_wp2
   go_loopw [8,27] (fun c j wr=>q9p w g a b k c j wr) (fun _ j _=>k2-(intOf j).toNat)
   case atStart=>exact⟨0,0,l,Nat.zero_le _,rfl,rfl,by omega,by omega,hA2,HLL.out,hDl,by simp[val,HV.out],HZ.out,e6⟩
   case round =>
    obtain⟨jj,cz,l2,hj,rfl,rfl,cz0,cz1,hA3,hll3,hDl3,hv3,hz3,e7⟩:=hrel;rw[hlb.out] at hj;have HV3:=q_h hv3;have HZ3:=q_h hz3;have HLL3:=q_h hll3;have HDl3:=q_h hDl3;clear hv3 hz3 hll3 hDl3;have hnk:k+k2<n:=by rw[hn.out];omega
    have hnb:n<=1000000000000:=by rw[hn.out];omega
    by_cases hjl:jj<k2
    ·obtain⟨q2,o2,zb,hA2e,hq2,gz2,zb0,zb1,hzb⟩:=(h'.ext e7).at_ hjl;obtain⟨oz,gz3,fz3,oz0,oz1,hoz⟩:=hA3.at_ (k:=k+jj) (by rw[HLL3.out,hla.out,hlb.out];omega);have zb2:zb<=999999999:=by have:=hb.get jj;unfold bs at this;have:=hzb.out;omega
     have oz2:oz<=999999999:=by have:=HDl3.out.get (k+jj);unfold bs at this;have:=hoz.out;omega
     have p0:0<=za*zb:=Int.mul_nonneg za0 zb0;have p1:za*zb<=999999999*999999999:=Int.mul_le_mul za2 zb2 zb0 (by omega);have HP:Hid ((za*zb).toNat=za.toNat*zb.toNat):=Int.toNat_mul za0 zb0;subst hA2e
     have HR:Hid (val (l2.set (k+jj) ((oz+za*zb+cz) % 1000000000).toNat)+bs ^ (k+(jj+1))*((oz+za*zb+cz) / 1000000000).toNat=val (a.take k)*val b+bs ^ k*(a[k]?.getD 0*val (b.take (jj+1)))):=by
      rw[Hid,qx];refine WQ (kG (by rw[HLL3.out,hla.out,hlb.out];omega) _) HV3.out ?_;have e1:=hza.out;have e2:=hzb.out;have e3:=hoz.out;rw[show a[k]?.getD 0=za.toNat from by omega,show b[jj]?.getD 0=zb.toNat from by omega,show l2[k+jj]?.getD 0=oz.toNat from by omega,<-HP.out];unfold bs;omega
     have HDn:Hid (Dig (l2.set (k+jj) ((oz+za*zb+cz) % 1000000000).toNat)):=HDl3.out.set _ _ (by unfold bs;omega);go_wp2;refine⟨⟨jj+1,(oz+za*zb+cz) / 1000000000,l2.set (k+jj) ((oz+za*zb+cz) % 1000000000).toNat,by rw[hlb.out];omega,by go_num,rfl,by omega,by omega,Arr.set hA3 _ (by omega) (by omega),by rw[List.length_set];exact HLL3.out,HDn.out,HR.out,fun t ht=>by rw[getD_set_ne (by rw[hlb.out] at ht;omega)];exact HZ3.out t ht,e7.setCell (p:=⟨g,k+jj,none⟩) (by rw[hg.out];exact q_r) _⟩,by simp[intOf];omega⟩
    ·obtain rfl:jj=k2:=by omega
     obtain⟨oz,gz3,fz3,oz0,oz1,hoz⟩:=hA3.at_ (k:=k+jj) (by rw[HLL3.out,hla.out,hlb.out];omega)
     have HR:Hid (val (l2.set (k+jj) cz.toNat)=val (a.take (k+1))*val b):=by
      rw[Hid,qx];have h0:=kG (l:=l2) (k:=k+jj) (by rw[HLL3.out,hla.out,hlb.out];omega) cz.toNat;rw[HZ3.out _ (by rw[hlb.out];exact q_r)] at h0;have h1:=HV3.out;rw[qG (l:=b) (k:=jj) (by rw[hlb.out];exact q_r)] at h1;exact q2E h0 h1 rfl
     have HDn:Hid (Dig (l2.set (k+jj) cz.toNat)):=HDl3.out.set _ _ (by unfold bs;omega);go_wp2;refine⟨⟨k+1,l2.set (k+jj) cz.toNat,by rw[hla.out];omega,by go_num,Arr.set hA3 _ (by omega) (by omega),by rw[List.length_set];exact HLL3.out,HDn.out,HR.out,fun t ht=>?_,e7.setCell (p:=⟨g,k+jj,none⟩) (by rw[hg.out];exact q_r) _⟩,by simp[intOf];omega⟩;rw[hlb.out] at ht;rw[getD_set_ne (by omega)];exact HZ3.out t (by rw[hlb.out];omega)
  ·obtain rfl:k=k1:=by omega
   have HF:Hid (val l=r):=by
    have h1:=HV.out;rw[qG (by rw[hla.out];exact q_r)] at h1;rw[Hid,hr.out];exact h1
   have hG:=hA2.gsN (N:=N) (q_l hN e6.size) (n:=n) (c:=n) (by rw[HLL.out,hn.out,hla.out,hlb.out]) rfl (by unfold maxLen;have:=hn.out;omega);go_wp2_with (go_at_call 188;refine q_o ?_);refine (QM hG hDl).mono ?_;rintro e w' ⟨⟨k9,rfl,hG9⟩,rfl⟩;rw[HF.out] at hG9
   have hk9:k9<=n:=by
    have h1:=hG9;obtain⟨A',n',c',hv,hl',h3,h4⟩:=h1.form;cases hv;exact h3
   have HT:Hid (l.take k9=dg r):=Gs.uniq (hG.take hk9) hG9;go_wp2;go_ret;exact⟨g,k9,n,l,rfl,hA2,by rw[Hid,HLL.out,hn.out,hla.out,hlb.out],HT,hk9,by rw[hg.out];exact q_r,e6,hG9⟩
theorem q7u{t:Value}{a b:List Nat}(h:Gs N w s a) (h':Gs N w t b) (ha:Dig a) (hb:Dig b) (hL:a.length<=500000000000) (hL':b.length<=500000000000) :
  Calls Tryz.prog 179 #[s,t] w (QX N w (val a*val b)):=(Jm h h' ha hb hL hL').mono fun _ _ h=>h.mf
def Q4 (x y:Int):Int:=if x<y then -1 else if x=y then 0 else 1
theorem ZI (x:Int) (w:World):Calls Tryz.prog 148 #[.int .i64 x] w fun e w'=>e=.returned (.bool false)/\w=w':=by
 have hx:(x != x)=false:=by simp
 go_enter Tryz.func148,Tryz.ntmps148;go_wp2;go_ret;exact⟨rfl,rfl⟩
theorem ZH (x:Int) (w:World):Calls Tryz.prog 194 #[.int .u32 x] w fun e w'=>e=.returned (.bool false)/\w=w':=by
 have hx:(x != x)=false:=by simp
 go_enter Tryz.func194,Tryz.ntmps194;go_wp2;go_ret;exact⟨rfl,rfl⟩
theorem QC (x y:Int) (w:World):Calls Tryz.prog 112 #[.int .i64 x,.int .i64 y] w fun e w'=>e=.returned (.int .i64 (Q4 x y))/\w=w':=by
 obtain⟨r,hr⟩:=qc (Q4 x y);rw[<-hr.out]
 rcases Int.lt_trichotomy x y with hxy|hxy|hxy
 ·have HR:Hid (r = -1):=by rw[Hid,hr.out];unfold Q4;rw[if_pos hxy]
  go_enter Tryz.func112,Tryz.ntmps112;go_wp2_with (go_at_call 148;refine (ZI _ _).mono ?_;rintro e w' ⟨rfl,rfl⟩);go_ret;exact⟨qJ HR.out.symm,rfl⟩
 ·have HR:Hid (r=0):=by rw[Hid,hr.out];unfold Q4;rw[if_neg (by omega),if_pos hxy]
  subst hxy;go_enter Tryz.func112,Tryz.ntmps112;go_wp2_with (go_at_call 148;refine (ZI _ _).mono ?_;rintro e w' ⟨rfl,rfl⟩);go_ret;exact⟨qJ HR.out.symm,rfl⟩
 ·have HR:Hid (r=1):=by rw[Hid,hr.out];unfold Q4;rw[if_neg (by omega),if_neg (by omega)]
  go_enter Tryz.func112,Tryz.ntmps112;go_wp2_with (go_at_call 148;refine (ZI _ _).mono ?_;rintro e w' ⟨rfl,rfl⟩);go_ret;exact⟨qJ HR.out.symm,rfl⟩
theorem q7S (x y:Int) (w:World):Calls Tryz.prog 187 #[.int .u32 x,.int .u32 y] w fun e w'=>e=.returned (.int .i64 (Q4 x y))/\w=w':=by
 obtain⟨r,hr⟩:=qc (Q4 x y);rw[<-hr.out]
 rcases Int.lt_trichotomy x y with hxy|hxy|hxy
 ·have HR:Hid (r = -1):=by rw[Hid,hr.out];unfold Q4;rw[if_pos hxy]
  go_enter Tryz.func187,Tryz.ntmps187;go_wp2_with (go_at_call 194;refine (ZH _ _).mono ?_;rintro e w' ⟨rfl,rfl⟩);go_ret;exact⟨qJ HR.out.symm,rfl⟩
 ·have HR:Hid (r=0):=by rw[Hid,hr.out];unfold Q4;rw[if_neg (by omega),if_pos hxy]
  subst hxy;go_enter Tryz.func187,Tryz.ntmps187;go_wp2_with (go_at_call 194;refine (ZH _ _).mono ?_;rintro e w' ⟨rfl,rfl⟩);go_ret;exact⟨qJ HR.out.symm,rfl⟩
 ·have HR:Hid (r=1):=by rw[Hid,hr.out];unfold Q4;rw[if_neg (by omega),if_neg (by omega)]
  go_enter Tryz.func187,Tryz.ntmps187;go_wp2_with (go_at_call 194;refine (ZH _ _).mono ?_;rintro e w' ⟨rfl,rfl⟩);go_ret;exact⟨qJ HR.out.symm,rfl⟩
end
section
open Go.RowKit Go.Shelf
attribute [local go_sem] Oper.semAt_some
abbrev xx (n:Nat):List (Fin n):=(List.finRange n).reverse
def q1i (l:List Nat) (j:Fin l.length):Array Value:=#[.int .i64 ((j.1:Nat):Int),.int .u32 ((l[j.1]?.getD 0:Nat):Int)]
theorem kE (n:Nat):(xx n).length=n:=by simp[xx]
theorem yM(hk:k<n):(xx n).take (k+1)=(xx n).take k ++ [⟨n-1-k,by omega⟩]:=by
 rw[List.take_succ_eq_append_getElem (by rw[kE];exact hk)]
 congr 1
 simp[xx]
def Qd (n₀ Bs:Nat) (W W':World):Prop:=Below n₀ W W'/\W'.heap[Bs]?=W.heap[Bs]?
theorem Qd.refl (n₀ Bs:Nat) (W:World):Qd n₀ Bs W W:=⟨Below.refl _ _,rfl⟩
theorem Jh {n₀ Bs:Nat}{A B C:World}(h:Qd n₀ Bs A B) (h':Qd n₀ Bs B C):Qd n₀ Bs A C:=⟨h.1.trans h'.1,h'.2.trans h.2⟩
theorem VD {n₀ Bs:Nat}(hn:n₀<=w.heap.size) (hB:Bs<w.heap.size):∀(W:World) (l:Nat) (o o':Obj),w.heap.size<=l->W.heap[l]?=some o->o.isCells=false->o.isWalk=false->Qd n₀ Bs W (W.putObj l o') :=
 fun W l o o' h1 h2 h3 h4=>⟨belowK_b (w:=w) hn W l o o' h1 h2 h3 h4,World.putObj_heap_other (by omega)⟩
theorem Qd.box {n₀ Bs:Nat}{W W':World}(h:Qd n₀ Bs W W')(hc:W.cell? ⟨Bs,0,none⟩=some v):W'.cell? ⟨Bs,0,none⟩=some v:=by
 rw[World.cell?_of_block (w:=W) h.2];exact hc
theorem q5F (F:Fence) (n:Nat) (hf:F.fn 193) (hro:F.round=none) (hn:1<=n) (lb Bs n₀:Nat) (A:Option Addr) (len cap:Nat) (l:List Nat) (hlen:Hid (l.length=len)) (hcap:len<=9223372036854775807) (J Jx:List (Fin l.length)->World->Prop)
  (hY:∀pre x W,J pre W->pre.length<len->YieldAt F (n-1) Tryz.prog lb (q1i l x) W fun e W' =>
   (e=.returned (.bool true)/\J (pre ++ [x]) W'/\Qd n₀ Bs W W')\/(e=.returned (.bool false)/\Jx (pre ++ [x]) W'))
  (W:World) (hB:W.cell? ⟨Bs,0,none⟩=some (.slice A len cap))
  (hc:∀j,j<len->∃b off,A=some ⟨b,off,none⟩/\b<n₀/\W.cell? ⟨b,off+j,none⟩=some (.int .u32 ((l[j]?.getD 0:Nat):Int))) (h0:J [] W) :
  CallsIn F n Tryz.prog 193 #[.func (.yield lb) #[] #[],.pointer (some ⟨Bs,0,none⟩)] W fun e W'=>(∃v,e=.returned v) /\
   ((∃ys,ys=xx l.length/\J ys W')\/(∃pre,pre <+: xx l.length/\Jx pre W')):=by
 have HC:=q_h hc;clear hc;refine callsIn_of_wp Tryz.func193 rfl hf ?_ hro;simp only[Tryz.ntmps193,List.size_toArray,List.length_cons,List.length_nil,Nat.reduceAdd,Nat.reduceSub,Array.replicate_succ,Array.replicate_zero,List.push_toArray,List.append_toArray,List.nil_append,List.cons_append]
 gi_wp2
 gi_loopw [3] (fun i wr=>∃k:Nat,k<=len/\i=.int .i64 ((len:Int)-k-1)/\J ((xx l.length).take k) wr/\Qd n₀ Bs W wr)
  (fun i _=>(intOf i+1).toNat)
 case atStart=>exact⟨0,Nat.zero_le _,by simp,h0,Qd.refl _ _ _⟩
 case round =>
  obtain⟨k,hk,rfl,hJs,hnx⟩:=hrel
  by_cases hlt:k<len
  ·obtain⟨j,hj⟩:=qc (len-1-k);have hjl:j<len:=by rw[hj.out];omega
   rw[show ((len:Int)-k-1)=(j:Int) from by have:=hj.out;omega];obtain⟨b,off,hA,hb,hcell⟩:=HC.out j hjl;have hcx:=(hnx.1.cell (p:=⟨b,off+j,none⟩) hb).trans hcell;have hBx:=hnx.box hB
   have HT:Hid ((xx l.length).take (k+1)=(xx l.length).take k ++ [⟨j,by rw[hlen.out];exact hjl⟩]):=by
    rw[Hid,yM (by rw[hlen.out];exact hlt)]
    congr 2
    rw[Fin.mk.injEq,hlen.out,hj.out]
   obtain⟨fn,tmps,assign,body,hy,hR⟩:=hY _ ⟨j,by rw[hlen.out];exact hjl⟩ wr hJs (by rw[List.length_take,kE,hlen.out];omega)
   dsimp only[q1i] at hy
   obtain⟨z,hz⟩:=qc ((l[j]?.getD 0:Nat):Int);rw[<-hz.out] at hy hcx;subst hA;clear hcell HC
   gi_wp2
   refine hR.mono ?_;rintro e W3 (⟨rfl,hJ3,hk3⟩|⟨rfl,hJx3⟩)
   ·gi_wp2
    go_roundw
    case rel=>exact⟨k+1,by omega,congrArg (Value.int .i64) (by have:=hj.out;omega),by rw[HT.out];exact hJ3,Jh hnx hk3⟩
    case measure=>simp[intOf]
   ·gi_wp2
    refine bodyPost_ret (results_none rfl _ _ _) rfl ?_;exact⟨⟨_,rfl⟩,.inr ⟨_,by rw[<-HT.out];exact List.take_prefix _ _,hJx3⟩⟩
  ·obtain rfl:k=len:=by omega
   rw[show ((k:Int)-k-1) = -1 from by omega]
   gi_wp2
   go_end0
   exact⟨⟨_,rfl⟩,.inl ⟨_,rfl,by rw[List.take_of_length_le (by rw[kE,hlen.out];exact q_r)] at hJs;exact hJs⟩⟩
theorem Wi (F:Fence) (n:Nat) (hf:F.fn 186) (hro:F.round=none) (A:Option Addr) (len cap:Nat) (w:World) :
  CallsIn F n Tryz.prog 186 #[.slice A len cap] w fun e w'=>e=.returned (.func (.func 193) #[] #[.pointer (some ⟨w.heap.size,0,none⟩)])/\w'=w.alloc (.cells #[.slice A len cap] 31):=by
 refine callsIn_of_wp Tryz.func186 rfl hf ?_ hro;simp only[Tryz.ntmps186,List.size_toArray,List.length_cons,List.length_nil,Nat.reduceAdd,Nat.reduceSub,Array.replicate_succ,Array.replicate_zero,List.push_toArray,List.append_toArray,List.nil_append,List.cons_append]
 gi_wp2
 go_ret;exact⟨rfl,rfl⟩
theorem QE (F:Fence) (n:Nat) (hf:F.fn 193) (hro:F.round=none) (hn:1<=n)(w w0:World) (A:Option Addr) (len cap:Nat) (l:List Nat) (h:Gs N w0 (.slice A len cap) l) (he:Ext w0 w) (Bs n₀:Nat) (hBs:Bs<w.heap.size) (hn₀:n₀<=w.heap.size) (hw0:w0.heap.size<=n₀)
  (hc:w.cell? ⟨Bs,0,none⟩=some (.slice A len cap)) :
  SeqStopsK F n Tryz.prog 193 #[.pointer (some ⟨Bs,0,none⟩)] (q1i l) (Qd n₀ Bs) (fun ys=>ys=xx l.length) (fun pre=>pre <+: xx l.length) l.length w:=fun lb J Jx W hW _ _ hY h0=>by
 have hlen:l.length=len/\len<=9223372036854775807:=by obtain⟨A',n',c',hv,hl',h1,h2⟩:=h.form;cases hv;exact⟨hl'.out,by omega⟩
 refine q5F F n hf hro hn lb Bs n₀ A len cap l hlen.1 hlen.2 J Jx (fun pre x W1 h1 h2=>hY pre x W1 h1 (Nat.lt_of_lt_of_eq h2 hlen.1.symm)) W ((hW.cell (p:=⟨Bs,0,none⟩) hBs).trans hc) (fun j hj=>?_) h0;obtain⟨hN,A',n',c',hv,h1,h2,h3,h4,h5⟩:=h;injection hv with e1 e2 e3
 subst e1 e2 e3;obtain⟨b,off,hA,hs,hcell⟩:=h5 (by omega);refine⟨b,off,hA,by have:=hs.1;omega,(hW.cell (p:=⟨b,off+j,none⟩) (by have:=hs.1;show b<_;omega)).trans (he.cell (hcell j hj))⟩
attribute [local go_sem] Oper.semAt_some
abbrev gd (l:List Nat) (k:Nat):Int:=((l[k]?.getD 0:Nat):Int)
theorem q3Q{pre:List (Fin n)}{x:Fin n}(h:pre ++ [x] <+: xx n) (j:Fin n) (hj:x.1<j.1):j∈pre:=by
 have h1:=List.prefix_iff_eq_take.1 h
 have hl:pre.length<n:=by
  have:=h.length_le;rw[List.length_append,kE,List.length_singleton] at this;omega
 rw[List.length_append,List.length_singleton,yM hl] at h1;obtain⟨e1,e2⟩:=List.append_inj' h1 rfl
 have hx:x.1=n-1-pre.length:=by
  have:x=⟨n-1-pre.length,by omega⟩:=by simpa using e2
  rw[this]
 have hi:n-1-j.1<pre.length:=by omega
 have h2:pre[n-1-j.1]?=some j:=by
  rw[e1,List.getElem?_take,if_pos hi,List.getElem?_eq_getElem (by rw[kE];omega)];simp[xx]
  apply Fin.ext
  simp
  omega
 exact List.mem_of_getElem? h2
theorem Xu {a b:List Nat}(hab:a.length=b.length)(h:∀j,k<=j->j<a.length->a[j]?.getD 0=b[j]?.getD 0):a.drop k=b.drop k:=by
 apply List.ext_getElem
 ·simp[hab]
 ·intro t h1 h2;rw[List.length_drop] at h1 h2;have:=h (k+t) (by omega) (by omega);rw[List.getElem?_eq_getElem (by omega),List.getElem?_eq_getElem (by omega)] at this;simpa using this
theorem q7T {x y:Nat}(hab:(dg x).length=(dg y).length)(hk:k<(dg x).length) (h:∀j,k<j->j<(dg x).length->(dg x)[j]?.getD 0=(dg y)[j]?.getD 0) (hne:gd (dg x) k≠gd (dg y) k) :
  Q4 (gd (dg x) k) (gd (dg y) k)=Q5 x y:=by
 have hd:=Xu hab (k:=k+1) (fun j h1 h2=>h j (by omega) h2)
 rcases Nat.lt_trichotomy ((dg x)[k]?.getD 0) ((dg y)[k]?.getD 0) with h1|h1|h1
 ·have h2:=yx (qI x) hab hk hd h1;rw[qC,qC] at h2;rw[yl h2];unfold Q4 gd;rw[if_pos (by omega)]
 ·exact absurd (by unfold gd;rw[h1]) hne
 ·have h2:=yx (qI y) hab.symm (by omega) hd.symm h1;rw[qC,qC] at h2;rw[QD h2];unfold Q4 gd;rw[if_neg (by omega),if_neg (by omega)]
theorem YG (N:Nat) (w:World) (A1:Option Addr) (k1 c1:Nat) (A2:Option Addr) (c2:Nat) (x y:Nat) (h:Gs N w (.slice A1 k1 c1) (dg x)) (h':Gs N w (.slice A2 k1 c2) (dg y)) (r:Int) (hr:Hid (r=Q5 x y)) :
  CallsIn Fence.wide 5 Tryz.prog 173 #[.slice A1 k1 c1,.slice A2 k1 c2] w (zH w (.int .i64 r)):=by
 have t1:((k1:Int) != (k1:Int))=false:=by simp
 have hla:Hid ((dg x).length=k1):=by obtain⟨A',n',c',hv,hl',-,-⟩:=h.form;cases hv;exact hl'
 have hlb:Hid ((dg y).length=k1):=by obtain⟨A',n',c',hv,hl',-,-⟩:=h'.form;cases hv;exact hl'
 refine callsIn_of_wp_marks Tryz.func173 rfl trivial ?_ rfl;simp only[Tryz.ntmps173,List.size_toArray,List.length_cons,List.length_nil,Nat.reduceAdd,Nat.reduceSub,Array.replicate_succ,Array.replicate_zero,List.push_toArray,List.append_toArray,List.nil_append,List.cons_append]
 gi_wp2_with (refine⟨trivial,?_⟩;gi_at_call 186;refine (Wi Fence.wide _ trivial rfl _ _ _ _).mono ?_;rintro e w' ⟨rfl,rfl⟩)
 refine xX ?_;intro W hE hsz B0 B1 B2
 refine wpIn_rangeFunc_ownF (F:=Fence.wide) (n:=5) rfl (by decide) (gf:=193) (lb:=#[.pointer (some ⟨w.heap.size+1+1,0,none⟩)]) rfl trivial (enters_of Tryz.func193 (by kernel_rfl) rfl)
  (QE Fence.wide 4 trivial rfl (by decide) W w A1 k1 c1 (dg x) h hE (w.heap.size+1+1) w.heap.size (by omega) (by omega) (q_r) (zG B2).1)
  Jh (VD (by omega) (by omega)) (Below.refl _ _) (fun _=>rfl)
  (fun pre W'=>(∀j∈pre,(dg x)[j.1]?.getD 0=(dg y)[j.1]?.getD 0)/\Below W.heap.size W W')
  (fun c pre W'=>(c=.ret/\∃ini last,pre=ini ++ [last]/\(∀j∈ini,(dg x)[j.1]?.getD 0=(dg y)[j.1]?.getD 0)/\gd (dg x) last.1≠gd (dg y) last.1/\W'.cell? ⟨w.heap.size+1,0,none⟩=some (.int .i64 (Q4 (gd (dg x) last.1) (gd (dg y) last.1))))/\Below w.heap.size w W')
  (OwnFrom.and (ownFrom_pure _ _) (ownFrom_below (q_r) (q_r)))
  (fun c=>OwnFrom.and (Own.from (fun s A B row hs hg hr=>by obtain⟨hc,ini,last,e1,e2,e3,e4⟩:=hs;exact⟨hc,ini,last,e1,e2,e3,cell_kept e4 hg hr⟩) _) (ownFrom_below (q_r) (by omega)))
  ⟨by simp,Below.refl _ _⟩
  (fun j=>{ tmps:=#[.slice A1 k1 c1,.slice A2 k1 c2,undef,.pointer (some ⟨w.heap.size,0,none⟩),.pointer (some ⟨w.heap.size+1,0,none⟩),.int .i64 ((j.1:Nat):Int),.int .u32 (((dg x)[j.1]?.getD 0:Nat):Int),.slice A1 k1 c1,
     .int .i64 k1,.slice A2 k1 c2,.int .i64 k1,.bool false,undef,undef,undef,undef,undef,.slice A1 k1 c1,.func (.func 193) #[] #[.pointer (some ⟨w.heap.size+1+1,0,none⟩)],
     .int .i64 ((j.1:Nat):Int),.int .u32 (((dg x)[j.1]?.getD 0:Nat):Int),undef,undef,undef,undef,undef,undef,undef,undef,undef,undef,undef,undef],defers:=[] }) ?assign ?body ?done ?stop
 case assign =>
  intro l j W K hK
  dsimp only[q1i]
  obtain⟨z,hz⟩:=qc (((dg x)[j.1]?.getD 0:Nat):Int);obtain⟨k,hk⟩:=qc ((j.1:Nat):Int);rw[<-hz.out,<-hk.out] at hK ⊢
  gi_wp2
  exact hK
 case body =>
  rintro l pre j W1 ⟨hp,hB⟩ _;have hE1:Ext W W1:=hB;obtain⟨a0,-⟩:=zG (hE1.block B0);obtain⟨b0,b1⟩:=zG (hE1.block B1);have hj:=j.2;obtain⟨k,hk⟩:=qc j.1;obtain⟨za,hza⟩:=qc (((dg x)[j.1]?.getD 0:Nat):Int);rw[<-hza.out,<-hk.out];have hkk:k<k1:=by rw[hk.out,<-hla.out];exact hj
  obtain⟨q2,o2,zb,hA2e,hq2,g2,zb0,zb1,hzb⟩:=((h'.ext hE).ext hE1).at_ hkk;subst hA2e
  by_cases hz:za=zb
  ·have t2:(za != zb)=false:=by simpa using hz
   have HP:Hid (∀i∈pre ++ [j],(dg x)[i.1]?.getD 0=(dg y)[i.1]?.getD 0):=by
    intro i hi
    rcases List.mem_append.1 hi with h1|h1
    ·exact hp i h1
    ·simp at h1
     subst h1;have e1:=hza.out;have e2:=hzb.out;rw[hk.out] at e2;omega
   gi_wp2
   exact⟨KeepsOthers.refl _,Qd.refl _ _ _,HP.out,hB⟩
  ·have t2:(za != zb)=true:=by simpa using hz
   gi_wp2_with (refine⟨trivial,?_⟩;gi_at_call 187;refine (CallsIn.inRound l (callsIn_wide.2 (q7S za zb _))).mono ?_;rintro e w' ⟨rfl,rfl⟩)
   have e2:zb=gd (dg y) j.1:=by rw[hzb.out,hk.out]
   exact⟨KeepsOthers.setCell _ _ _,⟨rfl,pre,j,rfl,hp,by rw[<-e2,<-show za=gd (dg x) j.1 from hza.out];exact hz,by rw[<-e2,<-show za=gd (dg x) j.1 from hza.out];exact World.cell?_setCell_same' _ _ _ (by rw[b0];rfl)⟩,((hE.trans hE1).below).setCell (p:=⟨w.heap.size+1,0,none⟩) (by simp) _⟩
 case done =>
  rintro D ys W1 hD rfl ⟨hp,hB⟩ hK;have hE1:Ext W W1:=hB;obtain⟨b0,b1⟩:=zG (hE1.block B1)
  have HR:Hid (r=0):=by
   rw[Hid,hr.out];refine VY (q3y ?_);have:=Xu (a:=dg x) (b:=dg y) (hla.out.trans hlb.out.symm) (k:=0) (fun j _ h2=>hp ⟨j,h2⟩ (by simp[xx]));simpa using this
  gi_wp2
  have hK':=(KeepsOthers.setCell W1 ⟨w.heap.size+1,0,none⟩ (.int .i64 0)).same D _ hK rfl;refine⟨by simp,.inl ⟨_,_,rfl,run_takeDeferred hK',?_⟩⟩;have hc5:=cell_kept (World.cell?_setCell_same' W1 ⟨w.heap.size+1,0,none⟩ (.int .i64 0) (by rw[b0];rfl)) (grownBy_putObj' _ D (.deferred none)) (fun r e=>by cases e;exact⟨_,hK',rfl⟩);refine⟨.int .i64 0,?_,qJ HR.out.symm,((hE.trans hE1).below.setCell (p:=⟨w.heap.size+1,0,none⟩) (by simp) _).trans (belowK_b (w:=w) (q_r) _ D _ _ (by omega) hK' rfl rfl)⟩;simp[results,Tryz.results173,go_sem,hc5]
 case stop =>
  rintro D c pre W1 hD hpre ⟨⟨rfl,ini,last,rfl,e2,e3,hcr⟩,hB⟩ hK
  have HR:Hid (Q4 (gd (dg x) last.1) (gd (dg y) last.1)=r):=by
   rw[Hid,hr.out];exact q7T (hla.out.trans hlb.out.symm) last.2 (fun j h1 h2=>e2 ⟨j,h2⟩ (q3Q hpre ⟨j,h2⟩ h1)) e3
  rw[HR.out] at hcr
  gi_wp2
  refine⟨by simp,.inl ⟨_,_,rfl,run_takeDeferred hK,?_⟩⟩;have hc5:=cell_kept hcr (grownBy_putObj' _ D (.deferred none)) (fun r e=>by cases e;exact⟨_,hK,rfl⟩);refine⟨.int .i64 r,?_,rfl,hB.trans (belowK_b (w:=w) (q_r) W1 D _ _ (by omega) hK rfl rfl)⟩;simp[results,Tryz.results173,go_sem,hc5]
theorem ZK{t:Value}{x y:Nat}(h:Gs N w s (dg x)) (h':Gs N w t (dg y)) :
  Calls Tryz.prog 173 #[s,t] w (zH w (.int .i64 (Q5 x y))):=by
 obtain⟨r,hr⟩:=qc (Q5 x y);rw[<-hr.out];obtain⟨A1,k1,c1,rfl,hla,-,-⟩:=h.form;obtain⟨A2,k2,c2,rfl,hlb,-,-⟩:=h'.form
 by_cases hk:k1=k2
 ·subst hk;exact (callsIn_wide (n:=5)).1 (YG N w A1 k1 c1 A2 c2 x y h h' r hr)
 ·have t1:((k1:Int) != (k2:Int))=true:=by rw[bne_iff_ne];omega
  have HR:Hid (Q4 k1 k2=r):=by
   rw[Hid,hr.out]
   rcases Nat.lt_or_gt_of_ne hk with h1|h1
   ·rw[yl (jB (by rw[hla.out,hlb.out];exact h1))];unfold Q4;rw[if_pos (by omega)]
   ·rw[QD (jB (by rw[hla.out,hlb.out];exact h1))];unfold Q4;rw[if_neg (by omega),if_neg (by omega)]
  go_enter Tryz.func173,Tryz.ntmps173;go_wp2_with (go_at_call 112;refine (QC _ _ _).mono ?_;rintro e w' ⟨rfl,rfl⟩);refine kD ?_;intro W hE hsz B0 B1;obtain⟨b0,-⟩:=zG B1;refine bodyPost_ret (v:=.int .i64 (Q4 k1 k2)) ?_ rfl ⟨qJ HR.out,hE⟩;simp[results,Tryz.results173,b0,go_sem]
end
section
open Go.RowKit
def xO:Op->Bool
 | .move _|.assign _|.load _ _|.store _ _ _|.binOp _ _ _ _ _|.convert _ _ _|.fieldAddr _ _ _|.field _ _ _|.indexAddr _ _ _=>true
 | _=>false
theorem Vr {o:Oper}(h:xO o.op=true) (P:Program) (w:World) (ρ:Operand->Value):o.about P w ρ=none:=by
 unfold Oper.about;cases ho:o.op<;>rw[ho] at h<;>simp[xO] at h<;>rfl
theorem Vq {o:Oper}(h:xO o.op=true):∀c,o.op≠.defer c:=by
 intro c hc;rw[hc] at h;simp[xO] at h
theorem q1j {α:Type}(s:Sem α) (g:α->Value) (P:Program) (w:World):(∃v w',(do let x <-s;pure (Next.value (g x)):Sem Next).run P w=.ok (.value v) w')\/∃h w',(do let x <-s;pure (Next.value (g x)):Sem Next).run P w=.halt h w':=by
 simp only[Sem.run_bind];cases s.run P w with
 | ok x w'=>exact .inl ⟨g x,w',rfl⟩
 | halt h w'=>exact .inr ⟨h,w',rfl⟩
theorem q3R (s:Sem Unit) (P:Program) (w:World):(∃w',(do s;pure Next.skip:Sem Next).run P w=.ok .skip w')\/∃h w',(do s;pure Next.skip:Sem Next).run P w=.halt h w':=by
 simp only[Sem.run_bind];cases s.run P w with
 | ok x w'=>exact .inl ⟨w',rfl⟩
 | halt h w'=>exact .inr ⟨h,w',rfl⟩
theorem Yp {o:Oper}(h:xO o.op=true) (ρ:Operand->Value) (P:Program) (w:World) :
  (∃v w',(execOp ρ o).run P w=.ok (.value v) w')\/(∃w',(execOp ρ o).run P w=.ok .skip w')\/∃x w',(execOp ρ o).run P w=.halt x w':=by
 unfold execOp;cases ho:o.op<;>rw[ho] at h<;>simp[xO] at h
 all_goals simp only
 case move=>exact .inl ⟨_,_,rfl⟩
 case assign=>exact .inl ⟨_,_,rfl⟩
 case store=>exact .inr (q3R _ P w)
 all_goals (rcases q1j _ _ P w with h1|h1;exact .inl h1;exact .inr (.inr h1))
theorem q0S {F:Fence}{P:Program}{ops:Array Oper}{Q:Exit->Act->World->Prop}(hpl:∀(i:Nat) (o:Oper),ops[i]?=some o->xO o.op=true) (hQ:¬LetsOut Q)
{K K':Act->World->Prop}(hK:∀a w,K a w->K' a w){a:Act}(h:wpOp P ops Q i K a w):wpOpIn F n P ops Q i K' a w:=by
 unfold wpOp at h;unfold wpOpIn;cases ho:ops[i]? with
 | none=>rw[ho] at h;exact hK _ _ h
 | some o =>
  rw[ho] at h;simp only at h ⊢;have hp:=hpl i o ho;have hab:∀f,o.about P w a.eval=some f->F.fn f:=fun f hf=>by rw[Vr hp] at hf;cases hf
  by_cases hw:Region.wanted o (yielded ops a.tmps)=true
  ·rw[if_pos hw] at h ⊢
   rcases h with h|h
   ·unfold Oper.wp at h;unfold Oper.wpIn;refine⟨hab,?_⟩;rw[Oper.semAt_plain F _ _ (Vq hp)]
    rcases Yp hp a.eval P w with ⟨v,w',e⟩|⟨w',e⟩|⟨x,w',e⟩
    ·rw[e] at h ⊢;exact hK _ _ h
    ·rw[e] at h ⊢;exact hK _ _ h
    ·rw[e] at h ⊢;cases x<;>exact h
   ·exact absurd h.2 hQ
  ·rw[if_neg hw] at h ⊢;exact⟨hab,hK _ _ h⟩
theorem V3 {F:Fence}{P:Program}{md:Region.Mode}{ops:Array Oper}{Q:Exit->Act->World->Prop}(hpl:∀(i:Nat) (o:Oper),ops[i]?=some o->xO o.op=true) (hQ:¬LetsOut Q) :
  ∀(fuel:Nat) (listed:Array Bool) (a:Act) (w:World),wpAny P md ops Q fuel listed a w->wpAnyIn F n P md ops Q fuel listed a w:=by
 intro fuel
 induction fuel with
 | zero=>intro listed a w h;exact h
 | succ fuel ih=>intro listed a w h;exact⟨h.1,fun i hi=>q0S hpl hQ (fun a w h=>ih _ a w h) (h.2 i hi)⟩
theorem q2q {l:List Oper}(h:l.all (fun o=>xO o.op)=true):∀(i:Nat) (o:Oper),l.toArray[i]?=some o->xO o.op=true:=by
 intro i o ho;rw[List.getElem?_toArray] at ho;exact List.all_eq_true.1 h o (List.mem_of_getElem? ho)
theorem Vh {F:Fence}{P:Program}{id:Nat}{l:List Oper}{Q:Exit->Act->World->Prop}{a:Act}(hm:P.follows .mixedOrders=true) (hpl:l.all (fun o=>xO o.op)=true) (hQ:¬LetsOut Q)
  (h:wpAny P .any l.toArray Q l.toArray.size (Array.replicate l.toArray.size false) a w.drew):(Code.region id l.toArray true).wpIn F n P Q a w :=
 wpIn_region_any hm (V3 (q2q hpl) hQ _ _ _ _ h)
end
end Go.Proofs.YtflhlobiipejeaaGreat
