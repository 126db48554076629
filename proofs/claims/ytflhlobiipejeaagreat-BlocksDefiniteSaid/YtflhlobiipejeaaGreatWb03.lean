import Derived.Test.YtflhlobiipejeaaGreatWb02
set_option linter.all false
set_option maxHeartbeats 8000000
namespace Go.Proofs.YtflhlobiipejeaaGreat
variable {w w':World} {N n k g i m c b d:Nat} {v s:Value} {l:List Nat} {z:Int} {A:Option Addr}
section
open Go.RowKit
def Arr (w:World) (g:Nat) (l:List Nat):Prop:=w.heap[g]?=some (.cells (l.map vG).toArray 119 (0,0))/\(∀x∈l,x<4294967296)
theorem Arr.lt(h:Arr w g l):g<w.heap.size:=by
 rcases Nat.lt_or_ge g w.heap.size with h1|h1
 ·exact h1
 ·have:=h.1;rw[Array.getElem?_eq_none h1] at this;cases this
theorem Arr.ext(h:Arr w g l) (e:Ext w w'):Arr w' g l:=⟨e.block h.1,h.2⟩
theorem Arr.at_(h:Arr w g l)(hk:k<l.length) :
  ∃z:Int,w.cell? ⟨g,k,none⟩=some (.int .u32 z)/\w.frozen? ⟨g,k,none⟩=false/\0<=z/\z<4294967296/\Hid (z=((l[k]?.getD 0:Nat):Int)):=by
 refine⟨((l[k]?.getD 0:Nat):Int),?_,qY h.1 _,by omega,?_,rfl⟩
 ·rw[qh h.1];simp[List.getElem?_eq_getElem hk]
 ·have:=h.2 _ (List.getElem_mem hk);rw[List.getElem?_eq_getElem hk];simp only[Option.getD_some];omega
theorem Arr.set(h:Arr w g l) (k:Nat)(z0:0<=z) (z1:z<4294967296):Arr (w.setCell ⟨g,k,none⟩ (.int .u32 z)) g (l.set k z.toNat):=by
 refine⟨?_,fun x hx=>?_⟩
 ·rw[heap_set h.1];have e:(Value.int .u32 z)=vG z.toNat:=by unfold vG;rw[Int.toNat_of_nonneg z0]
  rw[e];simp[List.map_set]
 ·rcases List.mem_or_eq_of_mem_set hx with h1|rfl
  ·exact h.2 x h1
  ·omega
theorem Arr.gs(h:Arr w g l) (hN:N<=w.heap.size) (hl:l.length<=maxLen):Gs N w (.slice (some ⟨g,0,none⟩) l.length l.length) l:=by
 refine⟨hN,_,_,_,rfl,rfl,q_r,hl,h.2,fun _=>⟨g,0,rfl,⟨h.lt,.inr ⟨_,_,h.1⟩⟩,fun i hi=>?_⟩⟩;rw[Nat.zero_add,qh h.1];simp[List.getElem?_eq_getElem hi]
theorem Arr.gsN(h:Arr w g l) (hN:N<=w.heap.size)(hn:l.length=n) (hc:n=c) (hl:n<=maxLen):Gs N w (.slice (some ⟨g,0,none⟩) n c) l:=by
 subst hc hn;exact h.gs hN hl
theorem QH (w:World) (kl kc:IntKind) (n:Nat) (hn:n*4<=281474976710656) :
  ∃w',(Instr.makeSlice 31 (.int kl n) (.int kc n)).run Tryz.prog w=.ok (.slice (some ⟨w.heap.size,0,none⟩) n n) w'/\Arr w' w.heap.size (List.replicate n 0)/\Ext w w':=by
 obtain⟨i0,hi0,hz0,hz1,hz2⟩:=info_parts Jj;obtain⟨w',hrun,hown,hgr⟩:=run_make_full (P:=Tryz.prog) w w.heap.size 31 119 i0 _ 1 Tryz.underlying31 hi0 hz0 hz1 kl kc n (by rw[hz2];omega) (by unfold maxLen;omega) (q_r);refine⟨w',hrun,⟨?_,fun x hx=>by rw[List.mem_replicate] at hx;omega⟩,(Ext.refl w).grown hgr (fun k hk=>by cases hk)⟩;obtain⟨h1,h2⟩:=hown
 rcases h2 with ⟨h,_⟩|⟨g,cap,cur,hv,hg,hh,hnc,hcm,hcs,htk⟩
 ·cases h
 ·have e1:=congrArg Value.ownBlock hv
  have e3:n=cap:=by
   have:=congrArg (fun v:Value=>match v with|.slice _ _ c=>c|_=>0) hv;exact this
  have e1':w.heap.size=g:=Option.some.inj e1;clear e1 hv;subst e1' e3;rw[hh]
  have hcur:cur=((List.replicate n 0).map vG).toArray:=by
   apply Array.toList_inj.1
   rw[<-List.take_of_length_le (l:=cur.toList) (i:=n*1) (by simp[hcs]),htk];simp only[madeCells]
   apply List.ext_getElem
   ·simp
   ·intro k h3 h4;simp[Value.cells,Nat.mod_one]
  rw[hcur]
theorem zf{ops:Array Oper}{rest:List Oper}{o:Oper}{a:Act}{Q:Exit->Act->World->Prop}(hg:o.guard=none) (l c:Operand) (hop:o.op=Op.makeSlice 31 l c)
  (kl kc:IntKind) (L C:Int) (n:Nat) (hl:a.eval l=.int kl L) (hc:a.eval c=.int kc C) (hL:L=(n:Int)) (hC:C=(n:Int)) (hn:n*4<=281474976710656)
  (hK:∀w',Arr w' w.heap.size (List.replicate n 0)->Ext w w'->wpList Tryz.prog ops Q rest (a.put o.dst (.slice (some ⟨w.heap.size,0,none⟩) n n)) w'):wpList Tryz.prog ops Q (o :: rest) a w:=by
 refine wpList_plain hg fun K hK'=>?_
 obtain⟨w',hrun,r1,r2⟩:=QH w kl kc n hn;subst hL;subst hC;unfold Oper.wp;simp[execOp,hop,hl,hc,hrun,Result.andThen]
 exact hK' _ _ (hK w' r1 r2)
theorem Yh{v':Value}{x y:Int}(h:zy N w v x) (h':zy N w v' y) (hL:ln x.natAbs<=35184372088800) (hL':ln y.natAbs<=35184372088800) :
  Calls Tryz.prog 119 #[v,v'] w (Kr N w (x-y)):=by
 obtain⟨z,hz⟩:=qc (x-y);rw[<-hz.out];have hI:=h;have hI':=h';obtain⟨s,rfl,hs⟩:=h;obtain⟨s',rfl,hs'⟩:=h';have hN:=hs.le;obtain⟨A1,k1,c1,rfl,hlen,-,-⟩:=hs.form;obtain⟨A2,k2,c2,rfl,hlen',-,-⟩:=hs'.form
 generalize hneg:decide (x<0)=n1 at *
 generalize hneg':decide (y<0)=n2 at *
 have Hn1:=q_h hneg;have Hn2:=q_h hneg';clear hneg hneg';have HL:=q_h hL;have HL':=q_h hL';clear hL hL';go_enter Tryz.func119,Tryz.ntmps119;go_wp2;refine xX ?_;intro W hE hsz B0 B1 B2;obtain⟨a0,a1,a2,a3⟩:=cells2 B0;obtain⟨b0,b1,b2,b3⟩:=cells2 B1;have eC:=(Ext.refl W).drew
 go_region_held3 (fun w'=>w'.cell? ⟨w.heap.size,0,none⟩=some (.bool n1)/\w'.cell? ⟨w.heap.size,1,none⟩=some (.slice A1 k1 c1)/\w'.cell? ⟨w.heap.size+1,0,none⟩=some (.bool n2)/\w'.cell? ⟨w.heap.size+1,1,none⟩=some (.slice A2 k2 c2)) ((repeat' apply And.intro)<;>repeat with_reducible first|assumption|exact eC.cell (by assumption)|refine cell_far _ ?_ (by omega))
  (first|(go_at_call 69;refine (q2k (by exact hI'.ext (hE.trans eC)) (by have:=HL'.out;omega)).mono ?_;rintro e w1 ⟨v1,rfl,h1,e1⟩;replace eC:=eC.trans e1)|(go_at_call 28;refine (q6b (by exact hI.ext (hE.trans eC)) (by exact h1) HL.out (by rw[Int.natAbs_neg];exact HL'.out)).mono ?_;intro e w2 hh;obtain⟨bb,A4,k4,c4,rfl,hb4,h4,e4⟩:=hh.form;replace eC:=eC.trans e4;obtain⟨r0,r1,r2,r3⟩:=cells2 (eC.block B2)))
 go_wp2;rw[show x + -y=z from by rw[hz.out];omega] at hb4 h4;exact zC rfl rfl rfl (hE.trans eC) (eC.block B2) (by omega) hN h4 hb4.out rfl
theorem q0R{v':Value}{x y:Int}(h:zy N w v x) (h':zy N w v' y) (hL:ln x.natAbs<=35184372088800) (hL':ln y.natAbs<=35184372088800) :
  Calls Tryz.prog 87 #[v,v'] w (zH w (.int .i64 (x-y).sign)):=by
 obtain⟨z,hz⟩:=qc ((x-y).sign);rw[<-hz.out]
 have HB:Hid (ln (x-y).natAbs<=35184372088832):=by
  have h1:=zJ (show (x-y).natAbs<=x.natAbs+y.natAbs by omega);have h2:=WY x.natAbs y.natAbs;unfold Hid;omega
 have hI:=h;have hI':=h';obtain⟨s,rfl,hs⟩:=h;obtain⟨s',rfl,hs'⟩:=h';have hN:=hs.le;obtain⟨A1,k1,c1,rfl,hlen,-,-⟩:=hs.form;obtain⟨A2,k2,c2,rfl,hlen',-,-⟩:=hs'.form
 generalize hneg:decide (x<0)=n1 at *
 generalize hneg':decide (y<0)=n2 at *
 have Hn1:=q_h hneg;have Hn2:=q_h hneg';clear hneg hneg';have HL:=q_h hL;have HL':=q_h hL';clear hL hL';go_enter Tryz.func87,Tryz.ntmps87;go_wp2_with (go_at_call 119;refine q_o ?_);refine (Yh (by exact hI.ext (((Ext.refl w).alloc _).alloc _)) (by exact hI'.ext (((Ext.refl w).alloc _).alloc _)) HL.out HL'.out).mono ?_;rintro e w1 ⟨v1,rfl,h1,e1⟩;go_wp2_with (go_at_call 68;refine q_o ?_);refine (XZ h1 HB.out).mono ?_;rintro e w2 ⟨rfl,e2⟩;go_wp2;go_ret;exact⟨qJ hz.out.symm,((((Ext.refl w).alloc _).alloc _).trans e1).trans e2⟩
theorem q2j{x:Nat}(h:Gs N w s (dg x)) (hx:ln x<=2) :
  Calls Tryz.prog 118 #[s] w fun e w'=>e=.returned (.int .u64 (x:Int))/\w=w':=by
 obtain⟨r,hr⟩:=qc (x:Int);rw[<-hr.out];have hv:=qC x;have hd:=qI x
 have HV:Hid (x=(dg x)[0]?.getD 0+bs*(dg x)[1]?.getD 0):=by
  unfold ln at hx;unfold Hid
  match hl:dg x,hx with
  | [],_=>rw[hl] at hv;simp[val] at hv ⊢;omega
  | [a],_=>rw[hl] at hv;simp[val] at hv ⊢;omega
  | [a,b],_=>rw[hl] at hv;simp[val] at hv ⊢;omega
 clear hv;go_enter Tryz.func118,Tryz.ntmps118;go_wp2_with (go_at_call 120;refine q_o ?_);refine (xu h hd 1).mono ?_;rintro e w' ⟨za,rfl,za0,za1,hza,rfl⟩;go_wp2_with (go_at_call 120;refine q_o ?_);refine (xu h hd 0).mono ?_;rintro e w' ⟨zb,rfl,zb0,zb1,hzb,rfl⟩;go_wp2;go_ret;refine⟨qJ ?_,rfl⟩;have e1:=hr.out;have e2:=HV.out;have e3:=hza.out;have e4:=hzb.out;unfold bs at e2;omega
theorem WL {u:Nat}{X:Nat}(h:X+bs ^ k*u=m) (hm:m<=9223372036854775808) (hu:0<u):k<3:=by
 rcases Nat.lt_or_ge k 3 with h1|h1
 ·exact h1
 ·have h2:bs ^ 3<=bs ^ k:=Nat.pow_le_pow_right qV h1;have h3:bs ^ k*1<=bs ^ k*u:=Nat.mul_le_mul_left _ hu;have h4:bs ^ 3=1000000000000000000000000000:=by decide
  omega
theorem q2y {X u q:Nat}(h:X+bs ^ k*u=m) (hq:u=d+bs*q):X+bs ^ k*d+bs ^ (k+1)*q=m:=by
 subst hq;rw[Nat.mul_add] at h;rw[Nat.pow_succ,Nat.mul_assoc];omega
def q9o (N:Nat) (w W:World) (m:Nat) (u v:Value) (wr:World):Prop :=
 ∃(k:Nat) (uz:Int) (A':Option Addr) (c':Nat) (xs:List Nat),k<=3/\u=.int .u64 uz/\0<=uz/\uz<=9223372036854775808/\v=.slice A' k c' /\
  wr.ownsRow (w.heap.size+1) 119 1 (.slice A' k c') k (xs.map vG)/\Dig xs/\val xs+bs ^ k*uz.toNat=m/\Ext W wr
theorem q8A(hN:N<=w.heap.size) (n:Int) (h1 : -9223372036854775808<=n) (h2:n<=9223372036854775807) :
  Calls Tryz.prog 76 #[.int .i64 n] w (Kr N w n):=by
 by_cases hn:n<0
 ·go_enter Tryz.func76,Tryz.ntmps76;go_wp2
  go_loopw [3,4] (fun u v wr=>q9o N w (w.alloc (Obj.cells #[Value.bool false,Value.slice none 0 0] 33)) n.natAbs u v wr) (fun u _ _=>(intOf u).toNat)
  case atStart=>exact⟨0,_,_,_,[],by omega,rfl,by omega,by omega,rfl,kC _ _ _ (by simp) (q_r),Dig.nil,by simp[val];omega,(Ext.refl _).alloc _⟩
  case round =>
   obtain⟨k,uz,A',c',xs,hk,rfl,u0,u1,rfl,hown,hxs,hv,hE⟩:=hrel;have HV:=q_h hv;have HX:=q_h hxs;have HO:=q_h hown;clear hv hxs hown;have hW:=hE.size;rw[World.size_alloc] at hW;have HW:Hid (N<=wr.heap.size):=by unfold Hid;omega
   by_cases hlt:0<uz
   ·have hk3:=WL HV.out (by omega) (show 0<uz.toNat by omega);go_wp2_with (at_builtin;refine q_o ?_);refine qA (N:=N) rfl (.tmp 17) (.tmp 21) rfl (w.heap.size+1) _ k xs rfl (HO.out.alloc _) _ [(uz % 1000000000).toNat] rfl (yP HW.out (by omega) (by omega) rfl) (by simp;omega) (by simp;omega) ?_;intro A2 c2 w2 hown2 hgr;have hE2:=(hE.alloc _).own hgr (HO.out.alloc _) (by simp)
    have HR:Hid (val (xs ++ [(uz % 1000000000).toNat])+bs ^ (k+1)*(uz / 1000000000).toNat=n.natAbs):=by
     rw[Hid,xG,show xs.length=k from by simpa using HO.out.1];refine q2y HV.out ?_;unfold bs;omega
    have HX2:Hid (Dig (xs ++ [(uz % 1000000000).toNat])):=HX.out.append (Dig.mk (by unfold bs;omega) Dig.nil);have HO2:=q_h hown2;have HE2:=q_h hE2;clear hown2 hgr hE2
    generalize (uz % 1000000000).toNat=dd at *
    go_wp2;go_roundw
    case rel=>exact⟨k+1,uz / 1000000000,A2,c2,_,by omega,rfl,by omega,by omega,rfl,HO2.out,HX2.out,HR.out,HE2.out⟩
    case measure=>simp[intOf];omega
   ·obtain rfl:uz=0:=by omega
    have HF:Hid (val xs=n.natAbs):=by have:=HV.out;unfold Hid;simpa using this
    have hG:=Gs.of_own (N:=N) HW.out HO.out (fun x hx=>Nat.lt_trans (HX.out x hx) (by decide));go_wp2_with (go_at_call 72;refine q_o ?_);refine (xg hG HX.out (by rw[show xs.length=k from by simpa using HO.out.1];omega) n (by rw[HF.out];simp only[Hid];split<;>simp_all<;>omega)).mono ?_;intro e w3 hh;obtain⟨bb,A4,k4,c4,rfl,hb4,h4,e4⟩:=hh.form;obtain⟨hE0,hsz0,B0⟩:=yU (hE.trans e4);obtain⟨r0,r1,r2,r3⟩:=cells2 B0;go_wp2;exact zC rfl rfl rfl hE0 B0 (q_r) hN h4 hb4.out rfl
 ·go_enter Tryz.func76,Tryz.ntmps76;go_wp2
  go_loopw [3,4] (fun u v wr=>q9o N w (w.alloc (Obj.cells #[Value.bool false,Value.slice none 0 0] 33)) n.natAbs u v wr) (fun u _ _=>(intOf u).toNat)
  case atStart=>exact⟨0,_,_,_,[],by omega,rfl,by omega,by omega,rfl,kC _ _ _ (by simp) (q_r),Dig.nil,by simp[val];omega,(Ext.refl _).alloc _⟩
  case round =>
   obtain⟨k,uz,A',c',xs,hk,rfl,u0,u1,rfl,hown,hxs,hv,hE⟩:=hrel;have HV:=q_h hv;have HX:=q_h hxs;have HO:=q_h hown;clear hv hxs hown;have hW:=hE.size;rw[World.size_alloc] at hW;have HW:Hid (N<=wr.heap.size):=by unfold Hid;omega
   by_cases hlt:0<uz
   ·have hk3:=WL HV.out (by omega) (show 0<uz.toNat by omega);go_wp2_with (at_builtin;refine q_o ?_);refine qA (N:=N) rfl (.tmp 17) (.tmp 21) rfl (w.heap.size+1) _ k xs rfl (HO.out.alloc _) _ [(uz % 1000000000).toNat] rfl (yP HW.out (by omega) (by omega) rfl) (by simp;omega) (by simp;omega) ?_;intro A2 c2 w2 hown2 hgr;have hE2:=(hE.alloc _).own hgr (HO.out.alloc _) (by simp)
    have HR:Hid (val (xs ++ [(uz % 1000000000).toNat])+bs ^ (k+1)*(uz / 1000000000).toNat=n.natAbs):=by
     rw[Hid,xG,show xs.length=k from by simpa using HO.out.1];refine q2y HV.out ?_;unfold bs;omega
    have HX2:Hid (Dig (xs ++ [(uz % 1000000000).toNat])):=HX.out.append (Dig.mk (by unfold bs;omega) Dig.nil);have HO2:=q_h hown2;have HE2:=q_h hE2;clear hown2 hgr hE2
    generalize (uz % 1000000000).toNat=dd at *
    go_wp2;go_roundw
    case rel=>exact⟨k+1,uz / 1000000000,A2,c2,_,by omega,rfl,by omega,by omega,rfl,HO2.out,HX2.out,HR.out,HE2.out⟩
    case measure=>simp[intOf];omega
   ·obtain rfl:uz=0:=by omega
    have HF:Hid (val xs=n.natAbs):=by have:=HV.out;unfold Hid;simpa using this
    have hG:=Gs.of_own (N:=N) HW.out HO.out (fun x hx=>Nat.lt_trans (HX.out x hx) (by decide));go_wp2_with (go_at_call 72;refine q_o ?_);refine (xg hG HX.out (by rw[show xs.length=k from by simpa using HO.out.1];omega) n (by rw[HF.out];simp only[Hid];split<;>simp_all<;>omega)).mono ?_;intro e w3 hh;obtain⟨bb,A4,k4,c4,rfl,hb4,h4,e4⟩:=hh.form;obtain⟨hE0,hsz0,B0⟩:=yU (hE.trans e4);obtain⟨r0,r1,r2,r3⟩:=cells2 B0;go_wp2;exact zC rfl rfl rfl hE0 B0 (q_r) hN h4 hb4.out rfl
def q9k (N:Nat) (w:World) (k:IntKind) (q:Nat) (r:Int) (e:Ending) (w':World):Prop:=∃A n c,e=.returned (.tuple #[.slice A n c,.int k r])/\Gs N w' (.slice A n c) (dg q)/\Ext w w'
def q5S (w:World) (a:List Nat) (d:Nat) (r i:Value) (wr:World):Prop :=
 ∃(k:Nat) (rz:Int) (l:List Nat),k<=a.length/\i=.int .i64 ((k:Int)-1)/\r=.int .u64 rz/\0<=rz/\rz.toNat<d/\Arr wr w.heap.size l/\l.length=a.length/\Dig l /\
  d*val l+bs ^ k*rz.toNat=bs ^ k*val (a.drop k)/\(∀t,t<k->l[t]?.getD 0=0)/\Ext w wr
theorem QN{t x:Nat}(h:i≠t):(l.set i x)[t]?.getD 0=l[t]?.getD 0:=by rw[List.getElem?_set_ne h]
theorem q4J{a:List Nat}(h:Gs N w s a) (ha:Dig a) (hL:a.length<=35184372088824) (dz:Int) (d0:1<=dz) (d1:dz<=1000000000) :
  Calls Tryz.prog 149 #[s,.int .u64 dz] w (q9k N w .u64 (val a / dz.toNat) ((val a % dz.toNat:Nat):Int)):=by
 obtain⟨q,hq⟩:=qc (val a / dz.toNat);obtain⟨r,hr⟩:=qc ((val a % dz.toNat:Nat):Int);rw[<-hq.out,<-hr.out];have hN:=h.le;obtain⟨A,n,c,rfl,hlen,h2,h3⟩:=h.form;rw[hlen.out] at hL;go_enter Tryz.func149,Tryz.ntmps149;go_wp2_with (at_make;refine q_o ?_);refine zf rfl (.tmp 11) (.tmp 11) rfl .i64 .i64 _ _ n rfl rfl rfl rfl (by omega) ?_;intro w5 hA e5;go_wp2
 go_loopw [7,8] (fun r i wr=>q5S w a dz.toNat r i wr) (fun _ i _=>(intOf i+1).toNat)
 case atStart=>exact⟨n,0,_,by rw[hlen.out];exact q_r,rfl,rfl,by omega,by omega,hA,by rw[List.length_replicate,hlen.out],Dig.replicate _,by rw[zt,List.drop_of_length_le (by rw[hlen.out];exact q_r)];simp[val],fun t _=>by rw[List.getElem?_replicate];split<;>rfl,e5⟩
 case round =>
  obtain⟨k,rz,l,hk,rfl,rfl,rz0,rz1,hA2,hll,hDl,hv,hzero,e6⟩:=hrel;rw[hlen.out] at hk;have HV:=q_h hv;have HZ:=q_h hzero;have HLL:=q_h hll;clear hv hzero hll
  rcases Nat.eq_zero_or_pos k with h0|h0
  ·subst h0;obtain⟨E1,E2⟩:=Zq HV.out rz1;rw[List.drop_zero] at E1 E2;have HF:=q_h E1;have HF2:=q_h E2;clear E1 E2;have hG:=hA2.gsN (N:=N) (q_l hN e6.size) (n:=n) (c:=n) (by rw[HLL.out,hlen.out]) rfl (by unfold maxLen;omega);go_wp2_with (go_at_call 72;refine q_o ?_);refine (xg hG hDl (by rw[HLL.out,hlen.out];omega) (q:Int) (by rw[HF.out,hq.out];rfl)).mono ?_;rintro e w3 ⟨v3,rfl,⟨s3,rfl,h3⟩,e3⟩;obtain⟨A3,n3,c3,rfl,hlen3,-,-⟩:=h3.form
   generalize decide ((q:Int)<0)=nb
   have hfl:=fun w=>q4a (.bool nb) (.slice A3 n3 c3) w
   have HRR:Hid (rz=r):=by have:=hr.out;have:=HF2.out;unfold Hid;omega
   obtain rfl:=HRR.out;go_wp2;go_ret2;exact⟨_,_,_,rfl,h3,e6.trans e3⟩
  ·obtain⟨j,rfl⟩:∃j,k=j+1:=⟨k-1,by omega⟩
   obtain⟨b1,o1,gz,rfl,hb1,gc,gz0,gz1,hgz⟩:=(h.ext e6).at_ (k:=j) (by omega);obtain⟨oz,gz3,fz3,oz0,oz1,hoz⟩:=hA2.at_ (k:=j) (by rw[HLL.out,hlen.out];omega);have gz2:gz<=999999999:=by have:=ha.get j;unfold bs at this;have:=hgz.out;omega
   rw[show (((j+1:Nat):Int)-1)=(j:Int) from by omega];have rz2:rz<dz:=by omega
   have m0:0<=rz*1000000000+gz:=by omega
   have m1:(rz*1000000000+gz) / dz<1000000000:=Int.ediv_lt_of_lt_mul (by omega) (by
    have:(rz+1)*1000000000<=dz*1000000000:=Int.mul_le_mul_of_nonneg_right (by omega) (by omega)
    rw[Int.mul_comm 1000000000 dz];omega)
   have m2:0<=(rz*1000000000+gz) / dz:=Int.ediv_nonneg m0 (by omega);have m3:0<=(rz*1000000000+gz) % dz:=Int.emod_nonneg _ (by omega);have m4:(rz*1000000000+gz) % dz<dz:=Int.emod_lt_of_pos _ (by omega)
   have HQ:Hid (rz.toNat*bs+a[j]?.getD 0=dz.toNat*((rz*1000000000+gz) / dz).toNat+((rz*1000000000+gz) % dz).toNat):=by
    have h1:=Int.mul_ediv_add_emod (rz*1000000000+gz) dz;have h2:=hgz.out;have h3:(dz*((rz*1000000000+gz) / dz)).toNat=dz.toNat*((rz*1000000000+gz) / dz).toNat:=Int.toNat_mul (by omega) m2;have h4:0<=dz*((rz*1000000000+gz) / dz):=Int.mul_nonneg (by omega) m2;rw[Hid,<-h3];unfold bs;omega
   have HR:Hid (dz.toNat*val (l.set j ((rz*1000000000+gz) / dz).toNat)+bs ^ j*((rz*1000000000+gz) % dz).toNat=bs ^ j*val (a.drop j)):=by
    rw[Hid,xR (by rw[hlen.out];omega),zW (by rw[hlen.out];omega)];have h0:=kG (l:=l) (k:=j) (by rw[HLL.out,hlen.out];omega) ((rz*1000000000+gz) / dz).toNat;rw[HZ.out j (by omega)] at h0;exact Zp h0 HQ.out HV.out
   have HDn:Hid (Dig (l.set j ((rz*1000000000+gz) / dz).toNat)):=hDl.set _ _ (by unfold bs;omega);go_wp2;refine⟨⟨j,(rz*1000000000+gz) % dz,l.set j ((rz*1000000000+gz) / dz).toNat,by rw[hlen.out];omega,rfl,rfl,m3,by omega,Arr.set hA2 _ m2 (by omega),by rw[List.length_set];exact HLL.out,HDn.out,HR.out,fun t ht=>?_,e6.setCell (p:=⟨w.heap.size,j,none⟩) (q_r) _⟩,by simp[intOf]⟩;rw[QN (by omega)];exact HZ.out t (by omega)
end
section
theorem q7O (z k:Nat):(dg z).drop k=dg (z / bs ^ k):=by
 induction k generalizing z with
 | zero=>simp
 | succ k ih =>
  by_cases h:z=0
  ·subst h;rw[Nat.zero_div,zO];simp
  ·rw[QO h,List.drop_succ_cons,ih,Nat.pow_succ,Nat.mul_comm (bs ^ k) bs,<-Nat.div_div_eq_div_mul]
theorem YH (z k:Nat):(dg z)[k]?.getD 0=z / bs ^ k % bs:=by
 have h:(dg z)[k]?=((dg z).drop k)[0]?:=by rw[List.getElem?_drop];simp
 rw[h,q7O]
 by_cases h0:z / bs ^ k=0
 ·rw[h0,zO];simp
 ·rw[QO h0];simp
theorem KP {z:Nat}(h:z<bs ^ (m+2)):z / bs ^ (m+1) % bs*bs+z / bs ^ m % bs=z / bs ^ m:=by
 have h1:z / bs ^ (m+1)=z / bs ^ m / bs:=by rw[Nat.div_div_eq_div_mul,<-Nat.pow_succ]
 have h2:z / bs ^ (m+1)<bs:=by
  rw[Nat.div_lt_iff_lt_mul (Nat.pow_pos qV),Nat.mul_comm,<-Nat.pow_succ];exact h
 rw[Nat.mod_eq_of_lt h2,h1,Nat.mul_comm];exact Nat.div_add_mod _ _
structure q43 (y n f:Nat):Prop where
 f1:1<=f
 f2:f<=1000000000
 len:ln (y*f)=n+1
 top:y*f<(y*f / bs ^ n+1)*bs ^ n
theorem Y5 {y:Nat}(hn:ln y=n+1):q43 y n (bs / (y / bs ^ n % bs+1)):=by
 have hy:y≠0:=by rintro rfl;rw[yf] at hn;omega
 have hlt:=qP y;rw[hn] at hlt
 have htop:y / bs ^ n<bs:=by
  rw[Nat.div_lt_iff_lt_mul (Nat.pow_pos qV),Nat.mul_comm,<-Nat.pow_succ];exact hlt
 rw[Nat.mod_eq_of_lt htop];have hlow:=jg hy;rw[hn,Nat.add_sub_cancel] at hlow
 generalize ht:y / bs ^ n=t at *
 have f1:1<=bs / (t+1):=Nat.div_pos (by omega) (by omega);have f2:bs / (t+1)<=1000000000:=Nat.div_le_self _ _;have hfm:bs / (t+1)*(t+1)<=bs:=Nat.div_mul_le_self _ _
 have hup:y<(t+1)*bs ^ n:=by
  rw[<-ht,Nat.mul_comm];exact Nat.lt_mul_div_succ y (Nat.pow_pos qV)
 have h3:y*(bs / (t+1))<bs ^ (n+1):=by
  have h4:y*(bs / (t+1))<(t+1)*bs ^ n*(bs / (t+1)):=Nat.mul_lt_mul_of_lt_of_le hup (q_r) (by omega)
  have h5:(t+1)*bs ^ n*(bs / (t+1))=bs ^ n*(bs / (t+1)*(t+1)):=by
   rw[Nat.mul_comm (t+1) (bs ^ n),Nat.mul_assoc,Nat.mul_comm (t+1)]
  have h6:=Nat.mul_le_mul_left (bs ^ n) hfm;rw[Nat.pow_succ];omega
 refine⟨f1,f2,?_,?_⟩
 ·have h7:=zo h3;have h8:ln y<=ln (y*(bs / (t+1))):=zJ (Nat.le_mul_of_pos_right _ (by omega));omega
 ·have h9:=Nat.lt_mul_div_succ (y*(bs / (t+1))) (Nat.pow_pos qV:0<bs ^ n)
  rwa [Nat.mul_comm (bs ^ n)] at h9
theorem q5d {B R:Nat}(hB:ln B=n+1) (hR:R<B) (hd:d<bs) (htop:B<(B / bs ^ n+1)*bs ^ n) :
  d+bs*R<bs ^ (n+2)/\B*((d+bs*R) / bs ^ n / (B / bs ^ n+1))<=d+bs*R/\d+bs*R<B*bs:=by
 have h1:=qP B;rw[hB] at h1
 have h2:d+bs*R<B*bs:=by
  have:=Nat.mul_le_mul_left bs hR;rw[Nat.mul_succ] at this;rw[Nat.mul_comm B bs];omega
 have h3:B*bs<bs ^ (n+1)*bs:=Nat.mul_lt_mul_of_lt_of_le h1 (q_r) qV;refine⟨?_,?_,h2⟩
 ·rw[Nat.pow_succ];omega
 ·generalize d+bs*R=z at *
  have h4:z / bs ^ n / (B / bs ^ n+1)*(B / bs ^ n+1)<=z / bs ^ n:=Nat.div_mul_le_self _ _;have h5:z / bs ^ n*bs ^ n<=z:=Nat.div_mul_le_self _ _
  generalize z / bs ^ n / (B / bs ^ n+1)=g at *
  have h6:B*g<=(B / bs ^ n+1)*bs ^ n*g:=Nat.mul_le_mul_right g (Nat.le_of_lt htop)
  have h7:(B / bs ^ n+1)*bs ^ n*g=g*(B / bs ^ n+1)*bs ^ n:=by
   rw[Nat.mul_comm _ g,Nat.mul_assoc g]
  have h8:=Nat.mul_le_mul_right (bs ^ n) h4;omega
theorem Jp {B z r:Nat}(h:r+B*g=z) (hz:z<B*bs):g<bs:=by
 rcases Nat.lt_or_ge g bs with h1|h1
 ·exact h1
 ·have:=Nat.mul_le_mul_left B h1;omega
theorem Yr {x y f L R:Nat}(hy:y≠0) (hf:1<=f) (hinv:y*f*L+bs ^ 0*R=bs ^ 0*(x*f)) (hR:R<y*f):L=x / y/\R / f=x % y:=by
 obtain⟨h1,h2⟩:=Zq hinv hR
 constructor
 ·rw[h1,Nat.mul_div_mul_right _ _ (by omega)]
 ·rw[h2,Nat.mul_mod_mul_right,Nat.mul_div_cancel _ (by omega)]
theorem q6n {y:Nat}(h:ln y=1):dg y=[y]/\y<bs/\y≠0:=by
 have h1:=qP y;rw[h,Nat.pow_one] at h1;have h0:y≠0:=by rintro rfl;rw[yf] at h;omega
 refine⟨?_,h1,h0⟩;rw[QO h0,Nat.mod_eq_of_lt h1,Nat.div_eq_of_lt h1,zO]
theorem YC (x y:Nat):ln (x / y)<=ln x:=zJ (Nat.div_le_self _ _)
theorem yg (x y:Nat):ln (x % y)<=ln x:=zJ (Nat.mod_le _ _)
end
section
open Go.RowKit
def q1m (N:Nat) (w:World) (q r:Nat) (e:Ending) (w':World):Prop:=∃A n c A' n' c',e=.returned (.tuple #[.slice A n c,.slice A' n' c'])/\Gs N w' (.slice A n c) (dg q)/\Gs N w' (.slice A' n' c') (dg r)/\Ext w w'
theorem Xb(h:Gs N w s l) (k:Nat){i:Int}(hi:i=(k:Int)) (hz:z=((l[k]?.getD 0:Nat):Int)) :
  Calls Tryz.prog 120 #[s,.int .i64 i] w fun e w'=>e=.returned (.int .u64 z)/\w'=w:=by
 subst hi hz;refine (WE h k (by omega)).mono ?_;rintro e w' ⟨rfl,rfl⟩;rw[Int.toNat_natCast];exact⟨rfl,rfl⟩
theorem Xa{t:Value}{p q:Nat}(h:Gs N w s (dg p)) (h':Gs N w t (dg q)) (hL:ln p<=35184372088824) (hle:q<=p) :
  Calls Tryz.prog 75 #[s,t] w (QX N w (p-q)):=by
 have:=Yl h h' (qI _) (qI _) hL (by rw[qC,qC];exact hle)
 rwa [qC,qC] at this
theorem Gs.far(h:Gs N w (.slice A n c) l) (hf:∀ad,A=some ad->ad.block≠g) (u:Value):Gs N (w.setCell ⟨g,i,none⟩ u) (.slice A n c) l:=by
 obtain⟨hN,A',n',c',hv,h1,h2,h3,h4,h5⟩:=h;injection hv with e1 e2 e3
 subst e1 e2 e3;refine⟨by simpa[World.setCell] using hN,A,n,c,rfl,h1,h2,h3,h4,fun h0=>?_⟩;obtain⟨b,off,hA,⟨hs1,hs2⟩,hc⟩:=h5 h0;have hne:b≠g:=hf _ hA;refine⟨b,off,hA,⟨by simpa[World.setCell] using hs1,?_⟩,fun k hk=>cell_far u (hc k hk) hne⟩
 rcases hs2 with hs2|⟨cs,fr,hs2⟩
 ·exact .inl hs2
 ·exact .inr ⟨cs,fr,by rw[Below.heap_setCell _ _ _ _ hne];exact hs2⟩
theorem Qq{p:Nat}(h:Gs N w s (dg p)) (hL:ln p<=35184372088824) (dz:Int) (d0:0<=dz) (d1:dz<=1000000000) :
  Calls Tryz.prog 150 #[s,.int .u64 dz] w (q1t N w (p*dz.toNat)):=by
 have:=q2i h (qI _) hL dz d0 d1
 rwa [qC] at this
theorem Vo{p:Nat}(h:Gs N w s (dg p)) (hL:ln p<=35184372088824) (dz:Int) (d0:0<=dz) (d1:dz<1000000000) :
  Calls Tryz.prog 151 #[s,.int .u32 dz] w (q1t N w (dz.toNat+bs*p)):=by
 have:=q0Q h (qI _) hL dz d0 d1
 rwa [qC] at this
theorem Yi{p:Nat}(h:Gs N w s (dg p)) (hL:ln p<=35184372088824) (dz:Int) (d0:1<=dz) (d1:dz<=1000000000) :
  Calls Tryz.prog 149 #[s,.int .u64 dz] w (q9k N w .u64 (p / dz.toNat) ((p % dz.toNat:Nat):Int)):=by
 have:=q4J h (qI _) hL dz d0 d1
 rwa [qC] at this
theorem Yj{t:Value}{x y:Nat}(h:Gs N w s (dg x)) (h':Gs N w t (dg y)) (hy:ln y=1) (hL:ln x<=35184372088800) :
  Calls Tryz.prog 117 #[s,t] w (q1m N w (x / y) (x % y)):=by
 obtain⟨q,hq⟩:=qc (x / y);obtain⟨r,hr⟩:=qc (x % y);rw[<-hq.out,<-hr.out];have hN:=h.le;obtain⟨hd,hb,h0⟩:=q6n hy;obtain⟨A1,k1,c1,rfl,hlen,-,-⟩:=h.form;obtain⟨A2,k2,c2,rfl,hlen',-,-⟩:=h'.form;obtain rfl:1=k2:=by rw[<-hlen'.out];exact hy.symm
 obtain⟨b,o,yz,rfl,hb0,gc,y0,y1,hyz⟩:=h'.at_ (k:=0) (by omega);rw[Nat.add_zero] at gc
 have hyy:Hid (yz.toNat=y/\1<=yz/\yz<1000000000):=by
  have:=hyz.out;rw[hd] at this;simp at this;unfold bs at hb;unfold Hid;omega
 have y2:=hyy.out.2.1;have y3:=hyy.out.2.2;have HL:=q_h hL
 have HRb:Hid (r<1000000000):=by
  have:=Nat.mod_lt x (show 0<y by omega);have:=hr.out;unfold bs at hb;unfold Hid;omega
 clear hL hy hd hb h0;go_enter Tryz.func117,Tryz.ntmps117;go_wp2_with (go_at_call 149;refine q_o ?_);refine (Yi h (by have:=HL.out;omega) yz y2 (by omega)).mono ?_;rintro e w1 ⟨A3,k3,c3,rfl,h3,e3⟩;rw[hyy.out.1,<-hr.out];rw[hyy.out.1,<-hq.out] at h3;obtain⟨rz,hrz⟩:=qc (r:Int);rw[<-hrz.out];have r0:0<=rz:=by rw[hrz.out];omega
 have r1:rz<1000000000:=by have:=hrz.out;have:=HRb.out;omega
 go_wp2_with (go_at_call 72;refine q_o ?_);refine (xg (yP (N:=N) (d:=r) (q_l hN e3.size) (by have:=HRb.out;omega) hrz.out rfl) (Dig.mk (by have:=HRb.out;unfold bs;omega) Dig.nil) (by simp) (r:Int) (by simp[val,Hid])).mono ?_;rintro e w4 ⟨v4,rfl,⟨s4,rfl,h4⟩,e4⟩;obtain⟨A4,n4,c4,rfl,hlen4,-,-⟩:=h4.form
 generalize decide ((r:Int)<0)=nb
 have hfl:=fun w=>q4a (.bool nb) (.slice A4 n4 c4) w
 go_wp2;go_ret2;exact⟨_,_,_,_,_,_,rfl,(h3.ext ((Ext.refl _).alloc _)).ext e4,h4,(e3.alloc _).trans e4⟩
theorem Vp{t:Value}{x y:Nat}(h:Gs N w s (dg x)) (h':Gs N w t (dg y)) (hy:2<=ln y) (hlt:x<y) :
  Calls Tryz.prog 117 #[s,t] w (q1m N w (x / y) (x % y)):=by
 rw[Nat.div_eq_of_lt hlt,Nat.mod_eq_of_lt hlt];have hN:=h.le;obtain⟨A1,k1,c1,rfl,hlen,-,-⟩:=h.form;obtain⟨A2,k2,c2,rfl,hlen',-,-⟩:=h'.form;have t1:((k2:Int) == 1)=false:=by have:=hlen'.out;unfold ln at hy;simp;omega
 have HC:Hid (Q5 x y = -1):=yl hlt;clear hlt hy;go_enter Tryz.func117,Tryz.ntmps117;go_wp2_with (go_at_call 74;refine q_o ?_);refine (XY h h').mono ?_;rintro e w1 ⟨rfl,e1⟩;rw[HC.out];go_wp2;go_ret2;exact⟨_,_,_,_,_,_,rfl,by rw[zO];exact Gs.nil (by have:=e1.size;simp;omega) _ (Nat.zero_le _),(h.ext e1).ext ((Ext.refl _).alloc _),e1.alloc _⟩
theorem Gs.drop{o:Nat}(h:Gs N w (.slice (some ⟨b,o,none⟩) n c) l)(hk:k<=n):Gs N w (.slice (some ⟨b,o+k,none⟩) (n-k) (c-k)) (l.drop k):=by
 obtain⟨hN,A',n',c',hv,h1,h2,h3,h4,h5⟩:=h;injection hv with e1 e2 e3
 subst e2 e3;refine⟨hN,_,_,_,rfl,by rw[List.length_drop];omega,by omega,by omega,fun x hx=>h4 x (List.mem_of_mem_drop hx),fun h0=>?_⟩;obtain⟨b',off,hA,hs,hc⟩:=h5 (by omega);rw[<-e1] at hA;injection hA with hA
 injection hA with eb eo
 subst eb eo;refine⟨b,o+k,rfl,hs,fun i hi=>?_⟩;rw[Nat.add_assoc,hc (k+i) (by omega),List.getElem?_drop]
def q5W (N:Nat) (W:World) (g B:Nat) (D:List Nat) (k0:Nat) (rest i:Value) (wr:World):Prop :=
 ∃(k R:Nat) (l:List Nat) (A:Option Addr) (m c:Nat),k<=k0/\i=.int .i64 ((k:Int)-1)/\rest=.slice A m c/\Gs N wr (.slice A m c) (dg R)/\R<B/\Arr wr g l/\l.length=k0/\Dig l /\
  B*val l+bs ^ k*R=bs ^ k*val (D.drop k)/\(∀t,t<k->l[t]?.getD 0=0)/\Ext W wr
def q8c (N:Nat) (W:World) (g B z:Nat) (l:List Nat) (rest guess:Value) (wr:World):Prop :=
 ∃(R:Nat) (gz:Int) (A:Option Addr) (m c:Nat),rest=.slice A m c/\guess=.int .u64 gz/\0<=gz/\R+B*gz.toNat=z/\Gs N wr (.slice A m c) (dg R)/\Arr wr g l/\Ext W wr/\Hid (∀ad,A=some ad->ad.block≠g)
theorem J3{t:Value}{x y:Nat}(h:Gs N w s (dg x)) (h':Gs N w t (dg y)) (n:Nat) (hy:ln y=n+2) (hle:y<=x) (hL:ln x<=35184372088800) :
  Calls Tryz.prog 117 #[s,t] w (q1m N w (x / y) (x % y)):=by
 obtain⟨q,hq⟩:=qc (x / y);obtain⟨r,hr⟩:=qc (x % y);rw[<-hq.out,<-hr.out];have hN:=h.le;obtain⟨A1,k1,c1,rfl,hlen,-,-⟩:=h.form;obtain⟨A2,k2,c2,rfl,hlen',-,-⟩:=h'.form;obtain rfl:n+2=k2:=by rw[<-hlen'.out];exact hy.symm
 have HY:Hid (y≠0):=by unfold Hid;rintro rfl;rw[yf] at hy;omega
 have t1:(((n+2:Nat):Int) == 1)=false:=by simp;omega
 have HC:Hid (0<=Q5 x y):=yt.2 hle;obtain⟨b,o,tz,hA2,hb0,gc,tz0,tz1,htz⟩:=h'.at_ (k:=n+1) (by omega);obtain⟨f,hf⟩:=qc (bs / (y / bs ^ (n+1) % bs+1));have hS:q43 y (n+1) f:=by rw[hf.out];exact Y5 hy
 have htz':Hid (tz=((y / bs ^ (n+1) % bs:Nat):Int)):=by rw[Hid,htz.out,YH]
 have tz2:tz<1000000000:=by have h9:=htz'.out;have h10:y / bs ^ (n+1) % bs<1000000000:=Nat.mod_lt _ qV;omega
 obtain⟨fz,hfz⟩:=qc ((f:Nat):Int)
 have HFZ:Hid (1000000000 / (tz+1)=fz):=by
  rw[Hid,hfz.out,hf.out,htz'.out];exact (Int.natCast_ediv bs _).symm
 have hf1:1<=fz:=by rw[hfz.out];have:=hS.f1;omega
 have hf2:fz<=1000000000:=by rw[hfz.out];have:=hS.f2;omega
 have hnb:n+2<=35184372088800:=by have:=zJ hle;omega
 have HL:=q_h hL;have Hle:=q_h hle;clear hL hle hy htz;subst hA2;go_enter Tryz.func117,Tryz.ntmps117;go_wp2_with (go_at_call 74;refine q_o ?_);refine (XY h h').mono ?_;rintro e w1 ⟨rfl,e1⟩;obtain⟨cz,hcz⟩:=qc (Q5 x y);rw[<-hcz.out];have hc:0<=cz:=by rw[hcz.out];exact HC.out
 have gc1:=e1.cell gc;go_wp2_with (go_at_call 150;refine q_o ?_);rw[HFZ.out];refine (Qq (h.ext e1) (by have:=HL.out;omega) fz (by omega) hf2).mono ?_;intro e w2 hh;obtain⟨A3,k3,c3,rfl,h3,e2⟩:=hh.form;rw[show fz.toNat=f from by have:=hfz.out;omega] at h3;go_wp2_with (go_at_call 150;refine q_o ?_);refine (Qq ((h'.ext e1).ext e2) (by have:=HL.out;have:=zJ Hle.out;omega) fz (by omega) hf2).mono ?_;intro e w3 hh;obtain⟨A4,k4,c4,rfl,h4,e3⟩:=hh.form;rw[show fz.toNat=f from by have:=hfz.out;omega] at h4;replace h3:=h3.ext e3;obtain⟨B,hB⟩:=qc (y*f);rw[<-hB.out] at h4;obtain⟨D,hD⟩:=qc (dg (x*f));rw[<-hD.out] at h3;have hl3:Hid (D.length=k3):=by obtain⟨A',n',c',hv,hl',-,-⟩:=h3.form;cases hv;exact hl'
 have hl4:Hid ((dg B).length=k4):=by obtain⟨A',n',c',hv,hl',-,-⟩:=h4.form;cases hv;exact hl'
 obtain rfl:n+2=k4:=by rw[<-hl4.out,hB.out];exact hS.len.symm
 have k3b:k3<=35184372088802:=by
  have h5:=WX x f;have h6:ln f<=2:=zo (by have:=hS.f2;have:(1000000000:Nat)<bs ^ 2:=(by decide);omega);have h7:=hl3.out;rw[hD.out] at h7;have h8:=HL.out;unfold ln at *;omega
 have k3a:n+2<=k3:=by
  have h5:=hl3.out;rw[hD.out] at h5;have h6:=zJ (Nat.mul_le_mul_right f Hle.out);rw[hS.len] at h6;unfold ln at h6;omega
 obtain⟨k0,hk0⟩:=qc (k3-(n+2)+1);have hk0':k3-(n+2)+1=k0:=hk0.out.symm;have k0b:k0+n+1=k3:=by have:=hk0.out;omega
 obtain⟨b3,o3,zz,hA3,hb3,gc3,-,-,-⟩:=h3.at_ (k:=0) (by omega);have hc3:k3<=c3:=by obtain⟨A',n',c',hv,hl',h7,-⟩:=h3.form;cases hv;exact h7
 subst hA3;clear gc3 zz;have HD3:Hid (Dig D):=by rw[Hid,hD.out];exact qI _
 have hG:=h3.drop (k:=k0) (by omega);have hcne:¬c3=k0:=by omega
 have hE3:=(e1.trans e2).trans e3;go_wp2_with (go_at_call 72;refine q_o ?_);refine (xg (l:=D.drop k0) (by exact hG) (HD3.out.drop _) (by rw[List.length_drop,hl3.out];omega) ((val (D.drop k0):Nat):Int) (by simp[Hid])).mono ?_;rintro e w4 ⟨v4,rfl,⟨s5,rfl,h5⟩,e4⟩;obtain⟨A5,n5,c5,rfl,hlen5,-,-⟩:=h5.form
 generalize decide (((val (D.drop k0):Nat):Int)<0)=nb
 have hfl:=fun w=>q4a (.bool nb) (.slice A5 n5 c5) w
 rw[Int.natAbs_natCast] at h5;go_wp2_with (at_make;refine q_o ?_);refine zf rfl (.tmp 68) (.tmp 68) rfl .i64 .i64 _ _ k0 rfl rfl (by omega) (by omega) (by omega) ?_;intro w5 hA e5;go_wp2;obtain⟨g,hg⟩:=qc w4.heap.size;rw[<-hg.out] at hA ⊢
 have B0:Hid (val (D.drop k0)<B):=by
  have h8:=jS (HD3.out.drop k0);rw[List.length_drop,hl3.out,show k3-k0=n+1 from by omega] at h8;have h9:B≠0:=by rw[hB.out];exact Nat.mul_ne_zero HY.out (by have:=hS.f1;omega)
  have h10:=jg h9;rw[hB.out,hS.len,Nat.add_sub_cancel,<-hB.out] at h10;exact Nat.lt_of_lt_of_le h8 h10
 have HBL:Hid (ln B=n+2):=by rw[Hid,hB.out];exact hS.len
 have HBT:Hid (B<(B / bs ^ (n+1)+1)*bs ^ (n+1)):=by rw[Hid,hB.out];exact hS.top
 replace h3:=h3.ext e4;replace h4:=h4.ext e4;have HE4:=q_h (hE3.trans e4)
 go_loopw [10,12] (fun rest i wr=>q5W N w4 g B D k0 rest i wr) (fun _ i _=>(intOf i+1).toNat)
 case atStart=>exact⟨k0,_,_,A5,n5,c5,q_r,congrArg _ (by omega),rfl,h5.ext e5,B0.out,hA,List.length_replicate,Dig.replicate _,by rw[zt,Nat.mul_zero,Nat.zero_add],fun t _=>by rw[List.getElem?_replicate];split<;>rfl,e5⟩
 case round =>
  obtain⟨k,R,l,A,m,c,hk,rfl,rfl,gR,hR,hA2,hll,hDl,hv,hzero,e6⟩:=hrel;have HV:=q_h hv;have HZ:=q_h hzero;have HLL:=q_h hll;have HR:=q_h hR;have HDl:=q_h hDl;clear hv hzero hll hR hDl;have HRL:Hid (ln R<=n+2):=by have:=zJ (Nat.le_of_lt HR.out);have:=HBL.out;unfold Hid;omega
  rcases Nat.eq_zero_or_pos k with h0|h0
  ·subst h0;have hend:=Yr (x:=x) (f:=f) HY.out hS.f1 (by have:=HV.out;rw[List.drop_zero,hD.out,qC] at this;rw[<-hB.out];exact this) (by rw[<-hB.out];exact HR.out);have HE:=q_h hend;clear hend;go_wp2_with (go_at_call 149;refine q_o ?_);refine (Yi gR (by have:=HRL.out;omega) fz hf1 hf2).mono ?_;rintro e w7 ⟨A7,m7,c7,rfl,g7,e7⟩;rw[show fz.toNat=f from by have:=hfz.out;omega] at g7 ⊢;rw[HE.out.2,<-hr.out] at g7
   generalize ((R % f:Nat):Int)=rr
   have hG:=(hA2.ext e7).gsN (N:=N) (by have:=HE4.out.size;have:=e6.size;have:=e7.size;omega) (n:=k0) (c:=k0) HLL.out rfl (by unfold maxLen;omega);go_wp2_with (go_at_call 72;refine q_o ?_);refine (xg hG HDl.out (by rw[HLL.out];omega) (q:Int) (by rw[HE.out.1,<-hq.out];simp[Hid])).mono ?_;rintro e w8 ⟨v8,rfl,⟨s8,rfl,h8⟩,e8⟩;obtain⟨A8,n8,c8,rfl,hlen8,-,-⟩:=h8.form
   generalize decide ((q:Int)<0)=nb'
   have hfl':=fun w=>q4a (.bool nb') (.slice A8 n8 c8) w
   go_wp2;go_ret2;exact⟨_,_,_,_,_,_,rfl,h8,g7.ext e8,((HE4.out.trans e6).trans e7).trans e8⟩
  ·obtain⟨j,rfl⟩:∃j,k=j+1:=⟨k-1,by omega⟩
   rw[show (((j+1:Nat):Int)-1)=(j:Int) from by omega];obtain⟨bx,ox,dz,hAx,hbx,gx,dz0,dz1,hdz⟩:=(h3.ext e6).at_ (k:=j) (by omega);injection hAx with hAx
   injection hAx with ebx eox
   subst ebx eox;have dz2:dz<1000000000:=by have:=HD3.out.get j;unfold bs at this;have:=hdz.out;omega
   go_wp2_with (go_at_call 151;refine q_o ?_);refine (Vo gR (by have:=HRL.out;omega) dz dz0 dz2).mono ?_;intro e w7 hh;obtain⟨A7,m7,c7,rfl,g7,e7⟩:=hh.form;obtain⟨z1,hz1⟩:=qc (dz.toNat+bs*R);rw[<-hz1.out] at g7;obtain⟨G1,G2,G3⟩:=q5d (d:=dz.toNat) HBL.out HR.out (by unfold bs;omega) HBT.out;rw[<-hz1.out] at G1 G2 G3;have HG1:=q_h G1;have HG2:=q_h G2;have HG3:=q_h G3;clear G1 G2 G3;obtain⟨p1,hp1⟩:=qc (((dg z1)[n+2]?.getD 0:Nat):Int);obtain⟨p0,hp0⟩:=qc (((dg z1)[n+1]?.getD 0:Nat):Int);have p1b:0<=p1/\p1<1000000000:=by have:=(qI z1).get (n+2);unfold bs at this;have:=hp1.out;omega
   have p0b:0<=p0/\p0<1000000000:=by have:=(qI z1).get (n+1);unfold bs at this;have:=hp0.out;omega
   obtain⟨p1x,p1y⟩:=p1b;obtain⟨p0x,p0y⟩:=p0b;obtain⟨by_,oy,tb,hAy,hby,gy,tb0,tb1,htb⟩:=((h4.ext e6).ext e7).at_ (k:=n+1) (by omega);have tb2:tb<1000000000:=by have:=(qI B).get (n+1);unfold bs at this;have:=htb.out;omega
   obtain⟨gz,hgz⟩:=qc ((p1*1000000000+p0) / (tb+1));have HB0:Hid (0<B):=Nat.lt_of_le_of_lt (Nat.zero_le _) HR.out;have gz0:0<=gz:=by rw[hgz.out];exact Int.ediv_nonneg (by omega) (by omega)
   have HGN:Hid (gz.toNat=z1 / bs ^ (n+1) / (B / bs ^ (n+1)+1)):=by
    have h8:=KP (z:=z1) (m:=n+1) HG1.out;have h9:=hp1.out;have h10:=hp0.out;have h11:=htb.out;rw[YH] at h9 h10 h11
    have h12:B / bs ^ (n+1)<bs:=by
     rw[Nat.div_lt_iff_lt_mul (Nat.pow_pos qV),Nat.mul_comm,<-Nat.pow_succ];have:=qP B;rw[HBL.out] at this;exact this
    rw[Nat.mod_eq_of_lt h12] at h11
    have h13:p1*1000000000+p0=((z1 / bs ^ (n+1):Nat):Int):=by
     rw[<-h8,h9,h10];simp[bs]
    rw[Hid,hgz.out,h13,h11];have h14:(((z1 / bs ^ (n+1) / (B / bs ^ (n+1)+1):Nat)):Int)=((z1 / bs ^ (n+1):Nat):Int) / (((B / bs ^ (n+1):Nat):Int)+1):=Int.natCast_ediv _ _;rw[<-h14,Int.toNat_natCast]
   have HGL:Hid (B*gz.toNat<=z1):=by rw[Hid,HGN.out];exact HG2.out
   have gz1:gz<1000000000:=by
    have:=Jp (B:=B) (g:=gz.toNat) (r:=z1-B*gz.toNat) (z:=z1) (by have:=HGL.out;omega) HG3.out;unfold bs at this;omega
   subst hAy;have i1:IntKind.i64.wrap ((n:Int)+2-1)=(n:Int)+1:=by rw[IntWalk.i64_in _ (by omega)];omega
   have i2:(n:Int)+1<(n:Int)+2:=by omega
   have i3:((n:Int)+1).toNat=n+1:=by omega
   have i4:(0:Int)<=(n:Int)+1:=by omega
   go_wp2
   go_quiet ((go_at_call 120;first|exact Calls.quiet_of_same (Xb (g7.drewN _) (n+2) (by omega) hp1.out)|exact Calls.quiet_of_same (Xb (g7.drewN _) (n+1) (by omega) hp0.out)))
   clear i1 i2 i3 i4;rw[<-hgz.out];have eq7:Ext w7 (w7.drewN nq):=(Ext.refl w7).drewN nq;have HZL:Hid (ln z1<=35184372088804):=by have:=zo HG1.out;unfold Hid;omega
   go_wp2_with (go_at_call 150;refine q_o ?_);refine (Qq (((h4.ext e6).ext e7).ext eq7) (by have:=HBL.out;omega) gz gz0 (by omega)).mono ?_;intro e w8 hh;obtain⟨A8,m8,c8,rfl,g8,e8⟩:=hh.form;go_wp2_with (go_at_call 75;refine q_o ?_);refine (Xa ((g7.ext eq7).ext e8) g8 (by have:=HZL.out;omega) HGL.out).mono ?_;rintro e w9 ⟨A9,m9,c9,rfl,g9,e9,hF9⟩;have HFr:Hid (∀ad,A9=some ad->ad.block≠g):=fun ad h=>by have h1:=hF9.out ad h;have h2:=(((hA2.ext e7).ext eq7).ext e8).lt;omega
   clear hF9;have eT:Ext w4 w9:=(((e6.trans e7).trans eq7).trans e8).trans e9;have hA9:Arr w9 g l:=(((hA2.ext e7).ext eq7).ext e8).ext e9;clear g7 g8 gR hA2 e7 e8 e9 eq7;obtain⟨wo,rfl⟩:∃wo,wo=w9:=⟨_,rfl⟩
   go_wp2
   go_loopw [10,13] (fun rest guess wr=>q8c N w4 g B z1 l rest guess wr) (fun _ gs _=>1000000000-(intOf gs).toNat)
   case atStart=>exact⟨_,gz,A9,m9,c9,rfl,rfl,gz0,by have:=HGL.out;omega,g9,hA9,eT,HFr⟩
   case round =>
    obtain⟨R2,g2z,A10,m10,c10,rfl,rfl,g20,hg2,gR2,hA10,e10,hFr2⟩:=hrel;have HG2':=q_h hg2;clear hg2
    have g21:g2z<1000000000:=by
     have:=Jp HG2'.out HG3.out;unfold bs at this;omega
    have HR2L:Hid (ln R2<=35184372088804):=by
     have:=zJ (show R2<=z1 by have:=HG2'.out;omega);have:=HZL.out;unfold Hid;omega
    go_wp2_with (go_at_call 74;refine q_o ?_);refine (XY gR2 (h4.ext e10)).mono ?_;rintro e w11 ⟨rfl,e11⟩;obtain⟨cz2,hcz2⟩:=qc (Q5 R2 B);rw[<-hcz2.out]
    by_cases hge:B<=R2
    ·have hc2:0<=cz2:=by rw[hcz2.out];exact yt.2 hge
     have Hge:=q_h hge;clear hge;go_wp2_with (go_at_call 75;refine q_o ?_);refine (Xa (gR2.ext e11) ((h4.ext e10).ext e11) (by have:=HR2L.out;omega) Hge.out).mono ?_;rintro e w12 ⟨A12,m12,c12,rfl,g12,e12,hF12⟩;have HFr2:Hid (∀ad,A12=some ad->ad.block≠g):=fun ad h=>by have h1:=hF12.out ad h;have h2:=(hA10.ext e11).lt;omega
     clear hF12
     have HN:Hid (R2-B+B*(g2z+1).toNat=z1):=by
      have:=HG2'.out;have:=Hge.out;rw[Hid,show (g2z+1).toNat=g2z.toNat+1 from by omega,Nat.mul_add,Nat.mul_one];omega
     have g22:g2z+1<1000000000:=by
      have:=Jp HN.out HG3.out;unfold bs at this;omega
     go_wp2;go_roundw
     case rel=>exact⟨_,g2z+1,A12,m12,c12,rfl,rfl,by omega,HN.out,g12,(hA10.ext e11).ext e12,(e10.trans e11).trans e12,HFr2⟩
     case measure=>simp[intOf];omega
    ·have hc2:cz2<0:=by
      rcases Int.lt_or_le cz2 0 with h|h
      ·exact h
      ·rw[hcz2.out] at h;exact absurd (yt.1 h) hge
     have Hlt:Hid (R2<B):=by unfold Hid;omega
     clear hge;have hA11:=hA10.ext e11;obtain⟨oz,gz3,fz3,oz0,oz1,hoz⟩:=hA11.at_ (k:=j) (by rw[HLL.out];omega)
     have HNV:Hid (B*val (l.set j g2z.toNat)+bs ^ j*R2=bs ^ j*val (D.drop j)):=by
      rw[Hid,xR (by rw[hl3.out];omega),zW (by rw[hl3.out];omega)];have h8:=kG (l:=l) (k:=j) (by rw[HLL.out];omega) g2z.toNat;rw[HZ.out j (by omega)] at h8;refine Zp h8 ?_ HV.out;have h9:=HG2'.out;have h10:=hz1.out;have h11:=hdz.out;have h12:R*bs=bs*R:=Nat.mul_comm _ _;omega
     have HDn:Hid (Dig (l.set j g2z.toNat)):=HDl.out.set _ _ (by unfold bs;omega);go_wp2;refine⟨⟨j,R2,l.set j g2z.toNat,A10,m10,c10,by omega,rfl,rfl,?_,Hlt.out,Arr.set hA11 _ g20 (by omega),by rw[List.length_set];exact HLL.out,HDn.out,HNV.out,fun t ht=>?_,(e10.trans e11).setCell (p:=⟨g,j,none⟩) (by rw[hg.out];exact q_r) _⟩,by simp[intOf]⟩
     ·exact (gR2.ext e11).far hFr2.out _
     ·rw[QN (by omega)];exact HZ.out t (by omega)
theorem J5{t:Value}{x y:Nat}(h:Gs N w s (dg x)) (h':Gs N w t (dg y)) (hy:y≠0) (hL:ln x<=35184372088800) :
  Calls Tryz.prog 117 #[s,t] w (q1m N w (x / y) (x % y)):=by
 have h0:ln y≠0:=fun e=>hy (by have:=qP y;rw[e,Nat.pow_zero] at this;omega)
 by_cases h1:ln y=1
 ·exact Yj h h' h1 hL
 ·obtain⟨n,hn⟩:∃n,ln y=n+2:=⟨ln y-2,by omega⟩
  rcases Nat.lt_or_ge x y with hlt|hge
  ·exact Vp h h' (by omega) hlt
  ·exact J3 h h' n hn hge hL
end
end Go.Proofs.YtflhlobiipejeaaGreat
