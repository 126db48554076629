import Derived.Test.YtflhlobiipejeaaGreatWb09
import Derived.Deep.CutBlock
set_option linter.all false
set_option maxHeartbeats 8000000
namespace Go.Proofs.YtflhlobiipejeaaGreat
open Go.RowKit
variable {w:World} {N n g i c:Nat} {l:List Nat} {z:Int} {A:Option Addr}
structure Fr2 (g q:Nat) (W W':World):Prop where
 os:W'.os=W.os
 tape:W'.tape=W.tape
 output:W'.output=W.output
 size:W'.heap.size=W.heap.size
 block:∀k,k≠g->k≠q->W'.heap[k]?=W.heap[k]?
theorem Fr2.refl (g q:Nat) (W:World):Fr2 g q W W:=⟨rfl,rfl,rfl,rfl,fun _ _ _=>rfl⟩
theorem Fr2.setg {q:Nat}{W W':World}(h:Fr2 g q W W') (i:Nat) (u:Value):Fr2 g q W (W'.setCell ⟨g,i,none⟩ u) :=
 ⟨h.os,h.tape,h.output,by simpa[World.setCell] using h.size,fun k h1 h2=>by rw[Below.heap_setCell _ _ _ _ h1];exact h.block k h1 h2⟩
theorem Fr2.setq {q:Nat}{W W':World}(h:Fr2 g q W W') (i:Nat) (u:Value):Fr2 g q W (W'.setCell ⟨q,i,none⟩ u) :=
 ⟨h.os,h.tape,h.output,by simpa[World.setCell] using h.size,fun k h1 h2=>by rw[Below.heap_setCell _ _ _ _ h2];exact h.block k h1 h2⟩
theorem Fr2.drewN {q:Nat}{W W':World}(h:Fr2 g q W W') (n:Nat):Fr2 g q W (W'.drewN n):=⟨h.os,h.tape,h.output,h.size,h.block⟩
theorem Fr2.ext {q:Nat}{W W':World}(h:Fr2 g q W W') (e:Ext w W) (hg:w.heap.size<=g) (hq:w.heap.size<=q):Ext w W':=by
 have e':Below w.heap.size w W:=e;exact⟨h.os.trans e'.os,h.tape.trans e'.tape,h.output.trans e'.output,by rw[h.size];exact e'.size,fun k hk=>(h.block k (by omega) (by omega)).trans (e'.block k hk)⟩
theorem Fr2.gs {q:Nat}{W W':World}(u:Fr2 g q W W') (h:Gs N W (.slice A n c) l) (hf:∀ad,A=some ad->ad.block≠g/\ad.block≠q):Gs N W' (.slice A n c) l:=by
 obtain⟨hN',A',n',c',hv,h1,h2,h3,h4,h5⟩:=h;injection hv with e1 e2 e3
 subst e1 e2 e3;refine⟨by rw[u.size];exact hN',A,n,c,rfl,h1,h2,h3,h4,fun hn=>?_⟩;obtain⟨b,off,hA,⟨hs1,hs2⟩,hc⟩:=h5 hn;obtain⟨n1,n2⟩:=hf _ hA;have hb:=u.block b n1 n2;refine⟨b,off,hA,⟨by rw[u.size];exact hs1,?_⟩,fun i hi=>by rw[World.cell?_of_block (w:=W) hb];exact hc i hi⟩
 rcases hs2 with hs2|⟨cs,fr,hs2⟩
 ·exact .inl hs2
 ·exact .inr ⟨cs,fr,hb.trans hs2⟩
theorem Arr.farg{q:Nat}(h:Arr w q l) (hne:q≠g) (u:Value):Arr (w.setCell ⟨g,i,none⟩ u) q l:=⟨by rw[Below.heap_setCell _ _ _ _ hne];exact h.1,h.2⟩
theorem Arp.farg{q:Nat}(h:Arp w q l) (hne:q≠g) (u:Value):Arp (w.setCell ⟨g,i,none⟩ u) q l:=h.of_block (Below.heap_setCell _ _ _ _ hne)
theorem Arp.drewN{q:Nat}(h:Arp w q l) (n:Nat):Arp (w.drewN n) q l:=h
theorem Arr.drewN{q:Nat}(h:Arr w q l) (n:Nat):Arr (w.drewN n) q l:=h
theorem Gs.grown1{W W':World}(h:Gs N W (.slice A n c) l) (u:W.grownBy W' (some g)) (hf:∀ad,A=some ad->ad.block≠g):Gs N W' (.slice A n c) l:=by
 obtain⟨hN',A',n',c',hv,h1,h2,h3,h4,h5⟩:=h;injection hv with e1 e2 e3
 subst e1 e2 e3;refine⟨q_l hN' u.size,A,n,c,rfl,h1,h2,h3,h4,fun hn=>?_⟩;obtain⟨b,off,hA,⟨hs1,hs2⟩,hc⟩:=h5 hn;have n1:=hf _ hA;have hb:=u.block b hs1 (by intro e;injection e with e;exact n1 e);refine⟨b,off,hA,⟨Nat.lt_of_lt_of_le hs1 u.size,?_⟩,fun i hi=>by rw[World.cell?_of_block (w:=W) hb];exact hc i hi⟩
 rcases hs2 with hs2|⟨cs,fr,hs2⟩
 ·exact .inl hs2
 ·exact .inr ⟨cs,fr,hb.trans hs2⟩
theorem VK{W:World}(hN:N<=W.heap.size) (hs:w.heap.size+1<=W.heap.size) (hB:W.heap[w.heap.size]?=some (.cells #[.int .u32 z] 119 (0,0))) (z0:0<=z) (z1:z<4294967296):Gs N W (.slice (some ⟨w.heap.size,0,none⟩) 1 1) [z.toNat]:=by
 refine⟨hN,_,_,_,rfl,rfl,q_r,by unfold maxLen;omega,fun x hx=>by simp at hx;omega,fun _=>⟨w.heap.size,0,rfl,⟨by omega,.inr ⟨_,_,hB⟩⟩,fun i hi=>?_⟩⟩;obtain rfl:i=0:=by omega
 rw[qh hB]
 simp
 omega
def q8d (W:World) (g q V X K nn:Nat) (i:Value) (wr:World):Prop :=
 ∃(k:Nat) (lu lq:List Nat),k<=K/\i=.int .i64 ((k:Int)-1)/\Arp wr g lu/\lu.length=K+nn/\Dig lu/\Arr wr q lq/\lq.length=K/\Dig lq /\
  V*val lq+val lu=X/\val (lu.drop k)<V/\(∀t,t<k->lq[t]?.getD 0=0)/\Fr2 g q W wr
def q5Z (W:World) (g q:Nat) (lu lq:List Nat) (z V nn:Nat) (gs rs:Value) (wr:World):Prop :=
 ∃gz rz:Int,gs=.int .u64 gz/\rs=.int .u64 rz/\0<=gz/\gz<=2000000000/\0<=rz/\rz<1000000000/\gz.toNat*(V / bs ^ (nn-1))+rz.toNat=z / bs ^ (nn-1)/\z / V<=gz.toNat /\
  Arp wr g lu/\Arr wr q lq/\Fr2 g q W wr
def MsRel (W:World) (g q:Nat) (u0 lq vl:List Nat) (j gn nn:Nat) (b c i:Value) (wr:World):Prop :=
 ∃(k:Nat) (bw cy:Int) (l:List Nat),k<=nn/\i=.int .i64 k/\b=.int .i64 bw/\c=.int .u64 cy/\0<=bw/\bw<=1/\0<=cy/\cy<1000000000/\Arp wr g l/\MS u0 l vl j gn k (bw.toNat+cy.toNat)/\Arr wr q lq/\Fr2 g q W wr
def AbRel (W:World) (g q:Nat) (l1 lq vl:List Nat) (j nn:Nat) (c i:Value) (wr:World):Prop :=
 ∃(k:Nat) (cz:Int) (l:List Nat),k<=nn/\i=.int .i64 k/\c=.int .u32 cz/\0<=cz/\cz<=1/\Arp wr g l/\AB l1 l vl j k cz.toNat/\Arr wr q lq/\Fr2 g q W wr
set_option maxRecDepth 20000 in
theorem q8P{A1:Option Addr}{k1 c1:Nat}{A2:Option Addr}{nn c2:Nat}{x y:Nat}(h:Gs N w (.slice A1 k1 c1) (dg x)) (h':Gs N w (.slice A2 nn c2) (dg y)) (hn2:2<=nn) (hle:y<=x) (hL:ln x<=100000000000) :
  Calls Tryz.prog 190 #[.slice A1 k1 c1,.slice A2 nn c2] w (q1m N w (x / y) (x % y)):=by
 obtain⟨q,hq⟩:=qc (x / y);obtain⟨r,hr⟩:=qc (x % y);rw[<-hq.out,<-hr.out];have hN:=h.le;have hlen:Hid (ln x=k1):=by obtain⟨A',n',c',hv,hl',-,-⟩:=h.form;cases hv;exact hl'
 have hlen':Hid (ln y=nn):=by obtain⟨A',n',c',hv,hl',-,-⟩:=h'.form;cases hv;exact hl'
 obtain⟨n,hn⟩:=qc (nn-2);have hnn:Hid (nn=n+2):=by have:=hn.out;unfold Hid;omega
 have HY:Hid (y≠0):=by unfold Hid;rintro rfl;have:=hlen'.out;rw[yf] at this;omega
 obtain⟨b,o,tz,hA2,hb0,gc,tz0,tz1,htz⟩:=h'.at_ (k:=nn-1) (by omega);obtain⟨f,hf⟩:=qc (bs / (y / bs ^ (n+1) % bs+1));have hS:q43 y (n+1) f:=by rw[hf.out];exact Y5 (by rw[hlen'.out,hnn.out])
 have htz':Hid (tz=((y / bs ^ (n+1) % bs:Nat):Int)):=by rw[Hid,htz.out,YH,hnn.out];rfl
 have tz2:tz<1000000000:=by have h9:=htz'.out;have h10:y / bs ^ (n+1) % bs<1000000000:=Nat.mod_lt _ qV;omega
 obtain⟨fz,hfz⟩:=qc ((f:Nat):Int)
 have HFZ:Hid (1000000000 / (tz+1)=fz):=by
  rw[Hid,hfz.out,hf.out,htz'.out];exact (Int.natCast_ediv bs _).symm
 have hf1:1<=fz:=by rw[hfz.out];have:=hS.f1;omega
 have hf2:fz<=1000000000:=by rw[hfz.out];have:=hS.f2;omega
 have hk1:k1<=100000000000:=by rw[<-hlen.out];exact hL
 have hnk:nn<=k1:=by rw[<-hlen.out,<-hlen'.out];exact zJ hle
 have HFL:Hid (f<1000000000):=by
  have h1:=jg HY.out;have h2:=qP y;rw[hlen'.out,hnn.out] at h1 h2;have h3:1<=y / bs ^ (n+1):=(Nat.le_div_iff_mul_le (Nat.pow_pos qV)).2 (by rw[Nat.one_mul];exact h1);rw[Hid,hf.out,q1D h2];refine Nat.div_lt_self qV ?_;omega
 have Hle:=q_h hle;have HS:=q_h hS;clear hL hle htz hS;subst hA2;have j1:((nn:Int)-1).toNat=nn-1:=by omega
 go_enter Tryz.func190,Tryz.ntmps190;go_wp2_with (go_at_call 179;refine q_o ?_);rw[show 1000000000 / (tz+1) % 4294967296=fz from by rw[HFZ.out];omega];have hfn:Hid (fz.toNat=f):=by have:=hfz.out;unfold Hid;omega
 refine qW ?_;intro W0 hE0 hsz0 B0;have HV1:Hid (∀a,val (dg a)*val [fz.toNat]=a*f):=by intro a;rw[qC,hfn.out];simp[val]
 have HD1:Hid (Dig [fz.toNat]):=Dig.mk (by rw[hfn.out];exact HFL.out) Dig.nil;refine (Jm (h.ext hE0) (VK (N:=N) (q_l hN hE0.size) hsz0 B0 (by omega) (by omega)) (qI _) HD1.out (by have:=hlen.out;unfold ln at this;omega) (by simp)).mono ?_;rintro e w1 ⟨g,k3,c3,lu0,rfl,hAu,hlu,htk,hkc,hg0,e1,gU⟩;rw[HV1.out] at htk gU;have hgl:=hAu.lt;replace e1:=hE0.trans e1;replace hg0:w.heap.size<=g:=q_l hE0.size hg0;clear B0 hsz0 hE0;go_wp2_with (go_at_call 179;refine q_o ?_);refine qW ?_;intro W1 hE1 hsz1 B1;refine (Jm ((h'.ext e1).ext hE1) (VK (N:=N) (q_l hN (e1.trans hE1).size) hsz1 B1 (by omega) (by omega)) (qI _) HD1.out (by have:=hlen'.out;unfold ln at this;omega) (by simp)).mono ?_;rintro e w2 ⟨gv,k4,c4,lv,rfl,-,-,-,-,hgv,e2,gV⟩;rw[HV1.out] at gV;replace hAu:=(hAu.ext hE1).ext e2;have hvg:¬gv=g:=by have:=hE1.size;omega
 have hgv2:gv<w2.heap.size:=by
  obtain⟨_,A',n',c',hv,h1,h2,h3,h4,h5⟩:=gV;injection hv with e3 e4 e5
  subst e3 e4 e5;obtain⟨b9,o9,hA9,hs9,-⟩:=h5 (by rw[<-h1];show 0<ln (y*f);rw[HS.out.len];omega);injection hA9 with hA9
  injection hA9 with hA9
  rw[hA9];exact hs9.1
 replace e1:=(e1.trans hE1).trans e2;obtain⟨V,hV⟩:=qc (y*f);obtain⟨X,hX⟩:=qc (x*f);rw[<-hV.out] at gV;rw[<-hX.out] at htk;have hl4:Hid ((dg V).length=k4):=by obtain⟨A',n',c',hv,hl',-,-⟩:=gV.form;cases hv;exact hl'
 have HVL:Hid (ln V=nn):=by rw[Hid,hV.out,HS.out.len,hnn.out]
 obtain rfl:nn=k4:=by rw[<-hl4.out];exact HVL.out.symm
 have hl3:Hid (ln X=k3):=by
  have h1:=congrArg List.length htk.out;rw[List.length_take,hlu.out] at h1;unfold Hid ln;omega
 have hk13:k1<=k3:=by
  rw[<-hlen.out,<-hl3.out,hX.out];exact zJ (Nat.le_mul_of_pos_right x (by have:=HS.out.f1;omega))
 have hk3b:k3<=200000000000:=by
  rw[<-hl3.out,hX.out];have h5:=WX x f;have h6:ln f<=2:=zo (by have:=HFL.out;have:(1000000000:Nat)<bs ^ 2:=(by decide);omega);have h7:=hlen.out;omega
 have hc3b:c3<=maxLen:=by
  obtain⟨_,A',n',c',hv,h1,h2,h3,h4,h5⟩:=gU;injection hv with e3 e4 e5
  subst e5;exact h3
 have HCB:=q_h hc3b;clear hc3b;clear B1 hsz1 hE1 e2 hgl gU;go_wp2_with (at_builtin;refine q_o ?_);refine Qj rfl (.tmp 43) (.tmp 44) rfl g k3 c3 lu0 rfl (hAu.ext ((Ext.refl _).alloc _)) hlu.out hkc ⟨w2.heap.size,0,none⟩ 1 rfl 0 (qh (heap_alloc_new _ _) 0) (by omega) HCB.out (by omega) ?_;intro g' c' w3 hAp hg' hc' hcm' hgr;rw[htk.out] at hAp;have hsz3:=hgr.size;simp only[World.size_alloc] at hg' hsz3;obtain⟨lu,hlu'⟩:=qc (dg X ++ [0]);rw[<-hlu'.out] at hAp;have hgg:w.heap.size<=g'/\¬gv=g':=by have:=e1.size;rcases hg' with h|h<;>omega
 obtain⟨hgg1,hgg2⟩:=hgg;have e3:Ext w w3:=(e1.alloc _).grown hgr (fun k hk=>by cases hk;exact hg0);have gV3:Gs N w3 (.slice (some ⟨gv,0,none⟩) nn c4) (dg V):=(gV.ext ((Ext.refl _).alloc _)).grown1 hgr (fun ad h=>by injection h with h;rw[<-h];exact hvg);have Hcm':=q_h hcm';clear hgr hAu hcm' hg';have t2:¬((k3:Int)+1<=(k1:Int)):=by omega
 go_wp2_with (at_make;refine q_o ?_);obtain⟨K,hK⟩:=qc (k3+1-nn);have hKb:K+nn=k3+1:=by have:=hK.out;omega
 refine zf rfl (.tmp 57) (.tmp 57) rfl .i64 .i64 _ _ K rfl rfl (by omega) (by omega) (by omega) ?_;intro w4 hAq e4;obtain⟨gq,hgq⟩:=qc w3.heap.size;rw[<-hgq.out] at hAq ⊢;have hq1:¬gq=g':=by have:=hAp.lt;have:=hgq.out;omega
 have hq2:¬gq=gv:=by have:=hgq.out;omega
 have hq3:w.heap.size<=gq:=by rw[hgq.out];exact e3.size
 have e5:=e3.trans e4;replace hAp:=hAp.ext e4;replace gV:=gV3.ext e4
 have HLU:Hid (lu.length=K+nn):=by
  rw[Hid,hlu'.out,List.length_append,List.length_singleton,hKb];have:=hl3.out;unfold ln at this;omega
 have HDU:Hid (Dig lu):=by rw[Hid,hlu'.out];exact (qI X).append (Dig.mk qV Dig.nil)
 have HVU:Hid (val lu=X):=by rw[Hid,hlu'.out,val_append,qC];simp[val]
 have HVP:Hid (0<V/\bs ^ (nn-1)<=V/\V<bs ^ nn):=by
  have h0:V≠0:=by rw[hV.out];exact Nat.mul_ne_zero HY.out (by have:=HS.out.f1;omega)
  have h1:=jg h0;have h2:=qP V;rw[HVL.out] at h1 h2;exact⟨by omega,h1,h2⟩
 have HST:Hid (val (lu.drop K)<V):=by
  have h1:=q3g HDU.out (k3)
  have h2:lu[k3]?.getD 0=0:=by
   rw[hlu'.out,List.getElem?_append_right (by have:=hl3.out;unfold ln at this;omega)];have:=hl3.out;unfold ln at this;rw[this,Nat.sub_self];rfl
  have h3:=yY (lu.drop K) (j:=nn-1) (by rw[List.length_drop,HLU.out];omega);have h4:=jS ((HDU.out.drop K).take (nn-1));rw[List.length_take,List.length_drop,HLU.out,Nat.min_eq_left (by omega)] at h4;rw[List.drop_drop] at h3
  have h5:val (lu.drop (K+(nn-1)))=0:=by
   rw[xR (by rw[HLU.out];omega),zW (by rw[HLU.out];omega),show K+(nn-1)=k3 by omega,h2,List.drop_of_length_le (by rw[HLU.out];omega)];rfl
  rw[h5,Nat.mul_zero,Nat.add_zero] at h3;rw[Hid,h3];exact Nat.lt_of_lt_of_le h4 HVP.out.2.1
 have hnn0:nn<=200000000000:=by omega
 have hKb2:K<=200000000001:=by omega
 have hgl':=hAp.lt;have hk3K:k3+1=K+nn:=by omega
 clear gV3 HCB htk hl3 hk13 t2 e3 e4 hsz3 e1 HD1 HV1 gc tz0 tz1 htz' tz2 HFZ hf HFL;rw[hk3K];have hcK:K+nn<=c':=by omega
 clear hKb hk3K hc' hk3b;go_wp2
 go_loopw [10] (fun i wr=>q8d w4 g' gq V X K nn i wr) (fun i _=>(intOf i+1).toNat)
 case atStart=>exact⟨K,lu,_,q_r,congrArg _ (by omega),hAp,HLU.out,HDU.out,hAq,List.length_replicate,Dig.replicate _,by rw[zt,Nat.mul_zero,Nat.zero_add];exact HVU.out,HST.out,fun t _=>by rw[List.getElem?_replicate];split<;>rfl,Fr2.refl _ _ _⟩
 case round =>
  clear hAp HLU HDU HVU HST hlu' hAq hgl';clear lu;obtain⟨k,lu,lq,hk,rfl,hAp,hll,hDl,hAq,hlq,hDq,hv,hR,hzero,hF⟩:=hrel;have HLU:=q_h hll;have HDU:=q_h hDl;have HLQ:=q_h hlq;have HDQ:=q_h hDq;have HV:=q_h hv;have HR:=q_h hR;have HZ:=q_h hzero;clear hll hDl hlq hDq hv hR hzero;have hNr:N<=wr.heap.size:=by rw[hF.size];exact q_l hN e5.size
  have gVr:=hF.gs gV (fun ad h=>by injection h with h;rw[<-h];exact⟨hgg2,fun e=>hq2 e.symm⟩)
  rcases Nat.eq_zero_or_pos k with h0|h0
  ·subst h0;have HR0:Hid (val lu<V):=by have:=HR.out;rwa [List.drop_zero] at this
   have HT:Hid (val (lu.take nn)=val lu):=by
    have h1:=yY lu (j:=nn) (by rw[HLU.out];omega)
    rcases Nat.eq_zero_or_pos (val (lu.drop nn)) with h2|h2
    ·rw[h2,Nat.mul_zero] at h1;exact h1.symm
    ·have:=Nat.mul_le_mul_left (bs ^ nn) h2;have:=HVP.out.2.2;have:=HR0.out;omega
   have hend:=Yr (x:=x) (y:=y) (f:=f) (L:=val lq) (R:=val lu) HY.out HS.out.f1 (by rw[Nat.pow_zero,Nat.one_mul,Nat.one_mul,<-hX.out,<-hV.out];exact HV.out) (by rw[<-hV.out];exact HR0.out);have HE:=q_h hend;clear hend;have hG:=hAp.gsN (N:=N) hNr (n:=nn) (c:=c') (by rw[HLU.out];omega) (by omega) Hcm'.out;have hGq:=hAq.gsN (N:=N) hNr (n:=K) (c:=K) HLQ.out rfl (by unfold maxLen;omega);have hncw:(nn:Int)<=(c':Int):=by omega
   go_wp2_with (go_at_call 188;refine q_o ?_);refine (QM hG (HDU.out.take _)).mono ?_;rintro e w' ⟨⟨k9,rfl,hG9⟩,rfl⟩;rw[HT.out] at hG9
   have hk9:(dg (val lu)).length<=1000000000000:=by
    have h1:=zJ (Nat.le_of_lt HR0.out);have h2:=HVL.out;unfold ln at *;omega
   go_wp2_with (go_at_call 189;refine q_o ?_);refine (q38 hG9 (qI _) hk9 fz hf1 hf2).mono ?_;rintro e w7 ⟨A7,m7,c7,rfl,g7,e7⟩;rw[qC,hfn.out] at g7 ⊢;rw[HE.out.2,<-hr.out] at g7
   generalize ((val lu % f:Nat):Int)=rr
   go_wp2_with (go_at_call 188;refine q_o ?_);refine (QM (hGq.ext e7) HDQ.out).mono ?_;rintro e w' ⟨⟨k10,rfl,hG10⟩,rfl⟩;rw[HE.out.1,<-hq.out] at hG10;go_wp2;go_ret2;exact⟨_,_,_,_,_,_,rfl,hG10,g7,(hF.ext e5 hgg1 hq3).trans e7⟩
  ·obtain⟨j,rfl⟩:∃j,k=j+1:=⟨k-1,by omega⟩
   rw[show (((j+1:Nat):Int)-1)=(j:Int) from by omega];obtain⟨z,hz⟩:=qc (val (lu.drop j))
   have HZR:Hid (z<V*bs):=by
    have h1:=xR (l:=lu) (k:=j) (by rw[HLU.out];omega);have h2:=HDU.out.get j;rw[zW (by rw[HLU.out];omega)] at h1;have h3:=Nat.mul_le_mul_left bs (show val (lu.drop (j+1))+1<=V from HR.out);rw[Nat.mul_add,Nat.mul_one,Nat.mul_comm bs V] at h3;rw[Hid,hz.out];omega
   obtain⟨p1,gp1,-,p1x,-,hp1⟩:=hAp.at_ (k:=j+nn) (by rw[HLU.out];omega);obtain⟨p0,gp0,-,p0x,-,hp0⟩:=hAp.at_ (k:=j+nn-1) (by rw[HLU.out];omega);obtain⟨pm,gpm,-,pmx,-,hpm⟩:=hAp.at_ (k:=j+nn-2) (by rw[HLU.out];omega);have p1y:p1<1000000000:=by have:=HDU.out.get (j+nn);unfold bs at this;have:=hp1.out;omega
   have p0y:p0<1000000000:=by have:=HDU.out.get (j+nn-1);unfold bs at this;have:=hp0.out;omega
   have pmy:pm<1000000000:=by have:=HDU.out.get (j+nn-2);unfold bs at this;have:=hpm.out;omega
   obtain⟨b1,o1,v1,hA1v,-,gv1,v1x,-,hv1⟩:=gVr.at_ (k:=nn-1) (by omega);injection hA1v with hA1v
   injection hA1v with eb eo
   subst eb eo;obtain⟨b1,o1,v2,hA1v,-,gv2,v2x,-,hv2⟩:=gVr.at_ (k:=nn-2) (by omega);injection hA1v with hA1v
   injection hA1v with eb eo
   subst eb eo;rw[Nat.zero_add] at gv1 gv2;have v1y:v1<1000000000:=by have:=(qI V).get (nn-1);unfold bs at this;have:=hv1.out;omega
   have v2y:v2<1000000000:=by have:=(qI V).get (nn-2);unfold bs at this;have:=hv2.out;omega
   have HV1:Hid (v1.toNat=V / bs ^ (nn-1)):=by
    have h1:=hv1.out;rw[YH,q1D (by rw[show nn-1+1=nn by omega];exact HVP.out.2.2)] at h1;unfold Hid;omega
   have HV2:Hid (V / bs ^ (nn-2)=v1.toNat*bs+v2.toNat):=by
    have h1:=JU V (nn-2);have h2:=hv2.out;rw[YH] at h2;rw[show nn-2+1=nn-1 by omega,<-HV1.out] at h1;rw[Hid,h1];omega
   have hv11:1<=v1:=by
    have h1:1<=V / bs ^ (nn-1):=(Nat.le_div_iff_mul_le (Nat.pow_pos qV)).2 (by rw[Nat.one_mul];exact HVP.out.2.1);rw[<-HV1.out] at h1;omega
   have HZB:Hid (z<bs ^ (nn+1)):=by
    rw[Hid,Nat.pow_succ];exact Nat.lt_of_lt_of_le HZR.out (Nat.mul_le_mul_right bs (Nat.le_of_lt HVP.out.2.2))
   have HTop:Hid (p1.toNat*bs+p0.toNat=z / bs ^ (nn-1)):=by
    have h1:=KP (z:=z) (m:=nn-1) (by rw[show nn-1+2=nn+1 by omega];exact HZB.out);have h2:=hp1.out;have h3:=hp0.out;rw[Jr HDU.out,<-hz.out] at h2;rw[show j+nn-1=j+(nn-1) by omega,Jr HDU.out,<-hz.out] at h3;rw[show nn-1+1=nn by omega] at h1;rw[Hid,<-h1];have e1:p1.toNat=z / bs ^ nn % bs:=by omega
    have e2:p0.toNat=z / bs ^ (nn-1) % bs:=by omega
    rw[e1,e2]
   have HThr:Hid (z / bs ^ (nn-2)=z / bs ^ (nn-1)*bs+pm.toNat):=by
    have h1:=JU z (nn-2);have h3:=hpm.out;rw[show j+nn-2=j+(nn-2) by omega,Jr HDU.out,<-hz.out] at h3;rw[show nn-2+1=nn-1 by omega] at h1;rw[Hid,h1];omega
   have HP1:Hid (p1=((lu[j+nn]?.getD 0:Nat):Int)):=hp1;obtain⟨T,hT⟩:=qc (p1*1000000000+p0);have T0:0<=T:=by rw[hT.out];omega
   have HTN:Hid (T.toNat=z / bs ^ (nn-1)):=by rw[Hid,<-HTop.out,hT.out];unfold bs;omega
   have HTB:Hid (T<(v1+1)*1000000000):=by
    have h1:=q2V (z:=z) (V:=V) (M:=bs ^ (nn-1)) (Nat.pow_pos qV) HZR.out;rw[<-HTN.out,<-HV1.out] at h1;unfold bs at h1;unfold Hid;omega
   have i1:IntKind.i64.wrap ((j:Int)+(nn:Int))=(j:Int)+(nn:Int):=IntWalk.i64_in _ (by omega);have i2:IntKind.i64.wrap ((j:Int)+(nn:Int)-1)=(j:Int)+(nn:Int)-1:=IntWalk.i64_in _ (by omega);have i3:((j:Int)+(nn:Int)-1).toNat=j+nn-1:=by omega
   have i4:(j:Int)+(nn:Int)-1<(K:Int)+(nn:Int):=by omega
   have i5:(0:Int)<=(j:Int)+(nn:Int)-1:=by omega
   have i6:IntKind.u64.wrap p1=p1:=IntWalk.u64_in _ (by omega);have i7:IntKind.u64.wrap (p1*1000000000)=p1*1000000000:=IntWalk.u64_in _ (by omega);have i8:IntKind.u64.wrap p0=p0:=IntWalk.u64_in _ (by omega);have i9:IntKind.u64.wrap (p1*1000000000+p0)=T:=(IntWalk.u64_in _ (by omega)).trans hT.out.symm;have hGu:=hAp.gsN (N:=N) hNr (n:=K+nn) (c:=c') (by rw[HLU.out];exact q_r) hcK Hcm'.out;rw[List.take_of_length_le (by rw[HLU.out];exact q_r)] at hGu;go_wp2
   go_quiet ((go_at_call 195;exact Calls.quiet_of_same (q8i (hGu.drewN _) (j+nn) (by omega) HP1.out)))
   clear i1 i2 i3 i4 i5 i6 i7 i8 i9 hGu;replace hAp:=hAp.drewN nq;replace hAq:=hAq.drewN nq;replace hF:=hF.drewN nq;replace gVr:=gVr.drewN nq;replace gp1:(wr.drewN nq).cell? _=_:=gp1;replace gp0:(wr.drewN nq).cell? _=_:=gp0;replace gpm:(wr.drewN nq).cell? _=_:=gpm;replace gv1:(wr.drewN nq).cell? _=_:=gv1;replace gv2:(wr.drewN nq).cell? _=_:=gv2
   generalize wr.drewN nq=wo at hAp hAq hF gVr gp1 gp0 gpm gv1 gv2 ⊢
   obtain⟨gz0,hgz0⟩:=qc (T / v1);obtain⟨rz0,hrz0⟩:=qc (T % v1);have g00:0<=gz0:=by rw[hgz0.out];exact Int.ediv_nonneg T0 (by omega)
   have g01:gz0<=2000000000:=by
    rw[hgz0.out];refine Int.le_of_lt_add_one (Int.ediv_lt_of_lt_mul (by omega) ?_);have h1:=HTB.out;have h2:(v1+1)*1000000000<=(2*v1)*1000000000:=Int.mul_le_mul_of_nonneg_right (by omega) (by omega);rw[Int.add_mul];omega
   have r00:0<=rz0:=by rw[hrz0.out];exact Int.emod_nonneg _ (by omega)
   have r01:rz0<v1:=by rw[hrz0.out];exact Int.emod_lt_of_pos _ (by omega)
   have HGT:Hid (gz0.toNat*(V / bs ^ (nn-1))+rz0.toNat=z / bs ^ (nn-1)):=by
    rw[Hid,<-HTN.out,<-HV1.out,<-Int.toNat_mul g00 (by omega)];have h1:=Int.mul_ediv_add_emod T v1;have h2:0<=gz0*v1:=Int.mul_nonneg g00 (by omega);rw[<-hgz0.out,<-hrz0.out,Int.mul_comm] at h1;omega
   have HGL:Hid (z / V<=gz0.toNat):=by
    have h1:=VC (z:=z) (V:=V) (M:=bs ^ (nn-1)) (Nat.pow_pos qV) (by rw[<-HV1.out];omega);rw[<-HTN.out,<-HV1.out] at h1
    have h2:gz0.toNat=T.toNat / v1.toNat:=by
     rw[hgz0.out];have:((T.toNat / v1.toNat:Nat):Int)=T / v1:=by rw[Int.natCast_ediv,Int.toNat_of_nonneg T0,Int.toNat_of_nonneg (by omega)]
     rw[<-this,Int.toNat_natCast]
    rw[Hid,h2];exact h1
   have i1:IntKind.i64.wrap ((nn:Int)-1)=(nn:Int)-1:=IntWalk.i64_in _ (by omega);have i3:((nn:Int)-1).toNat=nn-1:=by omega
   have i4:(nn:Int)-1<(nn:Int):=by omega
   have i5:(0:Int)<=(nn:Int)-1:=by omega
   have i6:IntKind.u64.wrap v1=v1:=IntWalk.u64_in _ (by omega);have i7:T.tdiv v1=gz0:=by rw[Int.tdiv_eq_ediv_of_nonneg T0];exact hgz0.out.symm
   have i8:T.tmod v1=rz0:=by rw[Int.tmod_eq_emod_of_nonneg T0];exact hrz0.out.symm
   have i9:IntKind.u64.wrap gz0=gz0:=IntWalk.u64_in _ (by omega);have i10:IntKind.u64.wrap rz0=rz0:=IntWalk.u64_in _ (by omega);have i11:¬v1=0:=by omega
   have i12:(v1 == 0)=false:=by simpa using i11
   have i13:T / v1=gz0:=hgz0.out.symm;have i14:T % v1=rz0:=hrz0.out.symm;have i15:(1:Int)<=(nn:Int):=by omega
   have i16:(0:Int)<(nn:Int):=by omega
   have i17:1<=nn:=by omega
   have i18:0<nn:=by omega
   have i19:¬nn=0:=by omega
   go_wp2
   go_quiet (fail)
   clear i1 i3 i4 i5 i6 i7 i8 i9 i10 i11 i12 i13 i14 i15 i16 i17 i18 i19;replace hAp:=hAp.drewN nq;replace hAq:=hAq.drewN nq;replace hF:=hF.drewN nq;replace gVr:=gVr.drewN nq;replace gp1:(wo.drewN nq).cell? _=_:=gp1;replace gp0:(wo.drewN nq).cell? _=_:=gp0;replace gpm:(wo.drewN nq).cell? _=_:=gpm;replace gv1:(wo.drewN nq).cell? _=_:=gv1;replace gv2:(wo.drewN nq).cell? _=_:=gv2
   generalize wo.drewN nq=wp at hAp hAq hF gVr gp1 gp0 gpm gv1 gv2 ⊢
   go_upto_block 2 with (fail)
   go_cut [12,13] (fun gs rs wx=>∃G:Int,gs=.int .u64 G/\0<=G/\G<1000000000/\Hid (z / V<=G.toNat)/\Hid (G.toNat<=z / V+1)/\Arp wx g' lu/\Arr wx gq lq/\Fr2 g' gq w4 wx)
   case rest =>
    clear gp1 gp0 gpm gv1 gv2 gVr hAp hAq hF HGT HGL g00 g01 r00 r01 hgz0 hrz0;obtain⟨G,rfl,G0,G1,HGX,HGY,hAp,hAq,hF⟩:=hcut;go_wp2
    go_loopw [14,15,137] (fun b c i wr=>MsRel w4 g' gq lu lq (dg V) j G.toNat nn b c i wr) (fun _ _ i _=>nn-(intOf i).toNat)
    case atStart=>exact⟨0,0,0,lu,Nat.zero_le _,rfl,rfl,rfl,by omega,by omega,by omega,by omega,hAp,MS.start HDU.out,hAq,hF⟩
    case round =>
     clear hAp hAq hF;obtain⟨i,bw,cy,l,hi,rfl,rfl,rfl,bw0,bw1,cy0,cy1,hAp,hMS,hAq,hF⟩:=hrel;have HMS:=q_h hMS;clear hMS;have gVr:=hF.gs gV (fun ad h=>by injection h with h;rw[<-h];exact⟨hgg2,fun e=>hq2 e.symm⟩);have HLl:Hid (l.length=K+nn):=HMS.out.1.trans HLU.out;have HDl:Hid (Dig l):=HMS.out.2.1
     by_cases hlt:i<nn
     ·obtain⟨b1,o1,vb,hA1v,-,gvb,_,-,hvb⟩:=gVr.at_ (k:=i) (by omega);injection hA1v with hA1v
      injection hA1v with eb eo
      subst eb eo;rw[Nat.zero_add] at gvb;obtain⟨ub,gub,fub,ub0,-,hub⟩:=hAp.at_ (k:=i+j) (by rw[HLl.out];omega);have vb0:0<=vb:=by have:=hvb.out;omega
      have vb1:vb<=999999999:=by have:=(qI V).get i;unfold bs at this;have:=hvb.out;omega
      have ub1:ub<1000000000:=by have:=HDl.out.get (i+j);unfold bs at this;have:=hub.out;omega
      obtain⟨pp,hpp⟩:=qc (G*vb);have pp0:0<=pp:=by rw[hpp.out];exact Int.mul_nonneg G0 vb0
      have pp1:pp<=999999999*999999999:=by rw[hpp.out];exact Int.mul_le_mul (by omega) vb1 vb0 (by omega)
      have epp:G*vb=pp:=hpp.out.symm
      by_cases hd:ub-bw-(pp+cy) % 1000000000<0
      ·have HMS2:Hid (MS lu (l.set (i+j) (ub-bw-(pp+cy) % 1000000000+1000000000).toNat) (dg V) j G.toNat (i+1) ((1:Int).toNat+((pp+cy) / 1000000000).toNat)):=by
        rw[Nat.add_comm i j];refine MS.step (bw:=bw.toNat) (cy:=cy.toNat) (pm:=((pp+cy) % 1000000000).toNat) HMS.out (by rw[HLl.out];omega) (by unfold bs;omega) ?_ ?_
        ·rw[show (dg V)[i]?.getD 0=vb.toNat from by have:=hvb.out;omega,<-Int.toNat_mul (by omega) (by omega),<-hpp.out];unfold bs;omega
        ·rw[show l[j+i]?.getD 0=ub.toNat from by have:=hub.out;rw[Nat.add_comm i j] at this;omega];unfold bs;omega
       go_wp2;refine⟨⟨i+1,1,(pp+cy) / 1000000000,l.set (i+j) (ub-bw-(pp+cy) % 1000000000+1000000000).toNat,by omega,by go_num,rfl,rfl,by omega,by omega,by omega,by omega,hAp.set _ (by omega) (by omega),HMS2.out,hAq.farg hq1 _,hF.setg _ _⟩,by simp[intOf];omega⟩
      ·have HMS2:Hid (MS lu (l.set (i+j) (ub-bw-(pp+cy) % 1000000000).toNat) (dg V) j G.toNat (i+1) ((0:Int).toNat+((pp+cy) / 1000000000).toNat)):=by
        rw[Nat.add_comm i j];refine MS.step (bw:=bw.toNat) (cy:=cy.toNat) (pm:=((pp+cy) % 1000000000).toNat) HMS.out (by rw[HLl.out];omega) (by unfold bs;omega) ?_ ?_
        ·rw[show (dg V)[i]?.getD 0=vb.toNat from by have:=hvb.out;omega,<-Int.toNat_mul (by omega) (by omega),<-hpp.out];unfold bs;omega
        ·rw[show l[j+i]?.getD 0=ub.toNat from by have:=hub.out;rw[Nat.add_comm i j] at this;omega];unfold bs;omega
       go_wp2;refine⟨⟨i+1,0,(pp+cy) / 1000000000,l.set (i+j) (ub-bw-(pp+cy) % 1000000000).toNat,by omega,by go_num,rfl,rfl,by omega,by omega,by omega,by omega,hAp.set _ (by omega) (by omega),HMS2.out,hAq.farg hq1 _,hF.setg _ _⟩,by simp[intOf];omega⟩
     ·obtain rfl:nn=i:=by omega
      obtain⟨ub,gub,fub,ub0,-,hub⟩:=hAp.at_ (k:=j+nn) (by rw[HLl.out];omega);have ub1:ub<1000000000:=by have:=HDl.out.get (j+nn);unfold bs at this;have:=hub.out;omega
      by_cases hd:ub-bw-cy<0
      ·obtain⟨l1,hl1⟩:=qc (l.set (j+nn) (ub-bw-cy+1000000000).toNat)
       have HM1:Hid (MS lu l1 (dg V) j G.toNat (nn+1) 1):=by
        rw[hl1.out];refine MS.top HMS.out hl4.out (by rw[HLl.out];omega) (by unfold bs;omega) ?_;rw[show l[j+nn]?.getD 0=ub.toNat from by have:=hub.out;omega];unfold bs;omega
       have HG1:Hid (1<=G):=by
        have h1:=HM1.out;obtain⟨q1,q2,q3,q4,q5⟩:=h1;have a1:=QB q2 q1 q4 (Nat.lt_of_lt_of_le HR.out (Nat.le_of_lt HVP.out.2.2)) (by rw[HLU.out];omega);rw[qG (by have:=hl4.out;omega),qC] at q5;have b1:=wO (n:=nn+1) (t:=1) q1 q3 (by rw[HLU.out];omega) q5
        rcases Int.lt_or_le G 1 with h9|h9
        ·exfalso
         have h10:G.toNat=0:=by omega
         rw[h10,Nat.zero_mul] at b1;omega
        ·exact h9
       have G2:1<=G:=HG1.out;clear HG1;go_wp2
       go_loopw [20,201] (fun c i wr=>AbRel w4 g' gq l1 lq (dg V) j nn c i wr) (fun _ i _=>nn-(intOf i).toNat)
       case atStart=>exact⟨0,0,l1,Nat.zero_le _,rfl,rfl,by omega,by omega,by rw[hl1.out];exact hAp.set _ (by omega) (by omega),AB.start HM1.out.2.1,hAq.farg hq1 _,hF.setg _ _⟩
       case round =>
        clear gVr hAp hAq hF gub fub HMS HLl HDl hub ub0 ub1 hd bw0 bw1 cy0 cy1 hl1;obtain⟨i,cz,l,hi,rfl,rfl,cz0,cz1,hAp,hAB,hAq,hF⟩:=hrel;have HAB:=q_h hAB;clear hAB;have gVr:=hF.gs gV (fun ad h=>by injection h with h;rw[<-h];exact⟨hgg2,fun e=>hq2 e.symm⟩);have HLl:Hid (l.length=K+nn):=HAB.out.1.trans (HM1.out.1.trans HLU.out);have HDl:Hid (Dig l):=HAB.out.2.1
        by_cases hlt:i<nn
        ·obtain⟨b1,o1,vb,hA1v,-,gvb,_,-,hvb⟩:=gVr.at_ (k:=i) (by omega);injection hA1v with hA1v
         injection hA1v with eb eo
         subst eb eo;rw[Nat.zero_add] at gvb;obtain⟨ub,gub,fub,ub0,-,hub⟩:=hAp.at_ (k:=i+j) (by rw[HLl.out];omega);have vb0:0<=vb:=by have:=hvb.out;omega
         have vb1:vb<=999999999:=by have:=(qI V).get i;unfold bs at this;have:=hvb.out;omega
         have ub1:ub<1000000000:=by have:=HDl.out.get (i+j);unfold bs at this;have:=hub.out;omega
         have i1:IntKind.i64.wrap ((i:Int)+(j:Int))=(i:Int)+(j:Int):=IntWalk.i64_in _ (by omega);have i2:(i:Int)+(j:Int)<(K:Int)+(nn:Int):=by omega
         have i3:(i:Int)<(nn:Int):=by omega
         have i4:IntKind.u32.wrap (ub+vb)=ub+vb:=IntWalk.u32_in _ (by omega);have i5:IntKind.u32.wrap (ub+vb+cz)=ub+vb+cz:=IntWalk.u32_in _ (by omega);have i6:((i:Int)+(j:Int)).toNat=i+j:=by omega
         have i7:(0:Int)<=(i:Int)+(j:Int):=by omega
         go_wp2
         go_quiet (fail)
         clear i1 i2 i3 i4 i5 i6 i7;replace hAp:=hAp.drewN nq;replace hAq:=hAq.drewN nq;replace hF:=hF.drewN nq;replace gub:(wr.drewN nq).cell? _=_:=gub;replace fub:(wr.drewN nq).frozen? _=_:=fub
         generalize wr.drewN nq=wz at hAp hAq hF gub fub ⊢
         by_cases hs:ub+vb+cz<1000000000
         ·have HAB2:Hid (AB l1 (l.set (i+j) (ub+vb+cz).toNat) (dg V) j (i+1) (0:Int).toNat):=by
           rw[Nat.add_comm i j];refine AB.step HAB.out (by rw[HLl.out];omega) (by unfold bs;omega) ?_;rw[show (dg V)[i]?.getD 0=vb.toNat from by have:=hvb.out;omega,show l[j+i]?.getD 0=ub.toNat from by have:=hub.out;rw[Nat.add_comm i j] at this;omega];unfold bs;omega
          go_wp2;refine⟨⟨i+1,0,l.set (i+j) (ub+vb+cz).toNat,by omega,by go_num,rfl,by omega,by omega,hAp.set _ (by omega) (by omega),HAB2.out,hAq.farg hq1 _,hF.setg _ _⟩,by simp[intOf];omega⟩
         ·have HAB2:Hid (AB l1 (l.set (i+j) (ub+vb+cz-1000000000).toNat) (dg V) j (i+1) (1:Int).toNat):=by
           rw[Nat.add_comm i j];refine AB.step HAB.out (by rw[HLl.out];omega) (by unfold bs;omega) ?_;rw[show (dg V)[i]?.getD 0=vb.toNat from by have:=hvb.out;omega,show l[j+i]?.getD 0=ub.toNat from by have:=hub.out;rw[Nat.add_comm i j] at this;omega];unfold bs;omega
          go_wp2;refine⟨⟨i+1,1,l.set (i+j) (ub+vb+cz-1000000000).toNat,by omega,by go_num,rfl,by omega,by omega,hAp.set _ (by omega) (by omega),HAB2.out,hAq.farg hq1 _,hF.setg _ _⟩,by simp[intOf];omega⟩
        ·obtain rfl:nn=i:=by omega
         obtain⟨ub,gub,fub,ub0,-,hub⟩:=hAp.at_ (k:=j+nn) (by rw[HLl.out];omega);have ub1:ub<1000000000:=by have:=HDl.out.get (j+nn);unfold bs at this;have:=hub.out;omega
         obtain⟨lf,hlf⟩:=qc (l.set (j+nn) ((ub+cz) % 1000000000).toNat)
         have HAT:Hid (AB l1 lf (dg V) j (nn+1) ((ub+cz) / 1000000000).toNat):=by
          rw[hlf.out];refine AB.top HAB.out hl4.out (by rw[HLl.out];omega) (by unfold bs;omega) ?_;rw[show l[j+nn]?.getD 0=ub.toNat from by have:=hub.out;omega];unfold bs;omega
         have HKB:=q14 HM1.out HAT.out hl4.out (qC V) hz.out.symm (by rw[HLU.out];omega) HR.out (Nat.le_of_lt HVP.out.2.2) HVP.out.1 HGY.out (by omega)
         have HFin:Hid (val (lf.drop j)<V/\val lu=val lf+bs ^ j*((G-1).toNat*V)):=by
          rw[Hid,show (G-1).toNat=G.toNat-1 by omega];exact HKB.2
         clear HKB;have HLf:Hid (lf.length=K+nn):=HAT.out.1.trans (HM1.out.1.trans HLU.out);have HDf:Hid (Dig lf):=HAT.out.2.1
         have HQN:Hid (V*val (lq.set j (G-1).toNat)+val lf=X):=by
          have h3:=kG (l:=lq) (k:=j) (by rw[HLQ.out];omega) (G-1).toNat;rw[HZ.out j (by omega)] at h3;exact WW h3 HFin.out.2 HV.out
         have HDQn:Hid (Dig (lq.set j (G-1).toNat)):=HDQ.out.set _ _ (by unfold bs;omega);obtain⟨oz,gz3,fz3,-,-,-⟩:=hAq.at_ (k:=j) (by rw[HLQ.out];omega);go_wp2
         have HZn:Hid (∀t,t<j->(lq.set j (G-1).toNat)[t]?.getD 0=0):=fun t ht=>by
          rw[zL (by omega)];exact HZ.out t (by omega)
         go_roundw
         case rel =>
          exact⟨j,lf,lq.set j (G-1).toNat,by omega,rfl,Arp.farg (by rw[hlf.out];exact hAp.set _ (by omega) (by omega)) (fun e=>hq1 e.symm) _,HLf.out,HDf.out,Arr.set (hAq.farg hq1 _) _ (by omega) (by omega),by rw[List.length_set];exact HLQ.out,HDQn.out,HQN.out,HFin.out.1,HZn.out,Fr2.setq (hF.setg _ _) _ _⟩
         case measure=>simp[intOf]
      ·obtain⟨lf,hlf⟩:=qc (l.set (j+nn) (ub-bw-cy).toNat)
       have HMT:Hid (MS lu lf (dg V) j G.toNat (nn+1) 0):=by
        rw[hlf.out];refine MS.top HMS.out hl4.out (by rw[HLl.out];omega) (by unfold bs;omega) ?_;rw[show l[j+nn]?.getD 0=ub.toNat from by have:=hub.out;omega];omega
       have HFin:Hid (val (lf.drop j)<V/\val lu=val lf+bs ^ j*(G.toNat*V)):=VB HMT.out hl4.out (qC V) hz.out.symm (by rw[HLU.out];omega) HVP.out.1 HGX.out;have HLf:Hid (lf.length=K+nn):=HMT.out.1.trans HLU.out;have HDf:Hid (Dig lf):=HMT.out.2.1
       have HQN:Hid (V*val (lq.set j (G).toNat)+val lf=X):=by
        have h3:=kG (l:=lq) (k:=j) (by rw[HLQ.out];omega) (G).toNat;rw[HZ.out j (by omega)] at h3;exact WW h3 HFin.out.2 HV.out
       have HDQn:Hid (Dig (lq.set j (G).toNat)):=HDQ.out.set _ _ (by unfold bs;omega);obtain⟨oz,gz3,fz3,-,-,-⟩:=hAq.at_ (k:=j) (by rw[HLQ.out];omega);go_wp2
       have HZn:Hid (∀t,t<j->(lq.set j (G).toNat)[t]?.getD 0=0):=fun t ht=>by
        rw[zL (by omega)];exact HZ.out t (by omega)
       go_roundw
       case rel =>
        exact⟨j,lf,lq.set j (G).toNat,by omega,rfl,Arp.farg (by rw[hlf.out];exact hAp.set _ (by omega) (by omega)) (fun e=>hq1 e.symm) _,HLf.out,HDf.out,Arr.set (hAq.farg hq1 _) _ (by omega) (by omega),by rw[List.length_set];exact HLQ.out,HDQn.out,HQN.out,HFin.out.1,HZn.out,Fr2.setq (hF.setg _ _) _ _⟩
       case measure=>simp[intOf]
   case first =>
    go_wp2_with fail
    go_loopw [12,13] (fun gs rs wr=>q5Z w4 g' gq lu lq z V nn gs rs wr) (fun gs _ _=>(intOf gs).toNat)
    case atStart=>exact⟨gz0,rz0,rfl,rfl,g00,g01,r00,by omega,HGT.out,HGL.out,hAp,hAq,hF⟩
    case round =>
     clear gp1 gp0 gpm gv1 gv2 gVr hAp hAq hF HGT HGL g00 g01 r00 r01 hgz0 hrz0;obtain⟨gz,rz,rfl,rfl,g00,g01,r00,r01,hgt,hgl,hAp,hAq,hF⟩:=hrel;have HGT:=q_h hgt;have HGL:=q_h hgl;clear hgt hgl;have gVr:=hF.gs gV (fun ad h=>by injection h with h;rw[<-h];exact⟨hgg2,fun e=>hq2 e.symm⟩);obtain⟨p1',gp1,-,-,-,hp1'⟩:=hAp.at_ (k:=j+nn) (by rw[HLU.out];omega);obtain rfl:p1=p1':=hp1.out.trans hp1'.out.symm;obtain⟨p0',gp0,-,-,-,hp0'⟩:=hAp.at_ (k:=j+nn-1) (by rw[HLU.out];omega);obtain rfl:p0=p0':=hp0.out.trans hp0'.out.symm;obtain⟨pm',gpm,-,-,-,hpm'⟩:=hAp.at_ (k:=j+nn-2) (by rw[HLU.out];omega);obtain rfl:pm=pm':=hpm.out.trans hpm'.out.symm;obtain⟨b1,o1,v1',hA1v,-,gv1,_,-,hv1'⟩:=gVr.at_ (k:=nn-1) (by omega);injection hA1v with hA1v
     injection hA1v with eb eo
     subst eb eo;rw[Nat.zero_add] at gv1;obtain rfl:v1=v1':=hv1.out.trans hv1'.out.symm;obtain⟨b1,o1,v2',hA1v,-,gv2,_,-,hv2'⟩:=gVr.at_ (k:=nn-2) (by omega);injection hA1v with hA1v
     injection hA1v with eb eo
     subst eb eo;rw[Nat.zero_add] at gv2;obtain rfl:v2=v2':=hv2.out.trans hv2'.out.symm;clear hp1' hp0' hpm' hv1' hv2'
     by_cases hge:1000000000<=gz
     ·have d1:decide (1000000000<=gz)=true:=by simpa using hge
      have HDN:Hid (z / V<=gz.toNat-1):=Xi (v1:=v1.toNat) (v2:=v2.toNat) (u2:=pm.toNat) (r:=rz.toNat) HVP.out.1 HZR.out HV2.out HThr.out (by rw[HV1.out];exact HGT.out) (.inl (by unfold bs;omega));have gz1:1<=gz:=by omega
      go_wp2
      go_quiet (fail)
      clear d1;replace hAp:=hAp.drewN nq;replace hAq:=hAq.drewN nq;replace hF:=hF.drewN nq;replace gVr:=gVr.drewN nq;replace gp1:(wr.drewN nq).cell? _=_:=gp1;replace gp0:(wr.drewN nq).cell? _=_:=gp0;replace gpm:(wr.drewN nq).cell? _=_:=gpm;replace gv1:(wr.drewN nq).cell? _=_:=gv1;replace gv2:(wr.drewN nq).cell? _=_:=gv2
      generalize wr.drewN nq=wo2 at hAp hAq hF gVr gp1 gp0 gpm gv1 gv2 ⊢
      obtain⟨G,hG⟩:=qc (gz-1);have eG:gz-1=G:=hG.out.symm
      have HGT2:Hid (G.toNat*(V / bs ^ (nn-1))+(rz+v1).toNat=z / bs ^ (nn-1)):=by
       have h1:=HGT.out;have h2:=hG.out;rw[show gz.toNat=G.toNat+1 by omega,Nat.add_mul,Nat.one_mul,<-HV1.out] at h1;rw[Hid,<-HV1.out];omega
      have HGX:Hid (z / V<=G.toNat):=by have:=HDN.out;have:=hG.out;unfold Hid;omega
      have G0:0<=G:=by have:=hG.out;omega
      by_cases hbr:1000000000<=rz+v1
      ·have HKB:=YD (g:=G.toNat) (r:=(rz+v1).toNat) (v1:=v1.toNat) (v2:=v2.toNat) (u2:=pm.toNat) (T:=T.toNat) (by rw[HV1.out,HTN.out];exact HGT2.out) (by have:=HTB.out;unfold bs;omega) (by unfold bs;omega) (by unfold bs;omega);have G1:G<1000000000:=by have:=HKB.1;unfold bs at this;omega
       have HGY:Hid (G.toNat<=z / V+1):=Jg (v1:=v1.toNat) (v2:=v2.toNat) (u2:=pm.toNat) (r:=(rz+v1).toNat) HVP.out.1 HV2.out HThr.out (by rw[HV1.out];exact HGT2.out) (by omega) HKB.1 HKB.2;clear HKB;go_wp2_with fail
       go_meet
       exact⟨G,rfl,G0,G1,HGX,HGY,hAp,hAq,hF⟩
      ·go_wp2_with fail;go_roundw
       case rel=>exact⟨G,rz+v1,rfl,rfl,G0,by omega,by omega,by omega,HGT2.out,HGX.out,hAp,hAq,hF⟩
       case measure=>simp[intOf];omega
     ·obtain⟨mu,hmu⟩:=qc (gz*v2);have mu0:0<=mu:=by rw[hmu.out];exact Int.mul_nonneg g00 v2x
      have mu1:mu<=999999999*999999999:=by rw[hmu.out];exact Int.mul_le_mul (by omega) (by omega) v2x (by omega)
      have d1:decide (1000000000<=gz)=false:=by simpa using hge
      have i1:IntKind.i64.wrap ((nn:Int)-2)=(nn:Int)-2:=IntWalk.i64_in _ (by omega);have i2:IntKind.i64.wrap ((j:Int)+(nn:Int))=(j:Int)+(nn:Int):=IntWalk.i64_in _ (by omega);have i3:((nn:Int)-2).toNat=nn-2:=by omega
      have i4:(nn:Int)-2<(nn:Int):=by omega
      have i5:(0:Int)<=(nn:Int)-2:=by omega
      have i6:IntKind.u64.wrap v2=v2:=IntWalk.u64_in _ (by omega);have i7:gz*v2=mu:=hmu.out.symm;have i8:IntKind.u64.wrap mu=mu:=IntWalk.u64_in _ (by omega);have i9:IntKind.u64.wrap (rz*1000000000)=rz*1000000000:=IntWalk.u64_in _ (by omega);have i10:IntKind.u64.wrap pm=pm:=IntWalk.u64_in _ (by omega);have i11:IntKind.u64.wrap (rz*1000000000+pm)=rz*1000000000+pm:=IntWalk.u64_in _ (by omega);have i12:IntKind.i64.wrap ((j:Int)+(nn:Int)-2)=(j:Int)+(nn:Int)-2:=IntWalk.i64_in _ (by omega);have i13:((j:Int)+(nn:Int)-2).toNat=j+nn-2:=by omega
      have i14:(j:Int)+(nn:Int)-2<(K:Int)+(nn:Int):=by omega
      have i15:(0:Int)<=(j:Int)+(nn:Int)-2:=by omega
      have i16:(2:Int)<=(nn:Int):=by omega
      have i17:2<=(j:Int)+(nn:Int):=by omega
      by_cases hgt:rz*1000000000+pm<mu
      ·have d2:decide (rz*1000000000+pm<mu)=true:=by simpa using hgt
       have HDN:Hid (z / V<=gz.toNat-1):=by
        refine Xi (v1:=v1.toNat) (v2:=v2.toNat) (u2:=pm.toNat) (r:=rz.toNat) HVP.out.1 HZR.out HV2.out HThr.out (by rw[HV1.out];exact HGT.out) (.inr ?_);rw[<-Int.toNat_mul g00 v2x,<-hmu.out];unfold bs;omega
       have gz1:1<=gz:=by
        rcases Int.lt_or_le gz 1 with h9|h9
        ·exfalso
         have h10:gz=0:=by omega
         have:=hmu.out;rw[h10,Int.zero_mul] at this;omega
        ·exact h9
       go_wp2
       go_quiet (fail)
       clear i1 i2 i3 i4 i5 i6 i8 i9 i10 i11 i12 i13 i14 i15 i16 i17 d1 d2 i7;replace hAp:=hAp.drewN nq;replace hAq:=hAq.drewN nq;replace hF:=hF.drewN nq;replace gVr:=gVr.drewN nq;replace gp1:(wr.drewN nq).cell? _=_:=gp1;replace gp0:(wr.drewN nq).cell? _=_:=gp0;replace gpm:(wr.drewN nq).cell? _=_:=gpm;replace gv1:(wr.drewN nq).cell? _=_:=gv1;replace gv2:(wr.drewN nq).cell? _=_:=gv2
       generalize wr.drewN nq=wo2 at hAp hAq hF gVr gp1 gp0 gpm gv1 gv2 ⊢
       obtain⟨G,hG⟩:=qc (gz-1);have eG:gz-1=G:=hG.out.symm
       have HGT2:Hid (G.toNat*(V / bs ^ (nn-1))+(rz+v1).toNat=z / bs ^ (nn-1)):=by
        have h1:=HGT.out;have h2:=hG.out;rw[show gz.toNat=G.toNat+1 by omega,Nat.add_mul,Nat.one_mul,<-HV1.out] at h1;rw[Hid,<-HV1.out];omega
       have HGX:Hid (z / V<=G.toNat):=by have:=HDN.out;have:=hG.out;unfold Hid;omega
       have G0:0<=G:=by have:=hG.out;omega
       by_cases hbr:1000000000<=rz+v1
       ·have HKB:=YD (g:=G.toNat) (r:=(rz+v1).toNat) (v1:=v1.toNat) (v2:=v2.toNat) (u2:=pm.toNat) (T:=T.toNat) (by rw[HV1.out,HTN.out];exact HGT2.out) (by have:=HTB.out;unfold bs;omega) (by unfold bs;omega) (by unfold bs;omega);have G1:G<1000000000:=by have:=HKB.1;unfold bs at this;omega
        have HGY:Hid (G.toNat<=z / V+1):=Jg (v1:=v1.toNat) (v2:=v2.toNat) (u2:=pm.toNat) (r:=(rz+v1).toNat) HVP.out.1 HV2.out HThr.out (by rw[HV1.out];exact HGT2.out) (by omega) HKB.1 HKB.2;clear HKB;go_wp2_with fail
        go_meet
        exact⟨G,rfl,G0,G1,HGX,HGY,hAp,hAq,hF⟩
       ·go_wp2_with fail;go_roundw
        case rel=>exact⟨G,rz+v1,rfl,rfl,G0,by omega,by omega,by omega,HGT2.out,HGX.out,hAp,hAq,hF⟩
        case measure=>simp[intOf];omega
      ·have d2:decide (rz*1000000000+pm<mu)=false:=by simpa using hgt
       go_wp2
       go_quiet (fail)
       clear i1 i2 i3 i4 i5 i6 i8 i9 i10 i11 i12 i13 i14 i15 i16 i17 d1 d2 i7;replace hAp:=hAp.drewN nq;replace hAq:=hAq.drewN nq;replace hF:=hF.drewN nq;replace gVr:=gVr.drewN nq;replace gp1:(wr.drewN nq).cell? _=_:=gp1;replace gp0:(wr.drewN nq).cell? _=_:=gp0;replace gpm:(wr.drewN nq).cell? _=_:=gpm;replace gv1:(wr.drewN nq).cell? _=_:=gv1;replace gv2:(wr.drewN nq).cell? _=_:=gv2
       generalize wr.drewN nq=wo2 at hAp hAq hF gVr gp1 gp0 gpm gv1 gv2 ⊢
       have HGY:Hid (gz.toNat<=z / V+1):=by
        refine Jg (v1:=v1.toNat) (v2:=v2.toNat) (u2:=pm.toNat) (r:=rz.toNat) HVP.out.1 HV2.out HThr.out (by rw[HV1.out];exact HGT.out) (by omega) (by unfold bs;omega) ?_;rw[<-Int.toNat_mul g00 v2x,<-hmu.out];unfold bs;omega
       go_wp2_with fail
       go_meet
       exact⟨gz,rfl,g00,by omega,HGL,HGY,hAp,hAq,hF⟩
end Go.Proofs.YtflhlobiipejeaaGreat
