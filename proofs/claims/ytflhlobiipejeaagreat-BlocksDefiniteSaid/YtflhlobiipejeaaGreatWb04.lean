import Derived.Test.YtflhlobiipejeaaGreatWb03
set_option linter.all false
set_option maxHeartbeats 8000000
namespace Go.Proofs.YtflhlobiipejeaaGreat
open Go.RowKit
variable {w:World} {N i:Nat} {v:Value} {l:List Nat}
def q6A (W:World) (g:Nat) (a b:List Nat) (i:Value) (wr:World):Prop :=
 ∃(k:Nat) (l:List Nat),k<=a.length/\i=.int .i64 k/\Arr wr g l/\l.length=a.length+b.length/\Dig l/\val l=val (a.take k)*val b/\(∀t,k+b.length<=t->l[t]?.getD 0=0)/\Ext W wr
def q9p (W:World) (g:Nat) (a b:List Nat) (k:Nat) (c j:Value) (wr:World):Prop :=
 ∃(jj:Nat) (cz:Int) (l:List Nat),jj<=b.length/\j=.int .i64 jj/\c=.int .u64 cz/\0<=cz/\cz<=999999999/\Arr wr g l/\l.length=a.length+b.length/\Dig l /\
  val l+bs ^ (k+jj)*cz.toNat=val (a.take k)*val b+bs ^ k*(a[k]?.getD 0*val (b.take jj))/\(∀t,k+b.length<=t->l[t]?.getD 0=0)/\Ext W wr
theorem getD_set_ne{t x:Nat}(h:i≠t):(l.set i x)[t]?.getD 0=l[t]?.getD 0:=by rw[List.getElem?_set_ne h]
theorem WR {x y:Int}:x*y=if (decide (x<0) != decide (y<0))=true then -((x.natAbs*y.natAbs:Nat):Int) else ((x.natAbs*y.natAbs:Nat):Int):=by
 rw[<-Int.natAbs_mul]
 by_cases h1:x<0<;>by_cases h2:y<0
 ·have:=Int.mul_nonneg_of_nonpos_of_nonpos (Int.le_of_lt h1) (Int.le_of_lt h2);simp[h1,h2];omega
 ·have:=Int.mul_nonpos_of_nonpos_of_nonneg (Int.le_of_lt h1) (Int.not_lt.1 h2);simp[h1,h2];omega
 ·have:=Int.mul_nonpos_of_nonneg_of_nonpos (Int.not_lt.1 h1) (Int.le_of_lt h2);simp[h1,h2];omega
 ·have:=Int.mul_nonneg (Int.not_lt.1 h1) (Int.not_lt.1 h2);simp[h1,h2];omega
theorem QJ{v':Value}{x y:Int}(h:zy N w v x) (h':zy N w v' y) (hL:ln x.natAbs<=500000000000) (hL':ln y.natAbs<=500000000000) :
  Calls Tryz.prog 29 #[v,v'] w (Kr N w (x*y)):=by
 obtain⟨z,hz⟩:=qc (x*y);rw[<-hz.out];have hI:=h;have hI':=h';obtain⟨s,rfl,hs⟩:=h;obtain⟨s',rfl,hs'⟩:=h';have hN:=hs.le;obtain⟨A1,k1,c1,rfl,hlen,-,-⟩:=hs.form;obtain⟨A2,k2,c2,rfl,hlen',-,-⟩:=hs'.form
 generalize hneg:decide (x<0)=n1 at *
 generalize hneg':decide (y<0)=n2 at *
 have Hn1:=q_h hneg;have Hn2:=q_h hneg';clear hneg hneg';have HL:=q_h hL;have HL':=q_h hL';clear hL hL';go_enter Tryz.func29,Tryz.ntmps29;go_wp2;refine xX ?_;intro W hE hsz B0 B1 B2;obtain⟨a0,a1,a2,a3⟩:=cells2 B0;obtain⟨b0,b1,b2,b3⟩:=cells2 B1
 go_cut [] (fun wx=>∃A1 k1 c1 A2 k2 c2,Ext w wx/\w.heap.size+3<=wx.heap.size/\wx.heap[w.heap.size]?=some (.cells #[.bool n1,.slice A1 k1 c1] 33 (0,0))/\wx.heap[w.heap.size+1]?=some (.cells #[.bool n2,.slice A2 k2 c2] 33 (0,0))/\wx.heap[w.heap.size+1+1]?=some (.cells #[.bool false,.slice none 0 0] 33 (0,0))/\Gs N wx (.slice A1 k1 c1) (dg x.natAbs)/\Gs N wx (.slice A2 k2 c2) (dg y.natAbs))
 case first =>
  go_region_with (first
   | (go_at_call 71;refine (xm (by exact hI.ext hE.drew) (by have:=HL.out;omega)).mono ?_;rintro e w1 ⟨v1,rfl,⟨s1,rfl,hv1⟩,e1⟩;obtain⟨A1,k1,c1,rfl,hl1,-,-⟩:=hv1.form;rw[Hn1.out];obtain⟨p0,p1,p2,p3⟩:=cells2 (e1.block B0);obtain⟨q0,q1,q2,q3⟩:=cells2 (e1.block B1))
   | (go_at_call 71;refine (xm (by exact hI'.ext (hE.drew.trans e1)) (by have:=HL'.out;omega)).mono ?_;rintro e w2 ⟨v2,rfl,⟨s2,rfl,hv2⟩,e2⟩;obtain⟨A2,k2,c2,rfl,hl2,-,-⟩:=hv2.form;rw[Hn2.out];have B0':=e2.block (e1.block B0);have B1':=e2.block (e1.block B1);obtain⟨p0,p1,p2,p3⟩:=cells2 B0';obtain⟨q0,q1,q2,q3⟩:=cells2 B1'))
  all_goals
   go_wp2_with fail
   go_meet
   obtain⟨w3,E3,C0,U⟩:=ex2 B0' (.bool n1) (.slice A1 k1 c1);rw[E3];obtain⟨w4,E4,C1,U'⟩:=ex2 (U.blk B1' (by omega)) (.bool n2) (.slice A2 k2 c2);rw[E4];have hE2:Ext w w2:=(hE.drew.trans e1).trans e2;have hE4:Ext w w4:=U'.ext (U.ext hE2 (q_r)) (by omega);refine⟨A1,k1,c1,A2,k2,c2,hE4,?_,U'.blk C0 (by omega),C1,U'.blk (U.blk (e2.block (e1.block B2)) (by omega)) (by omega),?_,?_⟩
   ·rw[U'.size,U.size];have h1:=e2.size;have h2:=e1.size;simp at h2;omega
   ·exact ((hv1.ext e2).upd U (by omega) (NoU.mk B0' (by decide))).upd U' (by omega) (NoU.mk (U.blk B1' (by omega)) (by decide))
   ·exact (hv2.upd U (by omega) (NoU.mk B0' (by decide))).upd U' (by omega) (NoU.mk (U.blk B1' (by omega)) (by decide))
 case rest =>
  obtain⟨A1,k1,c1,A2,k2,c2,hE,hsz,B0,B1,B2,g1,g2⟩:=hcut;obtain⟨a0,a1,a2,a3⟩:=cells2 B0;obtain⟨b0,b1,b2,b3⟩:=cells2 B1;clear hlen hlen';obtain⟨a,ha⟩:=qc (dg x.natAbs);obtain⟨b,hb⟩:=qc (dg y.natAbs);rw[<-ha.out] at g1;rw[<-hb.out] at g2;have hla:Hid (a.length=k1):=by obtain⟨A',n',c',hv,hl',-,-⟩:=g1.form;cases hv;exact hl'
  have hlb:Hid (b.length=k2):=by obtain⟨A',n',c',hv,hl',-,-⟩:=g2.form;cases hv;exact hl'
  have k1b:k1<=500000000000:=by rw[<-hla.out,ha.out];exact HL.out
  have k2b:k2<=500000000000:=by rw[<-hlb.out,hb.out];exact HL'.out
  have HDa:Hid (Dig a):=by rw[Hid,ha.out];exact qI _
  have HDb:Hid (Dig b):=by rw[Hid,hb.out];exact qI _
  go_wp2_with (at_make;refine q_o ?_);refine zf rfl (.tmp 20) (.tmp 20) rfl .i64 .i64 _ _ (k1+k2) rfl rfl (by omega) (by omega) (by omega) ?_;intro w5 hA e5;obtain⟨n,hn⟩:=qc (k1+k2);rw[<-hn.out] at hA ⊢;obtain⟨g,hg⟩:=qc wc.heap.size;rw[<-hg.out] at hA ⊢;go_wp2
  go_loopw [6] (fun i wr=>q6A wc g a b i wr) (fun i _=>k1-(intOf i).toNat)
  case atStart=>exact⟨0,_,Nat.zero_le _,rfl,hA,by rw[List.length_replicate,hn.out,hla.out,hlb.out],Dig.replicate _,by simp[zt,val],fun t _=>by rw[List.getElem?_replicate];split<;>rfl,e5⟩
  case round =>
   obtain⟨k,l,hk,rfl,hA2,hll,hDl,hv,hzero,e6⟩:=hrel;obtain⟨wo,rfl⟩:∃wo,wo=wr:=⟨_,rfl⟩
   rw[hla.out] at hk;have C0:=e6.block B0;have C1:=e6.block B1;obtain⟨d0,d1,d2,d3⟩:=cells2 C0;obtain⟨f0,f1,f2,f3⟩:=cells2 C1;have HV:=q_h hv;have HZ:=q_h hzero;have HLL:=q_h hll;clear hv hzero hll
   by_cases hlt:k<k1
   ·go_wp2
    go_loopw [7,8] (fun c j wr=>q9p wc g a b k c j wr) (fun _ j _=>k2-(intOf j).toNat)
    case atStart=>exact⟨0,0,l,Nat.zero_le _,rfl,rfl,by omega,by omega,hA2,HLL.out,hDl,by simp[val,HV.out],HZ.out,e6⟩
    case round =>
     obtain⟨jj,cz,l2,hj,rfl,rfl,cz0,cz1,hA3,hll3,hDl3,hv3,hz3,e7⟩:=hrel;rw[hlb.out] at hj;have HV3:=q_h hv3;have HZ3:=q_h hz3;have HLL3:=q_h hll3;have HDl3:=q_h hDl3;clear hv3 hz3 hll3 hDl3 d0 d1 d2 d3 f0 f1 f2 f3;obtain⟨d0,d1,d2,d3⟩:=cells2 (e7.block B0);obtain⟨f0,f1,f2,f3⟩:=cells2 (e7.block B1);have hnk:k+k2<n:=by rw[hn.out];omega
     by_cases hjl:jj<k2
     ·obtain⟨q1,o1,za,hA1e,hq1,gz1,za0,za1,hza⟩:=(g1.ext e7).at_ hlt;obtain⟨q2,o2,zb,hA2e,hq2,gz2,zb0,zb1,hzb⟩:=(g2.ext e7).at_ hjl;obtain⟨oz,gz3,fz3,oz0,oz1,hoz⟩:=hA3.at_ (k:=k+jj) (by rw[HLL3.out,hla.out,hlb.out];omega);have za2:za<=999999999:=by have:=HDa.out.get k;unfold bs at this;have:=hza.out;omega
      have zb2:zb<=999999999:=by have:=HDb.out.get jj;unfold bs at this;have:=hzb.out;omega
      have oz2:oz<=999999999:=by have:=HDl3.out.get (k+jj);unfold bs at this;have:=hoz.out;omega
      have p0:0<=za*zb:=Int.mul_nonneg za0 zb0;have p1:za*zb<=999999999*999999999:=Int.mul_le_mul za2 zb2 zb0 (by omega);have HP:Hid ((za*zb).toNat=za.toNat*zb.toNat):=Int.toNat_mul za0 zb0;subst hA1e hA2e;have i1:(k:Int)+(jj:Int)<(n:Int):=by omega
      have i2:IntKind.i64.wrap ((k:Int)+(jj:Int))=(k:Int)+(jj:Int):=IntWalk.i64_in _ (by omega);have i3:((k:Int)+(jj:Int)).toNat=k+jj:=by omega
      have i4:(0:Int)<=(k:Int)+(jj:Int):=by omega
      go_wp2
      go_quiet (fail)
      clear i1 i2 i3 i4
      have HR:Hid (val (l2.set (k+jj) ((oz+za*zb+cz) % 1000000000).toNat)+bs ^ (k+(jj+1))*((oz+za*zb+cz) / 1000000000).toNat=val (a.take k)*val b+bs ^ k*(a[k]?.getD 0*val (b.take (jj+1)))):=by
       rw[Hid,qx];refine WQ (kG (by rw[HLL3.out,hla.out,hlb.out];omega) _) HV3.out ?_;have e1:=hza.out;have e2:=hzb.out;have e3:=hoz.out;rw[show a[k]?.getD 0=za.toNat from by omega,show b[jj]?.getD 0=zb.toNat from by omega,show l2[k+jj]?.getD 0=oz.toNat from by omega,<-HP.out];unfold bs;omega
      have HDn:Hid (Dig (l2.set (k+jj) ((oz+za*zb+cz) % 1000000000).toNat)):=HDl3.out.set _ _ (by unfold bs;omega);go_wp2;refine⟨⟨jj+1,(oz+za*zb+cz) / 1000000000,l2.set (k+jj) ((oz+za*zb+cz) % 1000000000).toNat,by rw[hlb.out];omega,by go_num,rfl,by omega,by omega,Arr.set (by exact hA3) _ (by omega) (by omega),by rw[List.length_set];exact HLL3.out,HDn.out,HR.out,fun t ht=>by rw[getD_set_ne (by rw[hlb.out] at ht;omega)];exact HZ3.out t ht,(e7.drewN _).setCell (p:=⟨g,k+jj,none⟩) (by rw[hg.out];exact q_r) _⟩,by simp[intOf];omega⟩
     ·obtain rfl:jj=k2:=by omega
      obtain⟨oz,gz3,fz3,oz0,oz1,hoz⟩:=hA3.at_ (k:=k+jj) (by rw[HLL3.out,hla.out,hlb.out];omega)
      have HR:Hid (val (l2.set (k+jj) cz.toNat)=val (a.take (k+1))*val b):=by
       rw[Hid,qx];have h0:=kG (l:=l2) (k:=k+jj) (by rw[HLL3.out,hla.out,hlb.out];omega) cz.toNat;rw[HZ3.out _ (by rw[hlb.out];exact q_r)] at h0;have h1:=HV3.out;rw[qG (l:=b) (k:=jj) (by rw[hlb.out];exact q_r)] at h1;exact q2E h0 h1 rfl
      have HDn:Hid (Dig (l2.set (k+jj) cz.toNat)):=HDl3.out.set _ _ (by unfold bs;omega);go_wp2;refine⟨⟨k+1,l2.set (k+jj) cz.toNat,by rw[hla.out];omega,by go_num,Arr.set hA3 _ (by omega) (by omega),by rw[List.length_set];exact HLL3.out,HDn.out,HR.out,fun t ht=>?_,e7.setCell (p:=⟨g,k+jj,none⟩) (by rw[hg.out];exact q_r) _⟩,by simp[intOf];omega⟩;rw[hlb.out] at ht;rw[getD_set_ne (by omega)];exact HZ3.out t (by rw[hlb.out];omega)
   ·obtain rfl:k=k1:=by omega
    have HF:Hid (val l=x.natAbs*y.natAbs):=by
     have h1:=HV.out;rw[qG (by rw[hla.out];exact q_r),ha.out,hb.out,qC,qC] at h1;exact h1
    have hG:=hA2.gsN (N:=N) (q_l hN (hE.trans e6).size) (n:=n) (c:=n) (by rw[HLL.out,hn.out,hla.out,hlb.out]) rfl (by unfold maxLen;have:=hn.out;omega);have hs3:=HLL.out;rw[hla.out,hlb.out] at hs3;go_wp2_with (go_at_call 72;refine q_o ?_);refine (xg hG hDl (by omega) z (by rw[HF.out,<-Hn1.out,<-Hn2.out];exact hz.out.trans WR)).mono ?_;intro e w3 hh;obtain⟨bb,A4,k4,c4,rfl,hb4,h4,e4⟩:=hh.form;have D2:=e4.block (e6.block B2);obtain⟨r0,r1,r2,r3⟩:=cells2 D2;go_wp2;exact zC rfl rfl rfl ((hE.trans e6).trans e4) D2 (by omega) hN h4 hb4.out rfl
end Go.Proofs.YtflhlobiipejeaaGreat
