import Derived.Test.YtflhlobiipejeaaGreatWb06
import Derived.Test.YtflhlobiipejeaaGreatWb10
set_option linter.all false
set_option maxHeartbeats 8000000
namespace Go.Proofs.YtflhlobiipejeaaGreat
open Go.RowKit
variable {w w':World} {N g b:Nat} {v s:Value} {l:List Nat} {q x:Rat} {z:Int} {R:Raw}
theorem q5c{p:Nat}(h:Gs N w s (dg p)) (hL:ln p<=1000000000000) (dz:Int) (d0:1<=dz) (d1:dz<=1000000000) :
  Calls Tryz.prog 189 #[s,.int .u32 dz] w (q9k N w .u32 (p / dz.toNat) ((p % dz.toNat:Nat):Int)):=by
 have:=q38 h (qI _) hL dz d0 d1
 rwa [qC] at this
theorem WV {x:Nat}(h:ln x<=2):x<1000000000000000000:=by
 have:=qP x;have h2:bs ^ ln x<=bs ^ 2:=Nat.pow_le_pow_right qV h;have h3:bs ^ 2=1000000000000000000:=by decide
 omega
theorem Xk{x:Nat}(h:Gs N w s (dg x)) :
  Calls Tryz.prog 174 #[s] w fun e w'=>∃(m:Int) (b:Bool),e=.returned (.tuple #[.int .u64 m,.bool b])/\Ext w w':=by
 rcases Nat.lt_or_ge 2 (ln x) with h1|h1
 ·refine (wP h h1).mono ?_;rintro e w' ⟨rfl,he⟩;exact⟨_,_,rfl,he⟩
 ·refine (YF h h1).mono ?_;rintro e w' ⟨rfl,he⟩;exact⟨_,_,rfl,he⟩
set_option maxRecDepth 4000 in
theorem q39{A1:Option Addr}{k1 c1:Nat}{A2:Option Addr}{k2 c2:Nat}{x y:Nat}(h:Gs N w (.slice A1 k1 c1) (dg x)) (h':Gs N w (.slice A2 k2 c2) (dg y)) (hy:y≠0) (hL:ln x<=100000000000) :
  Calls Tryz.prog 177 #[.slice A1 k1 c1,.slice A2 k2 c2] w (q1m N w (x / y) (x % y)):=by
 obtain⟨q,hq⟩:=qc (x / y);obtain⟨r,hr⟩:=qc (x % y);rw[<-hq.out,<-hr.out];have hN:=h.le;have hlx:Hid (ln x=k1):=by obtain⟨A',n',c',hv,hl',-,-⟩:=h.form;cases hv;exact hl'
 have hly:Hid (ln y=k2):=by obtain⟨A',n',c',hv,hl',-,-⟩:=h'.form;cases hv;exact hl'
 have HY:=q_h hy;have HL:=q_h hL;clear hy hL;obtain⟨cz,hcz⟩:=qc (Q5 x y);go_enter Tryz.func177,Tryz.ntmps177;go_wp2_with (go_at_call 173;refine q_o ?_);refine (ZK h h').mono ?_;rintro e w1 ⟨rfl,e1⟩;rw[<-hcz.out]
 by_cases hlt:x<y
 ·have hc:cz<0:=by rw[hcz.out,yl hlt];omega
  have HQ:Hid (q=0/\r=x):=by rw[Hid,hq.out,hr.out];exact⟨Nat.div_eq_of_lt hlt,Nat.mod_eq_of_lt hlt⟩
  clear hlt;go_wp2;go_ret2;exact⟨_,_,_,_,_,_,rfl,by rw[HQ.out.1,zO];exact Gs.nil (by have:=e1.size;omega) _ (Nat.zero_le _),by rw[HQ.out.2];exact h.ext e1,e1⟩
 ·have hc:0<=cz:=by rw[hcz.out];exact yt.2 (by omega)
  have Hle:Hid (y<=x):=by unfold Hid;omega
  clear hlt;have HLY:Hid (ln y<=ln x):=zJ Hle.out
  by_cases hx2:ln x<=2
  ·obtain⟨xz,hxz⟩:=qc (x:Int);obtain⟨yz,hyz⟩:=qc (y:Int);have x0:0<=xz:=by rw[hxz.out];omega
   have x1:xz<1000000000000000000:=by have:=WV hx2;rw[hxz.out];omega
   have y0:1<=yz:=by have:=HY.out;rw[hyz.out];omega
   have y1:yz<1000000000000000000:=by have:=WV (q_l HLY.out hx2);rw[hyz.out];omega
   obtain⟨qz,hqz⟩:=qc (xz / yz);obtain⟨rz,hrz⟩:=qc (xz % yz);have HQZ:Hid (qz.toNat=q):=by rw[Hid,hqz.out,hq.out,hxz.out,hyz.out,<-Int.natCast_ediv,Int.toNat_natCast]
   have HRZ:Hid (rz.toNat=r):=by rw[Hid,hrz.out,hr.out,hxz.out,hyz.out,<-Int.natCast_emod,Int.toNat_natCast]
   have q0:0<=qz:=by rw[hqz.out];exact Int.ediv_nonneg x0 (by omega)
   have q1:qz<=xz:=by rw[hqz.out];exact Int.ediv_le_self _ x0
   have r0:0<=rz:=by rw[hrz.out];exact Int.emod_nonneg _ (by omega)
   have r1:rz<yz:=by rw[hrz.out];exact Int.emod_lt_of_pos _ (by omega)
   have i1:xz.tdiv yz=qz:=by rw[Int.tdiv_eq_ediv_of_nonneg x0];exact hqz.out.symm
   have i2:xz.tmod yz=rz:=by rw[Int.tmod_eq_emod_of_nonneg x0];exact hrz.out.symm
   have i3:IntKind.u64.wrap qz=qz:=IntWalk.u64_in _ (by omega);have i4:IntKind.u64.wrap rz=rz:=IntWalk.u64_in _ (by omega);have i5:¬yz=0:=by omega
   have i6:(yz == 0)=false:=by simpa using i5
   have i7:xz / yz=qz:=hqz.out.symm;have i8:xz % yz=rz:=hrz.out.symm;have HX2:=q_h hx2;clear hx2;go_wp2_with (go_at_call 174;refine q_o ?_);refine (YF (h.ext e1) HX2.out).mono ?_;rintro e w2 ⟨rfl,e2⟩;rw[<-hxz.out];go_wp2_with (go_at_call 174;refine q_o ?_);refine (YF ((h'.ext e1).ext e2) (q_l HLY.out HX2.out)).mono ?_;rintro e w3 ⟨rfl,e3⟩;rw[<-hyz.out];have hE:=(e1.trans e2).trans e3;have hN3:N<=w3.heap.size:=q_l hN hE.size;go_wp2;have eC:=(Ext.refl w3).drew
   go_region_held3 (fun w'=>True) (trivial)
    (first
     | (go_at_call_of 176 qz;refine (Zb (N:=N) (by have:=eC.size;omega) qz q0 (by omega)).mono ?_;intro e w4 hh;obtain⟨A4,k4,c4,rfl,h4,e4⟩:=hh.form;replace eC:=eC.trans e4)
     | (go_at_call_of 176 rz;refine (Zb (N:=N) (by have:=eC.size;omega) rz r0 (by omega)).mono ?_;intro e w5 hh;obtain⟨A5,k5,c5,rfl,h5,e5⟩:=hh.form;replace eC:=eC.trans e5))
   go_wp2;go_ret2;rw[HQZ.out] at h4;rw[HRZ.out] at h5;exact⟨_,_,_,_,_,_,rfl,h4.ext e5,h5,hE.trans eC⟩
  ·have HX2:Hid (2<ln x):=by unfold Hid;omega
   clear hx2;go_wp2_with (go_at_call 174;refine q_o ?_);refine (wP (h.ext e1) HX2.out).mono ?_;rintro e w2 ⟨rfl,e2⟩;go_wp2_with (go_at_call 174;refine q_o ?_);refine (Xk ((h'.ext e1).ext e2)).mono ?_;rintro e w3 ⟨mz,mb,rfl,e3⟩;have hE:=(e1.trans e2).trans e3;have hN3:N<=w3.heap.size:=q_l hN hE.size
   have k20:1<=k2:=by
    rcases Nat.eq_zero_or_pos k2 with h0|h0
    ·exfalso
     have h1:=qP y;rw[hly.out,h0,Nat.pow_zero] at h1;exact HY.out (by omega)
    ·exact h0
   by_cases hk1:k2=1
   ·subst hk1;obtain⟨hd,hb,-⟩:=q6n hly.out;obtain⟨b,o,yz,rfl,hb0,gc,y0,y1,hyz⟩:=(h'.ext hE).at_ (k:=0) (by omega);rw[Nat.add_zero] at gc
    have hyy:Hid (yz.toNat=y/\1<=yz/\yz<1000000000):=by
     have h1:=hyz.out;have h2:=HY.out;rw[hd] at h1;simp at h1
     unfold bs at hb;unfold Hid;omega
    have y2:=hyy.out.2.1;have y3:=hyy.out.2.2;clear hd hb
    have HRb:Hid (r<1000000000):=by
     have h1:=Nat.mod_lt x (show 0<y by have:=hyy.out.1;omega);have h2:=hr.out;have h3:=hyy.out.1;unfold Hid;omega
    go_wp2_with (go_at_call 189;refine q_o ?_);refine (q5c (h.ext hE) (by have:=HL.out;omega) yz y2 (by omega)).mono ?_;rintro e w4 ⟨A3,k3,c3,rfl,h3,e4⟩;rw[hyy.out.1,<-hr.out];rw[hyy.out.1,<-hq.out] at h3;obtain⟨rz,hrz⟩:=qc (r:Int);rw[<-hrz.out];have r0:0<=rz:=by rw[hrz.out];omega
    have r1:rz<1000000000:=by have:=hrz.out;have:=HRb.out;omega
    have HRZ:Hid (rz.toNat=r):=by have:=hrz.out;unfold Hid;omega
    go_wp2_with (go_at_call 176;refine q_o ?_);refine (Zb (N:=N) (by have:=e4.size;omega) rz r0 (by omega)).mono ?_;intro e w5 hh;obtain⟨A5,k5,c5,rfl,h5,e5⟩:=hh.form;rw[HRZ.out] at h5;go_wp2;go_ret2;exact⟨_,_,_,_,_,_,rfl,h3.ext e5,h5,(hE.trans e4).trans e5⟩
   ·have t1:((k2:Int) == 1)=false:=by simpa using (show ¬(k2:Int)=1 by omega)
    have k22:2<=k2:=by omega
    clear hk1;go_wp2_with (go_at_call 190;refine q_o ?_);refine (q8P (h.ext hE) (h'.ext hE) k22 Hle.out HL.out).mono ?_;rintro e w4 ⟨A4,k4,c4,A5,k5,c5,rfl,h4,h5,e4⟩;rw[<-hq.out] at h4;rw[<-hr.out] at h5;go_wp2;go_ret2;exact⟨_,_,_,_,_,_,rfl,h4,h5,hE.trans e4⟩
def q8e (N:Nat) (W:World) (G:Nat) (va vb:Value) (wr:World):Prop :=
 ∃(a b:Nat) (A:Option Addr) (m c:Nat) (A':Option Addr) (m' c':Nat),va=.slice A m c/\vb=.slice A' m' c'/\Gs N wr (.slice A m c) (dg a)/\Gs N wr (.slice A' m' c') (dg b)/\Nat.gcd a b=G/\ln a<=100000000000/\ln b<=100000000000/\Ext W wr
set_option maxRecDepth 4000 in
theorem q7x{v':Value}{x y:Int}(h:zy N w v x) (h':zy N w v' y) (hL:ln x.natAbs<=100000000000) (hL':ln y.natAbs<=100000000000) :
  Calls Tryz.prog 154 #[v,v'] w (Kr N w ((Int.gcd x y:Nat):Int)):=by
 obtain⟨G,hG⟩:=qc (Int.gcd x y);rw[<-hG.out];have hI:=h;have hI':=h';obtain⟨s,rfl,hs⟩:=h;obtain⟨s',rfl,hs'⟩:=h';have hN:=hs.le;obtain⟨A1,k1,c1,rfl,hlen,-,-⟩:=hs.form;obtain⟨A2,k2,c2,rfl,hlen',-,-⟩:=hs'.form
 generalize hneg:decide (x<0)=n1 at *
 generalize hneg':decide (y<0)=n2 at *
 have Hn1:=q_h hneg;have Hn2:=q_h hneg';clear hneg hneg';have HL:=q_h hL;have HL':=q_h hL';clear hL hL';go_enter Tryz.func154,Tryz.ntmps154;go_wp2;refine xX ?_;intro W hE hsz B0 B1 B2;obtain⟨a0,a1,a2,a3⟩:=cells2 B0;obtain⟨b0,b1,b2,b3⟩:=cells2 B1;have eC:=(Ext.refl W).drew
 go_region_held3 (fun w'=>w'.cell? ⟨w.heap.size,0,none⟩=some (.bool n1)/\w'.cell? ⟨w.heap.size,1,none⟩=some (.slice A1 k1 c1)/\w'.cell? ⟨w.heap.size+1,0,none⟩=some (.bool n2)/\w'.cell? ⟨w.heap.size+1,1,none⟩=some (.slice A2 k2 c2)) ((repeat' apply And.intro)<;>repeat with_reducible first|assumption|exact eC.cell (by assumption)|refine cell_far _ ?_ (by omega))
  (first|(go_at_call 164;refine (kL (by exact hI.ext (hE.trans eC))).mono ?_;rintro e w1 ⟨rfl,e1⟩;replace eC:=eC.trans e1)|(go_at_call 164;refine (kL (by exact hI'.ext (hE.trans eC))).mono ?_;rintro e w1 ⟨rfl,e1⟩;replace eC:=eC.trans e1))
 have D2:=eC.block B2;have hE2:=hE.trans eC;clear eC a0 a1 a2 a3 b0 b1 b2 b3 B0 B1 B2;go_wp2
 go_loopw [5,6] (fun a b wr=>q8e N w1 G a b wr) (fun _ b wr=>q4D N wr b)
 case atStart=>exact⟨_,_,A1,k1,c1,A2,k2,c2,rfl,rfl,hs.ext hE2,hs'.ext hE2,hG.out.symm,HL.out,HL'.out,Ext.refl _⟩
 case round =>
  obtain⟨a,b,A,m,c,A',m',c',rfl,rfl,ga,gb,hgcd,hla,hlb,e6⟩:=hrel;have HG:=q_h hgcd;have HLa:=q_h hla;have HLb:=q_h hlb;clear hgcd hla hlb;have hma:Hid (ln a=m):=by obtain⟨A',n',c',hv,hl',-,-⟩:=ga.form;cases hv;exact hl'
  have hmb:Hid (ln b=m'):=by obtain⟨A',n',c',hv,hl',-,-⟩:=gb.form;cases hv;exact hl'
  rcases Nat.eq_zero_or_pos m' with h0|h0
  ·subst h0
   have HF:Hid (a=G):=by
    have h1:b=0:=zU.1 (List.eq_nil_of_length_eq_zero hmb.out);have:=HG.out;rw[h1,Nat.gcd_zero_right] at this;exact this
   go_wp2_with (go_at_call 178;refine q_o ?_);refine (VJ ga (by rw[<-hma.out];have:=HLa.out;omega)).mono ?_;rintro e w8 ⟨A5,k5,c5,rfl,g5,e8,-⟩;go_wp2_with (go_at_call 175;refine q_o ?_);refine (kW g5 (G:Int) (by rw[HF.out];simp[Hid])).mono ?_;intro e w7 hh;obtain⟨bb7,A7,k7,c7,rfl,hb7,h7,e7⟩:=hh.form;have D3:=e7.block (e8.block (e6.block D2));obtain⟨r0,r1,r2,r3⟩:=cells2 D3;go_wp2;exact zC rfl rfl rfl (((hE2.trans e6).trans e8).trans e7) D3 (by omega) hN h7 hb7.out rfl
  ·have hb0:Hid (b≠0):=by
    unfold Hid;rintro rfl;have:=hmb.out;rw[yf] at this;omega
   have HM:Hid (a % b<b):=Nat.mod_lt _ (by have:=hb0.out;omega)
   rcases Nat.lt_or_ge 2 m with hm2|hm2
   ·go_wp2_with (go_at_call 174;refine q_o ?_);refine (wP ga (by rw[hma.out];exact hm2)).mono ?_;rintro e w7 ⟨rfl,e7⟩;go_wp2_with (go_at_call 174;refine q_o ?_);refine (Xk (gb.ext e7)).mono ?_;rintro e w8 ⟨mz,mb,rfl,e8⟩;go_wp2_with (go_at_call 177;refine q_o ?_);refine (q39 (ga.ext (e7.trans e8)) (gb.ext (e7.trans e8)) hb0.out HLa.out).mono ?_;rintro e w9 ⟨A7,m7,c7,A8,m8,c8,rfl,-,g8,e9⟩;go_wp2;go_roundw
    case rel=>exact⟨b,a % b,A',m',c',A8,m8,c8,rfl,rfl,gb.ext ((e7.trans e8).trans e9),g8,(yK a b).trans HG.out,HLb.out,q_l (yg _ _) HLa.out,e6.trans ((e7.trans e8).trans e9)⟩
    case measure=>rw[xU g8,xU gb];exact HM.out
   ·go_wp2_with (go_at_call 174;refine q_o ?_);refine (YF ga (by rw[hma.out];exact hm2)).mono ?_;rintro e w7 ⟨rfl,e7⟩;obtain⟨az,haz⟩:=qc (a:Int);rw[<-haz.out]
    rcases Nat.lt_or_ge 2 m' with hm3|hm3
    ·go_wp2_with (go_at_call 174;refine q_o ?_);refine (wP (gb.ext e7) (by rw[hmb.out];exact hm3)).mono ?_;rintro e w8 ⟨rfl,e8⟩;go_wp2_with (go_at_call 177;refine q_o ?_);refine (q39 (ga.ext (e7.trans e8)) (gb.ext (e7.trans e8)) hb0.out HLa.out).mono ?_;rintro e w9 ⟨A7,m7,c7,A8,m8,c8,rfl,-,g8,e9⟩;go_wp2;go_roundw
     case rel=>exact⟨b,a % b,A',m',c',A8,m8,c8,rfl,rfl,gb.ext ((e7.trans e8).trans e9),g8,(yK a b).trans HG.out,HLb.out,q_l (yg _ _) HLa.out,e6.trans ((e7.trans e8).trans e9)⟩
     case measure=>rw[xU g8,xU gb];exact HM.out
    ·go_wp2_with (go_at_call 174;refine q_o ?_);refine (YF (gb.ext e7) (by rw[hmb.out];exact hm3)).mono ?_;rintro e w8 ⟨rfl,e8⟩;obtain⟨bz,hbz⟩:=qc (b:Int);rw[<-hbz.out];have HXa:Hid (a<1000000000000000000):=WV (by rw[hma.out];exact hm2);have HXb:Hid (b<1000000000000000000):=WV (by rw[hmb.out];exact hm3);go_wp2
     go_loopw [7,9] (fun u v wx=>q9r G u v/\Ext w8 wx) (fun _ v _=>(intOf v).toNat)
     case atStart=>exact⟨⟨az,bz,rfl,rfl,by rw[haz.out];omega,by have:=haz.out;have:=HXa.out;omega,by rw[hbz.out];omega,by have:=hbz.out;have:=HXb.out;omega,by rw[haz.out,hbz.out,Int.toNat_natCast,Int.toNat_natCast];exact HG.out⟩,Ext.refl _⟩
     case round =>
      obtain⟨⟨uz,vz,rfl,rfl,u0,u1,v0,v1,hg2⟩,ex⟩:=hrel;have HG2:=q_h hg2;clear hg2
      by_cases hv:0<vz
      ·have hvn:(vz == 0)=false:=by simp;omega
       have m0:0<=uz % vz:=Int.emod_nonneg _ (by omega);have m1:uz % vz<vz:=Int.emod_lt_of_pos _ hv
       have HN:Hid (Nat.gcd vz.toNat (uz % vz).toNat=G):=by
        rw[Hid,Int.toNat_emod u0 v0,yK];exact HG2.out
       have hv1:1<=vz:=by omega
       go_wp2
       go_quiet (fail)
       go_wp2;go_roundw
       case rel=>exact⟨⟨vz,uz % vz,rfl,rfl,by omega,by omega,m0,by omega,HN.out⟩,ex.drewN _⟩
       case measure=>simp[intOf];omega
      ·obtain rfl:vz=0:=by omega
       have HF:Hid (uz.toNat=G):=by have:=HG2.out;unfold Hid;simpa using this
       have hNx:N<=wr.heap.size:=by have:=hE2.size;have:=e6.size;have:=e7.size;have:=e8.size;have:=ex.size;omega
       go_wp2_with (go_at_call 176;refine q_o ?_);refine (Zb (N:=N) hNx uz u0 (by omega)).mono ?_;intro e w9 hh;obtain⟨A5,k5,c5,rfl,h5,e9⟩:=hh.form;rw[HF.out] at h5;go_wp2_with (go_at_call 175;refine q_o ?_);refine (kW h5 (G:Int) (by simp[Hid])).mono ?_;intro e w10 hh;obtain⟨bb7,A7,k7,c7,rfl,hb7,h7,e10⟩:=hh.form;have eT:=(((e6.trans e7).trans e8).trans ex).trans (e9.trans e10);have D3:=eT.block D2;obtain⟨r0,r1,r2,r3⟩:=cells2 D3;go_wp2;exact zC rfl rfl rfl (hE2.trans eT) D3 (by omega) hN h7 hb7.out rfl
theorem q41 (x y:Int):∃c d:Nat,x.natAbs / y.natAbs=c/\x.natAbs % y.natAbs=d/\x.natAbs=c*y.natAbs+d:=by
 refine⟨_,_,rfl,rfl,?_⟩;have:=Nat.div_add_mod x.natAbs y.natAbs;rw[Nat.mul_comm] at this;exact this.symm
theorem q2I {x y:Int}(h:decide (x<0)=decide (y<0)):q49 x y=if decide (y<0)=true then -((x.natAbs % y.natAbs:Nat):Int) else ((x.natAbs % y.natAbs:Nat):Int):=by
 unfold q49;rw[wY h];have h':x<0↔y<0:=by simpa using h
 obtain⟨c,d,e1,e2,e3⟩:=q41 x y;rw[e1,e2]
 by_cases hy:y<0
 ·have hx:=h'.2 hy;rw[q_t hy,if_pos rfl];obtain⟨a,rfl⟩:∃a:Nat,x = -(a:Int):=⟨x.natAbs,by omega⟩
  obtain⟨b,rfl⟩:∃b:Nat,y = -(b:Int):=⟨y.natAbs,by omega⟩
  rw[Int.natAbs_neg,Int.natAbs_natCast,Int.natAbs_neg,Int.natAbs_natCast] at e3;rw[Int.mul_neg,<-Int.natCast_mul,e3];omega
 ·have hx:¬x<0:=fun e=>hy (h'.1 e)
  rw[q_f hy,if_neg (by decide)];obtain⟨a,rfl⟩:∃a:Nat,x=(a:Int):=⟨x.natAbs,by omega⟩
  obtain⟨b,rfl⟩:∃b:Nat,y=(b:Int):=⟨y.natAbs,by omega⟩
  rw[Int.natAbs_natCast,Int.natAbs_natCast] at e3;rw[<-Int.natCast_mul,e3];omega
theorem q2J {x y:Int}(h:¬decide (x<0)=decide (y<0)) (h0:x.natAbs % y.natAbs≠0) (hy0:y≠0):q49 x y=if decide (y<0)=true then -((y.natAbs-x.natAbs % y.natAbs:Nat):Int) else ((y.natAbs-x.natAbs % y.natAbs:Nat):Int):=by
 unfold q49;rw[ZV h h0];have h':¬(x<0↔y<0):=by simpa using h
 have hlt:=Nat.mod_lt x.natAbs (show 0<y.natAbs by omega);obtain⟨c,d,e1,e2,e3⟩:=q41 x y;rw[e1,e2];rw[e2] at hlt
 by_cases hy:y<0
 ·have hx:¬x<0:=fun e=>h' ⟨fun _=>hy,fun _=>e⟩
  rw[q_t hy,if_pos rfl];obtain⟨a,rfl⟩:∃a:Nat,x=(a:Int):=⟨x.natAbs,by omega⟩
  obtain⟨b,rfl⟩:∃b:Nat,y = -(b:Int):=⟨y.natAbs,by omega⟩
  rw[Int.natAbs_natCast,Int.natAbs_neg,Int.natAbs_natCast] at e3;rw[Int.natAbs_neg,Int.natAbs_natCast] at hlt ⊢;have e4:(-(c:Int)-1) * -(b:Int)=((c*b:Nat):Int)+b:=by rw[Int.natCast_mul];grind
  rw[e4,e3];omega
 ·have hx:x<0:=by
   rcases Int.lt_or_le x 0 with h1|h1
   ·exact h1
   ·exact absurd ⟨fun e=>absurd e (by omega),fun e=>absurd e hy⟩ h'
  rw[q_f hy,if_neg (by decide)];obtain⟨a,rfl⟩:∃a:Nat,x = -(a:Int):=⟨x.natAbs,by omega⟩
  obtain⟨b,rfl⟩:∃b:Nat,y=(b:Int):=⟨y.natAbs,by omega⟩
  rw[Int.natAbs_neg,Int.natAbs_natCast,Int.natAbs_natCast] at e3;rw[Int.natAbs_natCast] at hlt ⊢;have e4:(-(c:Int)-1)*(b:Int) = -((c*b:Nat):Int)-b:=by rw[Int.natCast_mul];grind
  rw[e4,e3];omega
theorem q2H {x y:Int}(h:¬decide (x<0)=decide (y<0)) (h0:x.natAbs % y.natAbs=0):q49 x y=0:=by
 unfold q49;rw[wX h h0];have h':¬(x<0↔y<0):=by simpa using h
 obtain⟨c,d,e1,e2,e3⟩:=q41 x y;rw[e1];rw[e2] at h0;subst h0
 by_cases hy:y<0
 ·have hx:¬x<0:=fun e=>h' ⟨fun _=>hy,fun _=>e⟩
  obtain⟨a,rfl⟩:∃a:Nat,x=(a:Int):=⟨x.natAbs,by omega⟩
  obtain⟨b,rfl⟩:∃b:Nat,y = -(b:Int):=⟨y.natAbs,by omega⟩
  rw[Int.natAbs_natCast,Int.natAbs_neg,Int.natAbs_natCast] at e3;rw[Int.neg_mul_neg,<-Int.natCast_mul,e3];omega
 ·have hx:x<0:=by
   rcases Int.lt_or_le x 0 with h1|h1
   ·exact h1
   ·exact absurd ⟨fun e=>absurd e (by omega),fun e=>absurd e hy⟩ h'
  obtain⟨a,rfl⟩:∃a:Nat,x = -(a:Int):=⟨x.natAbs,by omega⟩
  obtain⟨b,rfl⟩:∃b:Nat,y=(b:Int):=⟨y.natAbs,by omega⟩
  rw[Int.natAbs_neg,Int.natAbs_natCast,Int.natAbs_natCast] at e3;rw[Int.neg_mul,<-Int.natCast_mul,e3];omega
theorem Zc{v':Value}{x y:Int}(h:zy N w v x) (h':zy N w v' y) (hL:ln x.natAbs<=10000000000) (hL':ln y.natAbs<=10000000000) (hy:y≠0) :
  Calls Tryz.prog 182 #[v,v'] w (q6y N w (QW x y) (q49 x y)):=by
 obtain⟨q,hq⟩:=qc (QW x y);obtain⟨r,hr⟩:=qc (q49 x y);rw[<-hq.out,<-hr.out];have Hy:=q_h hy;clear hy;have hI:=h;have hI':=h';obtain⟨s,rfl,hs⟩:=h;obtain⟨s',rfl,hs'⟩:=h';have hN:=hs.le;obtain⟨A1,k1,c1,rfl,hlen,-,-⟩:=hs.form;obtain⟨A2,k2,c2,rfl,hlen',-,-⟩:=hs'.form
 generalize hneg:decide (x<0)=n1 at *
 generalize hneg':decide (y<0)=n2 at *
 have Hn1:=q_h hneg;have Hn2:=q_h hneg';clear hneg hneg';have HL:=q_h hL;have HL':=q_h hL';clear hL hL';go_enter Tryz.func182,Tryz.ntmps182
 have t1:((k2:Int) == 0)=false:=by
  have:k2≠0:=by
   rintro rfl;have:=zU.1 (List.eq_nil_of_length_eq_zero hlen'.out);have:=Hy.out;omega
  simpa using this
 obtain⟨n3,hn3⟩:=qc (!(n1 == n2));go_wp2;refine q6o ?_;intro W hE hsz B0 B1 B2 B3;obtain⟨a0,a1,a2,a3⟩:=cells2 B0;obtain⟨b0,b1,b2,b3⟩:=cells2 B1;have eC:=(Ext.refl W).drew
 go_region_held3 (fun w'=>w'.cell? ⟨w.heap.size,0,none⟩=some (.bool n1)/\w'.cell? ⟨w.heap.size,1,none⟩=some (.slice A1 k1 c1)/\w'.cell? ⟨w.heap.size+1,0,none⟩=some (.bool n2)/\w'.cell? ⟨w.heap.size+1,1,none⟩=some (.slice A2 k2 c2)) ((repeat' apply And.intro)<;>repeat with_reducible first|assumption|exact eC.cell (by assumption)|refine cell_far _ ?_ (by omega))
  (first|(go_at_call 164;refine (kL (by exact hI.ext (hE.trans eC))).mono ?_;rintro e w1 ⟨rfl,e1⟩;replace eC:=eC.trans e1)|(go_at_call 164;refine (kL (by exact hI'.ext (hE.trans eC))).mono ?_;rintro e w1 ⟨rfl,e1⟩;replace eC:=eC.trans e1))
 replace B2:=eC.block B2;replace B3:=eC.block B3;replace hE:=hE.trans eC;replace B0:=eC.block B0;replace B1:=eC.block B1;replace hsz:=q_l hsz eC.size;clear a0 a1 a2 a3 b0 b1 b2 b3 eC;obtain⟨a0,a1,a2,a3⟩:=cells2 B0;obtain⟨b0,b1,b2,b3⟩:=cells2 B1;obtain⟨c,hc⟩:=qc (x.natAbs / y.natAbs);obtain⟨d,hd⟩:=qc (x.natAbs % y.natAbs);go_wp2_with (go_at_call 177;refine q_o ?_);refine (q39 (hs.ext hE) (hs'.ext hE) (by have:=Hy.out;omega) (by have:=HL.out;omega)).mono ?_;rintro e w2 ⟨A3,k3,c3,A4,k4,c4,rfl,gC,gD,eC⟩;rw[<-hc.out] at gC;rw[<-hd.out] at gD;replace B2:=eC.block B2;replace B3:=eC.block B3;replace hE:=hE.trans eC;replace B0:=eC.block B0;replace B1:=eC.block B1;replace hsz:=q_l hsz eC.size;clear a0 a1 a2 a3 b0 b1 b2 b3 eC;obtain⟨a0,a1,a2,a3⟩:=cells2 B0;obtain⟨b0,b1,b2,b3⟩:=cells2 B1;have hl4:Hid (ln d=k4):=by obtain⟨A',n',c',hv,hl',-,-⟩:=gD.form;cases hv;exact hl'
 have HDL:Hid (ln d<=10000000000):=by rw[Hid,hd.out];exact q_l (yg _ _) HL.out
 have HCL:Hid (ln c<=10000000000):=by rw[Hid,hc.out];exact q_l (YC _ _) HL.out
 go_wp2_with (go_at_call 178;refine q_o ?_);refine (VJ gD (by rw[<-hl4.out];have:=HDL.out;omega)).mono ?_;rintro e w3 ⟨A5,k5,c5,rfl,gD,eC,-⟩;replace B2:=eC.block B2;replace B3:=eC.block B3;replace gC:=gC.ext eC;replace hE:=hE.trans eC;replace B0:=eC.block B0;replace B1:=eC.block B1;replace hsz:=q_l hsz eC.size;clear a0 a1 a2 a3 b0 b1 b2 b3 eC;obtain⟨a0,a1,a2,a3⟩:=cells2 B0;obtain⟨b0,b1,b2,b3⟩:=cells2 B1;have hl5:Hid (ln d=k5):=by obtain⟨A',n',c',hv,hl',-,-⟩:=gD.form;cases hv;exact hl'
 by_cases hnn:n1=n2
 ·have hbb:(n1 == n2)=true:=by simpa using hnn
  obtain rfl:n3=false:=by rw[hn3.out,hbb];rfl
  have HNN:Hid (decide (x<0)=decide (y<0)):=by rw[Hid,Hn1.out,Hn2.out];exact hnn
  have HQ:Hid (q=if (false:Bool)=true then -(c:Int) else (c:Int)):=by rw[Hid,hq.out,wY HNN.out,hc.out];rfl
  have HR:Hid (r=if n2=true then -(d:Int) else (d:Int)):=by rw[Hid,hr.out,q2I HNN.out,hd.out,Hn2.out]
  clear hnn
  rcases Nat.eq_zero_or_pos k5 with h50|h50
  ·subst h50;go_wp2;have eC:=(Ext.refl w3).drew
   go_region_held3 (fun w'=>w'.cell? ⟨w.heap.size,0,none⟩=some (.bool n1)/\w'.cell? ⟨w.heap.size+1,0,none⟩=some (.bool n2))
    ((repeat' apply And.intro)<;>repeat with_reducible first|assumption|exact eC.cell (by assumption)|refine cell_far _ ?_ (by omega))
    (first
     | (go_at_call_of 175 A3;refine (kW (neg:=false) (by exact gC.ext eC) q HQ).mono ?_;intro e w10 hh;obtain⟨b10,A10,k10,c10,rfl,hb10,h10,e10⟩:=hh.form;replace eC:=eC.trans e10;have D2:=eC.block B2;have D3:=eC.block B3;obtain⟨r0,r1,r2,r3⟩:=cells2 D2;obtain⟨s0,s1,s2,s3⟩:=cells2 D3)
     | (go_at_call_of 175 A5;refine (kW (neg:=n2) (by exact gD.ext eC) r HR).mono ?_;intro e w11 hh;obtain⟨b11,A11,k11,c11,rfl,hb11,h11,e11⟩:=hh.form;replace eC:=eC.trans e11;have D2:=eC.block B2;have D3:=eC.block B3;obtain⟨r0,r1,r2,r3⟩:=cells2 D2;obtain⟨s0,s1,s2,s3⟩:=cells2 D3))
   go_wp2;obtain⟨w12,E12,F2,U⟩:=ex2 D2 (.bool b10) (.slice A10 k10 c10);rw[E12];obtain⟨w13,E13,F3,U'⟩:=ex2 (U.blk D3 (by omega)) (.bool b11) (.slice A11 k11 c11);rw[E13];obtain⟨z0,z1,-,-⟩:=cells2 (U'.blk F2 (by omega));obtain⟨z2,z3,-,-⟩:=cells2 F3;have hEf:Ext w w13:=U'.ext (U.ext (hE.trans eC) (by omega)) (by omega);refine bodyPost_ret (v:=.tuple #[.agg #[.bool b10,.slice A10 k10 c10],.agg #[.bool b11,.slice A11 k11 c11],.int .i64 0]) ?_ rfl ⟨_,_,rfl,zy.mk hb10 ?_,zy.mk hb11 ?_,hEf⟩
   ·simp[results,Tryz.results182,z0,z1,z2,z3,go_sem]
   ·exact ((h10.ext e11).upd U (by omega) (NoU.mk D2 (by decide))).upd U' (by omega) (NoU.mk (U.blk D3 (by omega)) (by decide))
   ·exact (h11.upd U (by omega) (NoU.mk D2 (by decide))).upd U' (by omega) (NoU.mk (U.blk D3 (by omega)) (by decide))
  ·go_wp2;have eC:=(Ext.refl w3).drew
   go_region_held3 (fun w'=>w'.cell? ⟨w.heap.size,0,none⟩=some (.bool n1)/\w'.cell? ⟨w.heap.size+1,0,none⟩=some (.bool n2))
    ((repeat' apply And.intro)<;>repeat with_reducible first|assumption|exact eC.cell (by assumption)|refine cell_far _ ?_ (by omega))
    (first
     | (go_at_call_of 175 A3;refine (kW (neg:=false) (by exact gC.ext eC) q HQ).mono ?_;intro e w10 hh;obtain⟨b10,A10,k10,c10,rfl,hb10,h10,e10⟩:=hh.form;replace eC:=eC.trans e10;have D2:=eC.block B2;have D3:=eC.block B3;obtain⟨r0,r1,r2,r3⟩:=cells2 D2;obtain⟨s0,s1,s2,s3⟩:=cells2 D3)
     | (go_at_call_of 175 A5;refine (kW (neg:=n2) (by exact gD.ext eC) r HR).mono ?_;intro e w11 hh;obtain⟨b11,A11,k11,c11,rfl,hb11,h11,e11⟩:=hh.form;replace eC:=eC.trans e11;have D2:=eC.block B2;have D3:=eC.block B3;obtain⟨r0,r1,r2,r3⟩:=cells2 D2;obtain⟨s0,s1,s2,s3⟩:=cells2 D3))
   go_wp2;obtain⟨w12,E12,F2,U⟩:=ex2 D2 (.bool b10) (.slice A10 k10 c10);rw[E12];obtain⟨w13,E13,F3,U'⟩:=ex2 (U.blk D3 (by omega)) (.bool b11) (.slice A11 k11 c11);rw[E13];obtain⟨z0,z1,-,-⟩:=cells2 (U'.blk F2 (by omega));obtain⟨z2,z3,-,-⟩:=cells2 F3;have hEf:Ext w w13:=U'.ext (U.ext (hE.trans eC) (by omega)) (by omega);refine bodyPost_ret (v:=.tuple #[.agg #[.bool b10,.slice A10 k10 c10],.agg #[.bool b11,.slice A11 k11 c11],.int .i64 0]) ?_ rfl ⟨_,_,rfl,zy.mk hb10 ?_,zy.mk hb11 ?_,hEf⟩
   ·simp[results,Tryz.results182,z0,z1,z2,z3,go_sem]
   ·exact ((h10.ext e11).upd U (by omega) (NoU.mk D2 (by decide))).upd U' (by omega) (NoU.mk (U.blk D3 (by omega)) (by decide))
   ·exact (h11.upd U (by omega) (NoU.mk D2 (by decide))).upd U' (by omega) (NoU.mk (U.blk D3 (by omega)) (by decide))
 ·have hbb:(n1 == n2)=false:=by simpa using hnn
  obtain rfl:n3=true:=by rw[hn3.out,hbb];rfl
  have HNN:Hid (¬decide (x<0)=decide (y<0)):=by rw[Hid,Hn1.out,Hn2.out];exact hnn
  clear hnn
  rcases Nat.eq_zero_or_pos k5 with h50|h50
  ·subst h50;have HD0:Hid (d=0):=zU.1 (List.eq_nil_of_length_eq_zero hl5.out);have HQ:Hid (q=if (true:Bool)=true then -(c:Int) else (c:Int)):=by rw[Hid,hq.out,wX HNN.out (by rw[<-hd.out];exact HD0.out),hc.out];rfl
   have HR:Hid (r=if n2=true then -(d:Int) else (d:Int)):=by rw[Hid,hr.out,q2H HNN.out (by rw[<-hd.out];exact HD0.out),HD0.out];cases n2<;>rfl
   go_wp2;have eC:=(Ext.refl w3).drew
   go_region_held3 (fun w'=>w'.cell? ⟨w.heap.size,0,none⟩=some (.bool n1)/\w'.cell? ⟨w.heap.size+1,0,none⟩=some (.bool n2))
    ((repeat' apply And.intro)<;>repeat with_reducible first|assumption|exact eC.cell (by assumption)|refine cell_far _ ?_ (by omega))
    (first
     | (go_at_call_of 175 A3;refine (kW (neg:=true) (by exact gC.ext eC) q HQ).mono ?_;intro e w10 hh;obtain⟨b10,A10,k10,c10,rfl,hb10,h10,e10⟩:=hh.form;replace eC:=eC.trans e10;have D2:=eC.block B2;have D3:=eC.block B3;obtain⟨r0,r1,r2,r3⟩:=cells2 D2;obtain⟨s0,s1,s2,s3⟩:=cells2 D3)
     | (go_at_call_of 175 A5;refine (kW (neg:=n2) (by exact gD.ext eC) r HR).mono ?_;intro e w11 hh;obtain⟨b11,A11,k11,c11,rfl,hb11,h11,e11⟩:=hh.form;replace eC:=eC.trans e11;have D2:=eC.block B2;have D3:=eC.block B3;obtain⟨r0,r1,r2,r3⟩:=cells2 D2;obtain⟨s0,s1,s2,s3⟩:=cells2 D3))
   go_wp2;obtain⟨w12,E12,F2,U⟩:=ex2 D2 (.bool b10) (.slice A10 k10 c10);rw[E12];obtain⟨w13,E13,F3,U'⟩:=ex2 (U.blk D3 (by omega)) (.bool b11) (.slice A11 k11 c11);rw[E13];obtain⟨z0,z1,-,-⟩:=cells2 (U'.blk F2 (by omega));obtain⟨z2,z3,-,-⟩:=cells2 F3;have hEf:Ext w w13:=U'.ext (U.ext (hE.trans eC) (by omega)) (by omega);refine bodyPost_ret (v:=.tuple #[.agg #[.bool b10,.slice A10 k10 c10],.agg #[.bool b11,.slice A11 k11 c11],.int .i64 0]) ?_ rfl ⟨_,_,rfl,zy.mk hb10 ?_,zy.mk hb11 ?_,hEf⟩
   ·simp[results,Tryz.results182,z0,z1,z2,z3,go_sem]
   ·exact ((h10.ext e11).upd U (by omega) (NoU.mk D2 (by decide))).upd U' (by omega) (NoU.mk (U.blk D3 (by omega)) (by decide))
   ·exact (h11.upd U (by omega) (NoU.mk D2 (by decide))).upd U' (by omega) (NoU.mk (U.blk D3 (by omega)) (by decide))
  ·have HD0:Hid (d≠0):=by unfold Hid;intro e;have:=hl5.out;rw[e,yf] at this;omega
   have HQ:Hid (q=if (true:Bool)=true then -((c+1:Nat):Int) else ((c+1:Nat):Int)):=by
    rw[Hid,hq.out,ZV HNN.out (by rw[<-hd.out];exact HD0.out),<-hc.out,if_pos rfl];omega
   have HR:Hid (r=if n2=true then -((y.natAbs-d:Nat):Int) else ((y.natAbs-d:Nat):Int)):=by
    rw[Hid,hr.out,q2J HNN.out (by rw[<-hd.out];exact HD0.out) Hy.out,<-hd.out,Hn2.out]
   have HDlt:Hid (d<=y.natAbs):=by rw[Hid,hd.out];exact Nat.le_of_lt (Nat.mod_lt _ (by have:=Hy.out;omega))
   go_wp2_with (go_at_call 191;refine q_o ?_);refine qW ?_;intro W4 eC hsz4 B4;replace B2:=eC.block B2;replace B3:=eC.block B3;replace gC:=gC.ext eC;replace gD:=gD.ext eC;replace hE:=hE.trans eC;replace B0:=eC.block B0;replace B1:=eC.block B1;replace hsz:=q_l hsz eC.size;clear a0 a1 a2 a3 b0 b1 b2 b3 eC;obtain⟨a0,a1,a2,a3⟩:=cells2 B0;obtain⟨b0,b1,b2,b3⟩:=cells2 B1;refine (q6h gC (VK (N:=N) (q_l hN hE.size) hsz4 B4 (by omega) (by omega)) (qI _) (Dig.mk (by decide) Dig.nil) (by have:=HCL.out;unfold ln at this;omega) (by simp)).mono ?_;rintro e w5 ⟨A6,k6,c6,rfl,gC,eC,-⟩;rw[qC,show val [(1:Int).toNat]=1 from rfl] at gC;replace B2:=eC.block B2;replace B3:=eC.block B3;replace gD:=gD.ext eC;replace hE:=hE.trans eC;replace B0:=eC.block B0;replace B1:=eC.block B1;replace hsz:=q_l hsz eC.size;clear a0 a1 a2 a3 b0 b1 b2 b3 eC;obtain⟨a0,a1,a2,a3⟩:=cells2 B0;obtain⟨b0,b1,b2,b3⟩:=cells2 B1;go_wp2_with (go_at_call 192;refine q_o ?_);refine (Jo (hs'.ext hE) gD (by have:=HL'.out;omega) HDlt.out).mono ?_;rintro e w6 ⟨A7,k7,c7,rfl,gD,eC,-⟩;replace B2:=eC.block B2;replace B3:=eC.block B3;replace gC:=gC.ext eC;replace hE:=hE.trans eC;replace B0:=eC.block B0;replace B1:=eC.block B1;replace hsz:=q_l hsz eC.size;clear a0 a1 a2 a3 b0 b1 b2 b3 eC;obtain⟨a0,a1,a2,a3⟩:=cells2 B0;obtain⟨b0,b1,b2,b3⟩:=cells2 B1;go_wp2;have eC:=(Ext.refl w6).drew
   go_region_held3 (fun w'=>w'.cell? ⟨w.heap.size,0,none⟩=some (.bool n1)/\w'.cell? ⟨w.heap.size+1,0,none⟩=some (.bool n2))
    ((repeat' apply And.intro)<;>repeat with_reducible first|assumption|exact eC.cell (by assumption)|refine cell_far _ ?_ (by omega))
    (first
     | (go_at_call_of 175 A6;refine (kW (neg:=true) (by exact gC.ext eC) q HQ).mono ?_;intro e w10 hh;obtain⟨b10,A10,k10,c10,rfl,hb10,h10,e10⟩:=hh.form;replace eC:=eC.trans e10;have D2:=eC.block B2;have D3:=eC.block B3;obtain⟨r0,r1,r2,r3⟩:=cells2 D2;obtain⟨s0,s1,s2,s3⟩:=cells2 D3)
     | (go_at_call_of 175 A7;refine (kW (neg:=n2) (by exact gD.ext eC) r HR).mono ?_;intro e w11 hh;obtain⟨b11,A11,k11,c11,rfl,hb11,h11,e11⟩:=hh.form;replace eC:=eC.trans e11;have D2:=eC.block B2;have D3:=eC.block B3;obtain⟨r0,r1,r2,r3⟩:=cells2 D2;obtain⟨s0,s1,s2,s3⟩:=cells2 D3))
   go_wp2;obtain⟨w12,E12,F2,U⟩:=ex2 D2 (.bool b10) (.slice A10 k10 c10);rw[E12];obtain⟨w13,E13,F3,U'⟩:=ex2 (U.blk D3 (by omega)) (.bool b11) (.slice A11 k11 c11);rw[E13];obtain⟨z0,z1,-,-⟩:=cells2 (U'.blk F2 (by omega));obtain⟨z2,z3,-,-⟩:=cells2 F3;have hEf:Ext w w13:=U'.ext (U.ext (hE.trans eC) (by omega)) (by omega);refine bodyPost_ret (v:=.tuple #[.agg #[.bool b10,.slice A10 k10 c10],.agg #[.bool b11,.slice A11 k11 c11],.int .i64 0]) ?_ rfl ⟨_,_,rfl,zy.mk hb10 ?_,zy.mk hb11 ?_,hEf⟩
   ·simp[results,Tryz.results182,z0,z1,z2,z3,go_sem]
   ·exact ((h10.ext e11).upd U (by omega) (NoU.mk D2 (by decide))).upd U' (by omega) (NoU.mk (U.blk D3 (by omega)) (by decide))
   ·exact (h11.upd U (by omega) (NoU.mk D2 (by decide))).upd U' (by omega) (NoU.mk (U.blk D3 (by omega)) (by decide))
theorem f_whole(hN:N<=w.heap.size) (n:Int) (h1 : -9223372036854775808<=n) (h2:n<=9223372036854775807) :
  Calls Tryz.prog 127 #[.int .i64 n] w (jP N w (n:Rat)):=by
 obtain⟨q,hq⟩:=qc ((n:Int):Rat);rw[<-hq.out];have HQ:Hid (q.num=n/\q.den=1):=by rw[hq.out];exact⟨rfl,rfl⟩
 clear hq;go_enter Tryz.func127,Tryz.ntmps127;go_wp2_with (go_at_call 155;refine q_o ?_);refine qW ?_;intro W hE hsz B0;refine (i_of (N:=N) (by have:=hE.size;omega) n h1 h2).mono ?_;intro e w1 hh;obtain⟨b1,A1,k1,c1,rfl,hb1,g1,e1⟩:=hh.form;go_wp2_with (go_at_call 155;refine q_o ?_);refine (i_of (N:=N) (by have:=hE.size;have:=e1.size;omega) 1 (by omega) (by omega)).mono ?_;intro e w2 hh;obtain⟨b2,A2,k2,c2,rfl,hb2,g2,e2⟩:=hh.form;obtain rfl:b2=false:=by rw[hb2.out];rfl
 have B1:=e2.block (e1.block B0);obtain⟨r0,r1,r2,r3,r4,r5,r6,r7⟩:=cells4 B1;rw[<-HQ.out.1] at hb1 g1;rw[show (1:Int).natAbs=q.den from HQ.out.2.symm] at g2;go_wp2;exact qQ rfl rfl rfl ((hE.trans e1).trans e2) B1 (by omega) hN (g1.ext e2) g2 hb1
theorem Zf {a g:Int}(hg:g≠0) (h:g ∣ a):QW a g=a / g:=by
 obtain⟨k,rfl⟩:=h;rw[Int.mul_comm,q1g hg,Int.mul_ediv_cancel _ hg]
theorem JD {a b:Int}(hb:b≠0):QW a ((Int.gcd a b:Nat):Int)=a / (Int.gcd a b:Nat)/\QW b ((Int.gcd a b:Nat):Int)=b / (Int.gcd a b:Nat):=by
 have hg:((Int.gcd a b:Nat):Int)≠0:=by
  have:Int.gcd a b≠0:=by
   intro e;exact hb (Int.gcd_eq_zero_iff.1 e).2
  omega
 exact⟨Zf hg (Int.gcd_dvd_left a b),Zf hg (Int.gcd_dvd_right a b)⟩
theorem ZN{v':Value}{x y:Int}(h:zy N w v x) (h':zy N w v' y) (hy:y≠0) (hL:ln x.natAbs<=10000000000) (hL':ln y.natAbs<=10000000000) :
  Calls Tryz.prog 160 #[v,v'] w (jP N w (Rat.divInt x y)):=by
 obtain⟨q,hq⟩:=qc (Rat.divInt x y);rw[<-hq.out];have hI:=h;have hI':=h';obtain⟨n1,A1,k1,c1,rfl,Hn1,hs,-⟩:=h.parts;obtain⟨n2,A2,k2,c2,rfl,Hn2,hs',-⟩:=h'.parts;have hN:=hs.le;have HY:=q_h hy;have HL:=q_h hL;have HL':=q_h hL';clear hy hL hL';go_enter Tryz.func160,Tryz.ntmps160;go_wp2_with (go_at_call 134;refine q_o ?_);refine ZX ?_;intro W hE hsz B0 B1 B2;refine (Xl (hI'.ext hE)).mono ?_;rintro e w1 ⟨rfl,e1⟩;replace B0:=e1.block B0;replace B1:=e1.block B1;replace B2:=e1.block B2;replace hE:=hE.trans e1;replace hsz:=q_l hsz e1.size;obtain⟨a0,a1,a2,a3⟩:=cells2 B0;obtain⟨b0,b1,b2,b3'⟩:=cells2 B1
 by_cases hneg:y<0
 ·obtain⟨sy,hsy⟩:=qc y.sign;have hsy1:sy = -1:=by rw[hsy.out];exact Int.sign_eq_neg_one_of_neg hneg
  rw[<-hsy.out,hsy1];have HB:Hid (y<0):=hneg;clear hneg hsy hsy1;go_wp2
  go_cut [] (fun wx=>∃n3 A3 k3 c3 n4 A4 k4 c4,Ext w wx/\w.heap.size+3<=wx.heap.size/\wx.heap[w.heap.size]?=some (.cells #[.bool n3,.slice A3 k3 c3] 33 (0,0))/\wx.heap[w.heap.size+1]?=some (.cells #[.bool n4,.slice A4 k4 c4] 33 (0,0))/\wx.heap[w.heap.size+1+1]?=some (.cells #[.bool false,.slice none 0 0,.bool false,.slice none 0 0] 35 (0,0))/\zy N wx (.agg #[.bool n3,.slice A3 k3 c3]) (-x)/\zy N wx (.agg #[.bool n4,.slice A4 k4 c4]) (-y))
  case first =>
   have eC:=(Ext.refl w1).drew
   go_region_with (first
    | (go_at_call_of 162 A1;refine (VH (by exact hI.ext (hE.trans eC)) (by have:=HL.out;omega)).mono ?_;intro e w2 hh;obtain⟨n3,A3,k3,c3,rfl,hb3,h3,e3⟩:=hh.form;replace eC:=eC.trans e3;have C0:=eC.block B0;have C1:=eC.block B1;obtain⟨p0,p1,p2,p3⟩:=cells2 C0;obtain⟨q0,q1,q2,q3⟩:=cells2 C1)
    | (go_at_call_of 162 A2;refine (VH (by exact hI'.ext (hE.trans eC)) (by have:=HL'.out;omega)).mono ?_;intro e w4 hh;obtain⟨n4,A4,k4,c4,rfl,hb4,h4,e4⟩:=hh.form;replace eC:=eC.trans e4;have C0:=eC.block B0;have C1:=eC.block B1;obtain⟨p0,p1,p2,p3⟩:=cells2 C0;obtain⟨q0,q1,q2,q3⟩:=cells2 C1))
   all_goals
    go_wp2_with fail
    go_meet
    obtain⟨w5,E5,D0,U⟩:=ex2 C0 (.bool n3) (.slice A3 k3 c3);rw[E5];obtain⟨w6,E6,D1,U'⟩:=ex2 (U.blk C1 (by omega)) (.bool n4) (.slice A4 k4 c4);rw[E6];refine⟨n3,A3,k3,c3,n4,A4,k4,c4,U'.ext (U.ext (hE.trans eC) (q_r)) (by omega),?_,U'.blk D0 (by omega),D1,U'.blk (U.blk (eC.block B2) (by omega)) (by omega),zy.mk hb3 ?_,zy.mk hb4 ?_⟩
    ·rw[U'.size,U.size];have:=eC.size;omega
    ·exact ((h3.ext e4).upd U (by omega) (NoU.mk C0 (by decide))).upd U' (by omega) (NoU.mk (U.blk C1 (by omega)) (by decide))
    ·exact (h4.upd U (by omega) (NoU.mk C0 (by decide))).upd U' (by omega) (NoU.mk (U.blk C1 (by omega)) (by decide))
  case rest =>
   clear a0 a1 a2 a3 b0 b1 b2 b3' B0 B1 B2 hE hsz e1 hI hI' hs hs';obtain⟨n1,A1,k1,c1,n2,A2,k2,c2,hE,hsz,B0,B1,B2,va,vb⟩:=hcut;obtain⟨a0,a1,a2,a3⟩:=cells2 B0;obtain⟨b0,b1,b2,b3'⟩:=cells2 B1;obtain⟨a,ha⟩:=qc (-x);obtain⟨b,hb⟩:=qc (-y);rw[<-ha.out] at va;rw[<-hb.out] at vb;have Hla:Hid (ln a.natAbs<=10000000000):=by rw[ha.out,Int.natAbs_neg];exact HL
   have Hlb:Hid (ln b.natAbs<=10000000000):=by rw[hb.out,Int.natAbs_neg];exact HL'
   have Hb0:Hid (0<b):=by have:=HB.out;have:=hb.out;unfold Hid;omega
   have HQ:Hid (q=Rat.divInt a b):=by rw[ha.out,hb.out,<-q2e];exact hq
   have Hg0:Hid (0<Int.gcd a b):=by
    unfold Hid
    rcases Nat.eq_zero_or_pos (Int.gcd a b) with h9|h9
    ·have:=(Int.gcd_eq_zero_iff.1 h9).2;have:=Hb0.out;omega
    ·exact h9
   have Hlg:Hid (ln ((Int.gcd a b:Nat):Int).natAbs<=10000000000):=by
    rw[Hid,Int.natAbs_natCast];refine q_l (zJ (Nat.le_of_dvd (by have:=Hb0.out;omega) (Int.gcd_dvd_natAbs_right a b))) Hlb.out
   have Hd:Hid (QW a ((Int.gcd a b:Nat):Int)=q.num/\QW b ((Int.gcd a b:Nat):Int)=(q.den:Int)):=by
    have h9:=JD (a:=a) (b:=b) (by have:=Hb0.out;omega);rw[Hid,h9.1,h9.2,HQ.out,XQ Hb0.out,XR Hb0.out];exact⟨rfl,rfl⟩
   clear ha hb;have ng0:=Hg0.out;go_wp2_with (go_at_call 154;refine q_o ?_);refine (q7x va vb (by have:=Hla.out;omega) (by have:=Hlb.out;omega)).mono ?_;intro e w3 hh;obtain⟨b3,A3,k3,c3,rfl,hb3,h3,e3⟩:=hh.form;have vg:zy N w3 (.agg #[.bool b3,.slice A3 k3 c3]) ((Int.gcd a b:Nat):Int):=zy.mk hb3 h3;replace va:=va.ext e3;replace vb:=vb.ext e3;replace B0:=e3.block B0;replace B1:=e3.block B1;replace B2:=e3.block B2;replace hE:=hE.trans e3;replace hsz:=q_l hsz e3.size;clear a0 a1 a2 a3 b0 b1 b2 b3';obtain⟨a0,a1,a2,a3⟩:=cells2 B0;obtain⟨b0,b1,b2,b3'⟩:=cells2 B1;have hl0:w.heap.size<w3.heap.size:=by omega
   have hl1:w.heap.size+1<w3.heap.size:=by omega
   go_wp2_with (go_at_call 182;refine q_o ?_);refine qW ?_;intro W4 e4 hsz4 B3;replace va:=va.ext e4;replace vb:=vb.ext e4;replace vg:=vg.ext e4;refine (Zc va vg Hla.out Hlg.out (by omega)).mono ?_;rintro e w5 ⟨v5,v5',rfl,i5,i5',e5⟩;rw[Hd.out.1] at i5;obtain⟨b5,A5,k5,c5,rfl,hb5,h5,-⟩:=i5.parts;obtain⟨b5',A5',k5',c5',rfl,-,-,-⟩:=i5'.parts;replace B0:=e5.block (e4.block B0);replace B1:=e5.block (e4.block B1);replace B2:=e5.block (e4.block B2);replace B3:=e5.block B3;replace vb:=vb.ext e5;replace vg:=vg.ext e5;replace hE:=(hE.trans e4).trans e5;clear a0 a1 a2 a3 b0 b1 b2 b3';obtain⟨a0,a1,a2,a3⟩:=cells2 B0;obtain⟨b0,b1,b2,b3'⟩:=cells2 B1;obtain⟨p0,p1,p2,p3⟩:=cells2 B3;have hl2:w3.heap.size<w5.heap.size:=by have:=e5.size;omega
   go_wp2_with (go_at_call 182;refine q_o ?_);obtain⟨w6,E6,F0,U⟩:=ex2 B0 (.bool b5) (.slice A5 k5 c5);rw[E6];have hT0:NoU w5 w.heap.size:=NoU.mk B0 (by decide);have vb6:zy N w6 (.agg #[.bool n2,.slice A2 k2 c2]) b:=by obtain⟨s,hv,hs⟩:=vb;exact⟨s,hv,hs.upd U (by omega) hT0⟩
   have vg6:zy N w6 (.agg #[.bool b3,.slice A3 k3 c3]) ((Int.gcd a b:Nat):Int):=by obtain⟨s,hv,hs⟩:=vg;exact⟨s,hv,hs.upd U (by omega) hT0⟩
   replace h5:=h5.upd U (by omega) hT0;replace hE:=U.ext hE (by omega);replace B1:=U.blk B1 (by omega);replace B2:=U.blk B2 (by omega);have hs6:=U.size;clear E6 U B0 B3 vb vg va;refine (Zc vb6 vg6 Hlb.out Hlg.out (by omega)).mono ?_;rintro e w7 ⟨v7,v7',rfl,i7,i7',e7⟩;rw[Hd.out.2] at i7;obtain⟨b7,A7,k7,c7,rfl,hb7,h7,-⟩:=i7.parts;obtain⟨b7',A7',k7',c7',rfl,-,-,-⟩:=i7'.parts;obtain rfl:b7=false:=by rw[hb7.out];simp
   rw[Int.natAbs_natCast] at h7;replace B0:=e7.block F0;replace B1:=e7.block B1;replace B2:=e7.block B2;replace h5:=h5.ext e7;replace hE:=hE.trans e7;clear a0 a1 a2 a3 b0 b1 b2 b3' p0 p1 p2 p3;obtain⟨a0,a1,a2,a3⟩:=cells2 B0;obtain⟨b0,b1,b2,b3'⟩:=cells2 B1;obtain⟨r0,r1,r2,r3,r4,r5,r6,r7⟩:=cells4 B2;go_wp2;obtain⟨w8,E8,F1,U8⟩:=ex2 B1 (.bool false) (.slice A7 k7 c7);rw[E8];exact qQ rfl rfl rfl (U8.ext hE (by omega)) (U8.blk B2 (by omega)) (by omega) hN (h5.upd U8 (by omega) (NoU.mk B1 (by decide))) (h7.upd U8 (by omega) (NoU.mk B1 (by decide))) hb5
 ·obtain⟨sy,hsy⟩:=qc y.sign;have hsy1:sy=1:=by rw[hsy.out];exact Int.sign_eq_one_of_pos (by have:=HY.out;omega)
  rw[<-hsy.out,hsy1];have HB:Hid (0<y):=by have:=HY.out;unfold Hid;omega
  obtain⟨a,ha⟩:=qc x;obtain⟨b,hb⟩:=qc y;have va:zy N w1 (.agg #[.bool n1,.slice A1 k1 c1]) a:=by rw[ha.out];exact hI.ext hE
  have vb:zy N w1 (.agg #[.bool n2,.slice A2 k2 c2]) b:=by rw[hb.out];exact hI'.ext hE
  have Hla:Hid (ln a.natAbs<=10000000000):=by rw[ha.out];exact HL
  have Hlb:Hid (ln b.natAbs<=10000000000):=by rw[hb.out];exact HL'
  have Hb0:Hid (0<b):=by rw[hb.out];exact HB
  have HQ:Hid (q=Rat.divInt a b):=by rw[ha.out,hb.out];exact hq
  have Hg0:Hid (0<Int.gcd a b):=by
   unfold Hid
   rcases Nat.eq_zero_or_pos (Int.gcd a b) with h9|h9
   ·have:=(Int.gcd_eq_zero_iff.1 h9).2;have:=Hb0.out;omega
   ·exact h9
  have Hlg:Hid (ln ((Int.gcd a b:Nat):Int).natAbs<=10000000000):=by
   rw[Hid,Int.natAbs_natCast];refine q_l (zJ (Nat.le_of_dvd (by have:=Hb0.out;omega) (Int.gcd_dvd_natAbs_right a b))) Hlb.out
  have Hd:Hid (QW a ((Int.gcd a b:Nat):Int)=q.num/\QW b ((Int.gcd a b:Nat):Int)=(q.den:Int)):=by
   have h9:=JD (a:=a) (b:=b) (by have:=Hb0.out;omega);rw[Hid,h9.1,h9.2,HQ.out,XQ Hb0.out,XR Hb0.out];exact⟨rfl,rfl⟩
  clear ha hb hsy hsy1 hI hI' hs hs';have ng0:=Hg0.out;go_wp2_with (go_at_call 154;refine q_o ?_);refine (q7x va vb (by have:=Hla.out;omega) (by have:=Hlb.out;omega)).mono ?_;intro e w3 hh;obtain⟨b3,A3,k3,c3,rfl,hb3,h3,e3⟩:=hh.form;have vg:zy N w3 (.agg #[.bool b3,.slice A3 k3 c3]) ((Int.gcd a b:Nat):Int):=zy.mk hb3 h3;replace va:=va.ext e3;replace vb:=vb.ext e3;replace B0:=e3.block B0;replace B1:=e3.block B1;replace B2:=e3.block B2;replace hE:=hE.trans e3;replace hsz:=q_l hsz e3.size;clear a0 a1 a2 a3 b0 b1 b2 b3';obtain⟨a0,a1,a2,a3⟩:=cells2 B0;obtain⟨b0,b1,b2,b3'⟩:=cells2 B1;have hl0:w.heap.size<w3.heap.size:=by omega
  have hl1:w.heap.size+1<w3.heap.size:=by omega
  go_wp2_with (go_at_call 182;refine q_o ?_);refine qW ?_;intro W4 e4 hsz4 B3;replace va:=va.ext e4;replace vb:=vb.ext e4;replace vg:=vg.ext e4;refine (Zc va vg Hla.out Hlg.out (by omega)).mono ?_;rintro e w5 ⟨v5,v5',rfl,i5,i5',e5⟩;rw[Hd.out.1] at i5;obtain⟨b5,A5,k5,c5,rfl,hb5,h5,-⟩:=i5.parts;obtain⟨b5',A5',k5',c5',rfl,-,-,-⟩:=i5'.parts;replace B0:=e5.block (e4.block B0);replace B1:=e5.block (e4.block B1);replace B2:=e5.block (e4.block B2);replace B3:=e5.block B3;replace vb:=vb.ext e5;replace vg:=vg.ext e5;replace hE:=(hE.trans e4).trans e5;clear a0 a1 a2 a3 b0 b1 b2 b3';obtain⟨a0,a1,a2,a3⟩:=cells2 B0;obtain⟨b0,b1,b2,b3'⟩:=cells2 B1;obtain⟨p0,p1,p2,p3⟩:=cells2 B3;have hl2:w3.heap.size<w5.heap.size:=by have:=e5.size;omega
  go_wp2_with (go_at_call 182;refine q_o ?_);obtain⟨w6,E6,F0,U⟩:=ex2 B0 (.bool b5) (.slice A5 k5 c5);rw[E6];have hT0:NoU w5 w.heap.size:=NoU.mk B0 (by decide);have vb6:zy N w6 (.agg #[.bool n2,.slice A2 k2 c2]) b:=by obtain⟨s,hv,hs⟩:=vb;exact⟨s,hv,hs.upd U (by omega) hT0⟩
  have vg6:zy N w6 (.agg #[.bool b3,.slice A3 k3 c3]) ((Int.gcd a b:Nat):Int):=by obtain⟨s,hv,hs⟩:=vg;exact⟨s,hv,hs.upd U (by omega) hT0⟩
  replace h5:=h5.upd U (by omega) hT0;replace hE:=U.ext hE (by omega);replace B1:=U.blk B1 (by omega);replace B2:=U.blk B2 (by omega);have hs6:=U.size;clear E6 U B0 B3 vb vg va;refine (Zc vb6 vg6 Hlb.out Hlg.out (by omega)).mono ?_;rintro e w7 ⟨v7,v7',rfl,i7,i7',e7⟩;rw[Hd.out.2] at i7;obtain⟨b7,A7,k7,c7,rfl,hb7,h7,-⟩:=i7.parts;obtain⟨b7',A7',k7',c7',rfl,-,-,-⟩:=i7'.parts;obtain rfl:b7=false:=by rw[hb7.out];simp
  rw[Int.natAbs_natCast] at h7;replace B0:=e7.block F0;replace B1:=e7.block B1;replace B2:=e7.block B2;replace h5:=h5.ext e7;replace hE:=hE.trans e7;clear a0 a1 a2 a3 b0 b1 b2 b3' p0 p1 p2 p3;obtain⟨a0,a1,a2,a3⟩:=cells2 B0;obtain⟨b0,b1,b2,b3'⟩:=cells2 B1;obtain⟨r0,r1,r2,r3,r4,r5,r6,r7⟩:=cells4 B2;go_wp2;obtain⟨w8,E8,F1,U8⟩:=ex2 B1 (.bool false) (.slice A7 k7 c7);rw[E8];exact qQ rfl rfl rfl (U8.ext hE (by omega)) (U8.blk B2 (by omega)) (by omega) hN (h5.upd U8 (by omega) (NoU.mk B1 (by decide))) (h7.upd U8 (by omega) (NoU.mk B1 (by decide))) hb5
theorem Ji{b:Bool}(h:okB b l=true) (hs:Gs N w s l):zy N w (.agg #[.bool b,s]) (yV b l):=by
 obtain⟨e1,e2,e3⟩:=jy h;exact⟨s,by rw[<-e2],by rw[<-e3,<-e1];exact hs⟩
theorem q5m(h:qX N w v q) (hz:Sz q) :
  Calls Tryz.prog 165 #[v] w (jP N w q):=by
 have hN:=h.le;obtain⟨n1,A1,k1,c1,A2,k2,c2,rfl,hb1,g1,g2⟩:=h.parts;have HZ:=q_h hz;clear hz;go_enter Tryz.func165,Tryz.ntmps165;go_wp2;refine kD ?_;intro W hE hsz B0 B1;obtain⟨a0,a1,a2,a3,-⟩:=cells4 B0;have eC:=(Ext.refl W).drew
 go_region_held3 (fun w'=>w'.cell? ⟨w.heap.size,0,none⟩=some (.bool n1)/\w'.cell? ⟨w.heap.size,1,none⟩=some (.slice A1 k1 c1)/\w'.cell? ⟨w.heap.size,2,none⟩=some (.bool false)/\w'.cell? ⟨w.heap.size,3,none⟩=some (.slice A2 k2 c2))
  ((repeat' apply And.intro)<;>repeat with_reducible first|assumption|exact eC.cell (by assumption)|refine cell_far _ ?_ (by omega))
  (first
   | (go_at_call_of 162 A1;refine (VH (z:=q.num) (by exact zF hb1 (g1.ext (hE.trans eC))) (by have:=HZ.out.1;omega)).mono ?_;intro e w3 hh;obtain⟨n3,A3,k3,c3,rfl,hb3,h3,e3⟩:=hh.form;replace eC:=eC.trans e3)
   | (go_at_call_of 162 A3;refine (VH (z:=-q.num) (by exact zy.mk hb3 h3) (by rw[Int.natAbs_neg];have:=HZ.out.1;omega)).mono ?_;intro e w4 hh;obtain⟨n4,A4,k4,c4,rfl,hb4,h4,e4⟩:=hh.form;rw[Int.neg_neg] at hb4 h4;replace eC:=eC.trans e4)
   | (go_at_call_of 162 A2;refine (VH (z:=(q.den:Int)) (by exact zM (g2.ext (hE.trans eC))) (by rw[Int.natAbs_natCast];have:=HZ.out.2;omega)).mono ?_;intro e w5 hh;obtain⟨n5,A5,k5,c5,rfl,hb5,h5,e5⟩:=hh.form;replace eC:=eC.trans e5)
   | (go_at_call_of 162 A5;refine (VH (z:=-(q.den:Int)) (by exact zy.mk hb5 h5) (by rw[Int.natAbs_neg,Int.natAbs_natCast];have:=HZ.out.2;omega)).mono ?_;intro e w6 hh;obtain⟨n6,A6,k6,c6,rfl,hb6,h6,e6⟩:=hh.form;rw[Int.neg_neg] at hb6 h6;replace eC:=eC.trans e6;obtain⟨r0,r1,r2,r3,r4,r5,r6,r7⟩:=cells4 (eC.block B1)))
 obtain rfl:n6=false:=by rw[hb6.out];simp
 rw[Int.natAbs_natCast] at h6;go_wp2;exact qQ rfl rfl rfl (hE.trans eC) (eC.block B1) (by omega) hN ((h4.ext e5).ext e6) h6 hb4
theorem VN(h:KL N w v R) (hL:R.l1.length<=10000000000) (hL':R.l2.length<=10000000000) :
  Calls Tryz.prog 121 #[v] w (zH w (.bool (okR R))):=by
 obtain⟨r,hr⟩:=qc (okR R);rw[<-hr.out];have hN:=h.le;obtain⟨A1,k1,c1,A2,k2,c2,rfl,g1,g2⟩:=h.parts;obtain⟨b1,l1,b2,l2⟩:=R;have HL:=q_h hL;have HL':=q_h hL';clear hL hL' h
 dsimp only at g1 g2 HL HL' ⊢
 have HR:Hid (r=(okB b1 l1&&okB b2 l2&&decide (0<yV b2 l2)&&decide (Int.gcd (yV b1 l1) (yV b2 l2)=1))):=hr;clear hr;obtain⟨o1,ho1⟩:=qc (okB b1 l1);obtain⟨o2,ho2⟩:=qc (okB b2 l2);rw[<-ho1.out,<-ho2.out] at HR;go_enter Tryz.func121,Tryz.ntmps121;go_wp2_with (go_at_call 152;refine q_o ?_);refine qW ?_;intro W hE hsz B0;refine (VF (g1.ext hE)).mono ?_;rintro e w1 ⟨rfl,eC⟩;rw[<-ho1.out];replace hE:=hE.trans eC;replace B0:=eC.block B0;obtain⟨a0,a1,a2,a3,-⟩:=cells4 B0;cases o1 with
 | false =>
  have HF:Hid (r=false):=HR.out;go_wp2;go_ret;exact⟨qB HF.out.symm,hE⟩
 | true =>
  go_wp2_with (go_at_call 152;refine q_o ?_);refine (VF (g2.ext hE)).mono ?_;rintro e w2 ⟨rfl,eC⟩;rw[<-ho2.out];replace hE:=hE.trans eC;replace B0:=eC.block B0;clear a0 a1 a2 a3;obtain⟨a0,a1,a2,a3,-⟩:=cells4 B0;cases o2 with
  | false =>
   have HF:Hid (r=false):=HR.out;go_wp2;go_ret;exact⟨qB HF.out.symm,hE⟩
  | true =>
   obtain⟨x,hx⟩:=qc (yV b1 l1);obtain⟨y,hy⟩:=qc (yV b2 l2);rw[<-hx.out,<-hy.out] at HR;have vx:zy N w (.agg #[.bool b1,.slice A1 k1 c1]) x:=by rw[hx.out];exact Ji ho1.out.symm g1
   have vy:zy N w (.agg #[.bool b2,.slice A2 k2 c2]) y:=by rw[hy.out];exact Ji ho2.out.symm g2
   have HLx:Hid (ln x.natAbs<=10000000000):=by
    obtain⟨e1,-,e3⟩:=jy ho1.out.symm;rw[Hid,hx.out,<-e3];unfold ln;rw[<-e1];exact HL.out
   have HLy:Hid (ln y.natAbs<=10000000000):=by
    obtain⟨e1,-,e3⟩:=jy ho2.out.symm;rw[Hid,hy.out,<-e3];unfold ln;rw[<-e1];exact HL'.out
   obtain⟨sy,hsy⟩:=qc y.sign;go_wp2_with (go_at_call 134;refine q_o ?_);refine (Xl (vy.ext hE)).mono ?_;rintro e w3 ⟨rfl,eC⟩;rw[<-hsy.out];replace hE:=hE.trans eC;replace B0:=eC.block B0;clear a0 a1 a2 a3;obtain⟨a0,a1,a2,a3,-⟩:=cells4 B0
   by_cases hy0:0<y
   ·have hs1:sy=1:=by rw[hsy.out];exact Int.sign_eq_one_of_pos hy0
    subst hs1;obtain⟨cz,hcz⟩:=qc ((((Int.gcd x y:Nat):Int)-1).sign)
    have HF:Hid (r=decide (cz=0)):=by
     rw[Hid,HR.out,hcz.out,q_t hy0];simp only[Bool.and_true,Bool.true_and,decide_eq_decide];rw[Int.sign_eq_zero_iff_zero];omega
    have HLg:Hid (ln ((Int.gcd x y:Nat):Int).natAbs<=10000000000):=by
     rw[Hid,Int.natAbs_natCast];exact q_l (zJ (Nat.le_of_dvd (by omega) (Int.gcd_dvd_natAbs_right x y))) HLy.out
    clear hy0;go_wp2_with (go_at_call 154;refine q_o ?_);refine (q7x (vx.ext hE) (vy.ext hE) (by have:=HLx.out;omega) (by have:=HLy.out;omega)).mono ?_;intro e w4 hh;obtain⟨n4,A4,k4,c4,rfl,hb4,h4,e4⟩:=hh.form;go_wp2_with (go_at_call 155;refine q_o ?_);refine (i_of (N:=N) (by have:=hE.size;have:=e4.size;omega) 1 (by omega) (by omega)).mono ?_;intro e w5 hh;obtain⟨n5,A5,k5,c5,rfl,hb5,h5,e5⟩:=hh.form;go_wp2_with (go_at_call 153;refine q_o ?_);refine (q8Q (zy.mk hb4 (h4.ext e5)) (zy.mk hb5 h5)).mono ?_;rintro e w6 ⟨rfl,e6⟩;rw[<-hcz.out];go_wp2;go_ret;refine⟨qB ?_,((hE.trans e4).trans e5).trans e6⟩;rw[HF.out]
    by_cases hc0:cz=0<;>simp[hc0]
   ·have HF:Hid (r=false):=by
     rw[Hid,HR.out,q_f hy0];simp
    have hs1:sy<=0:=by
     rw[hsy.out]
     rcases Int.lt_or_eq_of_le (Int.not_lt.1 hy0) with h9|h9
     ·rw[Int.sign_eq_neg_one_of_neg h9];omega
     ·rw[h9];simp
    clear hy0;go_wp2;go_ret;exact⟨qB HF.out.symm,hE⟩
theorem frn0 (x y z u:Value) (w:World):(Instr.field 35 (.agg #[x,y,z,u]) 0).run Tryz.prog w=.ok (.agg #[x,y]) w:=by kernel_rfl
theorem jL(h:Sz q):(raw q).l1.length<=10000000000/\(raw q).l2.length<=10000000000:=by
 obtain⟨h1,h2⟩:=h;unfold ln at h1 h2;unfold raw;exact⟨by show (dg q.num.natAbs).length<=_;omega,by show (dg q.den).length<=_;omega⟩
theorem jb(h:qX N w v q) (hz:Sz q) :
  Calls Tryz.prog 135 #[v] w (jP N w q):=by
 have hN:=h.le;have hI:=h;obtain⟨n1,A1,k1,c1,A2,k2,c2,rfl,hb1,g1,g2⟩:=h.parts;have HZ:=q_h hz;clear hz h;go_enter Tryz.func135,Tryz.ntmps135;go_wp2_with (go_at_call 121;refine q_o ?_);refine jF ?_;intro W hE hsz B0 B1;refine (VN (R:=raw q) (hI.ext hE) (jL HZ.out).1 (jL HZ.out).2).mono ?_;rintro e w1 ⟨rfl,e1⟩;rw[ja];replace hE:=hE.trans e1;replace B0:=e1.block B0;replace B1:=e1.block B1;obtain⟨a0,a1,a2,a3,-⟩:=cells4 B0;go_wp2_with (go_at_call 165;refine q_o ?_);refine (q5m (hI.ext hE) HZ.out).mono ?_;intro e w2 hh;obtain⟨n3,A3,k3,c3,A4,k4,c4,rfl,hb3,g3,g4,e2⟩:=hh.form;replace B1:=e2.block B1;obtain⟨r0,r1,r2,r3,r4,r5,r6,r7⟩:=cells4 B1;go_wp2;exact qQ rfl rfl rfl (hE.trans e2) B1 (by omega) hN g3 g4 hb3
theorem Xn(h:qX N w v q) (hz:Sz q) :
  Calls Tryz.prog 106 #[v] w (zH w (.int .i64 q.num.sign)):=by
 obtain⟨s,hs⟩:=qc q.num.sign;rw[<-hs.out];have hN:=h.le;have hI:=h;obtain⟨n1,A1,k1,c1,A2,k2,c2,rfl,hb1,g1,g2⟩:=h.parts;have HZ:=q_h hz;clear hz h;go_enter Tryz.func106,Tryz.ntmps106;go_wp2_with (go_at_call 135;refine q_o ?_);refine qW ?_;intro W hE hsz B0;refine (jb (hI.ext hE) HZ.out).mono ?_;intro e w1 hh;obtain⟨n3,A3,k3,c3,A4,k4,c4,rfl,hb3,g3,g4,e1⟩:=hh.form;have hfl:=fun w=>frn0 (.bool n3) (.slice A3 k3 c3) (.bool false) (.slice A4 k4 c4) w
 go_wp2_with (go_at_call 134;refine q_o ?_);refine (Xl (zF hb3 g3)).mono ?_;rintro e w2 ⟨rfl,e2⟩;rw[<-hs.out];go_wp2;go_ret;exact⟨rfl,(hE.trans e1).trans e2⟩
theorem f_neg(h:qX N w v q) (hz:Sz q) :
  Calls Tryz.prog 126 #[v] w (jP N w (-q)):=by
 obtain⟨p,hp⟩:=qc (-q);rw[<-hp.out];have HP:Hid (p.num = -q.num/\p.den=q.den):=by rw[hp.out];exact⟨rfl,rfl⟩
 clear hp;have hN:=h.le;have hI:=h;obtain⟨n1,A1,k1,c1,A2,k2,c2,rfl,hb1,g1,g2⟩:=h.parts;have HZ:=q_h hz;clear hz h;go_enter Tryz.func126,Tryz.ntmps126;go_wp2_with (go_at_call 135;refine q_o ?_);refine jF ?_;intro W hE hsz B0 B1;refine (jb (hI.ext hE) HZ.out).mono ?_;intro e w1 hh;obtain⟨n3,A3,k3,c3,A4,k4,c4,rfl,hb3,g3,g4,e1⟩:=hh.form;replace hE:=hE.trans e1;replace B0:=e1.block B0;replace B1:=e1.block B1;obtain⟨a0,a1,a2,a3,a4,a5,a6,a7⟩:=cells4 B0;go_wp2;obtain⟨w2,E2,F0,U⟩:=ex4 B0 (.bool n3) (.slice A3 k3 c3) (.bool false) (.slice A4 k4 c4);rw[E2];replace g3:=g3.upd U (by omega) (NoU.mk B0 (by decide));replace g4:=g4.upd U (by omega) (NoU.mk B0 (by decide));replace hE:=U.ext hE (by omega);replace B1:=U.blk B1 (by omega);have hsz2:w.heap.size+2<=w2.heap.size:=by rw[U.size];have:=e1.size;omega
 clear a0 a1 a2 a3 a4 a5 a6 a7 E2 U B0;obtain⟨a0,a1,a2,a3,a4,a5,a6,a7⟩:=cells4 F0;have eC:=(Ext.refl w2).drew
 go_region_held3 (fun w'=>w'.cell? ⟨w.heap.size,0,none⟩=some (.bool n3)/\w'.cell? ⟨w.heap.size,1,none⟩=some (.slice A3 k3 c3)/\w'.cell? ⟨w.heap.size,2,none⟩=some (.bool false)/\w'.cell? ⟨w.heap.size,3,none⟩=some (.slice A4 k4 c4))
  ((repeat' apply And.intro)<;>repeat with_reducible first|assumption|exact eC.cell (by assumption)|refine cell_far _ ?_ (by omega))
  (first
   | (go_at_call_of 162 A3;refine (VH (z:=q.num) (by exact zF hb3 (g3.ext eC)) (by have:=HZ.out.1;omega)).mono ?_;intro e w5 hh;obtain⟨n5,A5,k5,c5,rfl,hb5,h5,e5⟩:=hh.form;replace eC:=eC.trans e5;obtain⟨r0,r1,r2,r3,r4,r5,r6,r7⟩:=cells4 (eC.block B1)))
 rw[<-HP.out.1] at hb5 h5;rw[<-HP.out.2] at g4;go_wp2;exact qQ rfl rfl rfl (hE.trans eC) (eC.block B1) (by omega) hN h5 (g4.ext eC) hb5
theorem XU(hN:N<=w.heap.size) (n:Int) (h1 : -9223372036854775808<=n) (h2:n<=9223372036854775807) :
  Calls Tryz.prog 30 #[.int .i64 n] w (Kr N w n):=by
 go_enter Tryz.func30,Tryz.ntmps30;go_wp2_with (go_at_call 76;refine q_o ?_);refine qW ?_;intro W hE hsz B0;refine (q8A (N:=N) (by have:=hE.size;omega) n h1 h2).mono ?_;intro e w1 hh;obtain⟨b1,A1,k1,c1,rfl,hb1,g1,e1⟩:=hh.form;have B1:=e1.block B0;obtain⟨r0,r1,r2,r3⟩:=cells2 B1;go_wp2;exact zC rfl rfl rfl (hE.trans e1) B1 (by omega) hN g1 hb1.out rfl
theorem kV(hN:N<=w.heap.size) (n:Int) (h1 : -9223372036854775808<=n) (h2:n<=9223372036854775807) :
  Calls Tryz.prog 7 #[.int .i64 n] w (jP N w (n:Rat)):=by
 obtain⟨q,hq⟩:=qc ((n:Int):Rat);rw[<-hq.out];have HQ:Hid (q.num=n/\q.den=1):=by rw[hq.out];exact⟨rfl,rfl⟩
 clear hq;go_enter Tryz.func7,Tryz.ntmps7;go_wp2_with (go_at_call 30;refine q_o ?_);refine qW ?_;intro W hE hsz B0;refine (XU (N:=N) (by have:=hE.size;omega) n h1 h2).mono ?_;intro e w1 hh;obtain⟨b1,A1,k1,c1,rfl,hb1,g1,e1⟩:=hh.form;go_wp2_with (go_at_call 30;refine q_o ?_);refine (XU (N:=N) (by have:=hE.size;have:=e1.size;omega) 1 (by omega) (by omega)).mono ?_;intro e w2 hh;obtain⟨b2,A2,k2,c2,rfl,hb2,g2,e2⟩:=hh.form;obtain rfl:b2=false:=by rw[hb2.out];rfl
 have B1:=e2.block (e1.block B0);obtain⟨r0,r1,r2,r3,r4,r5,r6,r7⟩:=cells4 B1;rw[<-HQ.out.1] at hb1 g1;rw[show (1:Int).natAbs=q.den from HQ.out.2.symm] at g2;go_wp2;exact qQ rfl rfl rfl ((hE.trans e1).trans e2) B1 (by omega) hN (g1.ext e2) g2 hb1
theorem Ye(h:KL N w v R) (hL:R.l1.length<=35184372088700) (hL':R.l2.length<=35184372088700) :
  Calls Tryz.prog 41 #[v] w (zH w (.bool (okR R))):=by
 obtain⟨r,hr⟩:=qc (okR R);rw[<-hr.out];have hN:=h.le;obtain⟨A1,k1,c1,A2,k2,c2,rfl,g1,g2⟩:=h.parts;obtain⟨b1,l1,b2,l2⟩:=R;have HL:=q_h hL;have HL':=q_h hL';clear hL hL' h
 dsimp only at g1 g2 HL HL' ⊢
 have HR:Hid (r=(okB b1 l1&&okB b2 l2&&decide (0<yV b2 l2)&&decide (Int.gcd (yV b1 l1) (yV b2 l2)=1))):=hr;clear hr;obtain⟨o1,ho1⟩:=qc (okB b1 l1);obtain⟨o2,ho2⟩:=qc (okB b2 l2);rw[<-ho1.out,<-ho2.out] at HR;go_enter Tryz.func41,Tryz.ntmps41;go_wp2_with (go_at_call 86;refine q_o ?_);refine qW ?_;intro W hE hsz B0;refine (XX (g1.ext hE)).mono ?_;rintro e w1 ⟨rfl,eC⟩;rw[<-ho1.out];replace hE:=hE.trans eC;replace B0:=eC.block B0;obtain⟨a0,a1,a2,a3,-⟩:=cells4 B0;cases o1 with
 | false =>
  have HF:Hid (r=false):=HR.out;go_wp2;go_ret;exact⟨qB HF.out.symm,hE⟩
 | true =>
  go_wp2_with (go_at_call 86;refine q_o ?_);refine (XX (g2.ext hE)).mono ?_;rintro e w2 ⟨rfl,eC⟩;rw[<-ho2.out];replace hE:=hE.trans eC;replace B0:=eC.block B0;clear a0 a1 a2 a3;obtain⟨a0,a1,a2,a3,-⟩:=cells4 B0;cases o2 with
  | false =>
   have HF:Hid (r=false):=HR.out;go_wp2;go_ret;exact⟨qB HF.out.symm,hE⟩
  | true =>
   obtain⟨x,hx⟩:=qc (yV b1 l1);obtain⟨y,hy⟩:=qc (yV b2 l2);rw[<-hx.out,<-hy.out] at HR;have vx:zy N w (.agg #[.bool b1,.slice A1 k1 c1]) x:=by rw[hx.out];exact Ji ho1.out.symm g1
   have vy:zy N w (.agg #[.bool b2,.slice A2 k2 c2]) y:=by rw[hy.out];exact Ji ho2.out.symm g2
   have HLx:Hid (ln x.natAbs<=35184372088700):=by
    obtain⟨e1,-,e3⟩:=jy ho1.out.symm;rw[Hid,hx.out,<-e3];unfold ln;rw[<-e1];exact HL.out
   have HLy:Hid (ln y.natAbs<=35184372088700):=by
    obtain⟨e1,-,e3⟩:=jy ho2.out.symm;rw[Hid,hy.out,<-e3];unfold ln;rw[<-e1];exact HL'.out
   obtain⟨sy,hsy⟩:=qc y.sign;go_wp2_with (go_at_call 68;refine q_o ?_);refine (XZ (vy.ext hE) (by have:=HLy.out;omega)).mono ?_;rintro e w3 ⟨rfl,eC⟩;rw[<-hsy.out];replace hE:=hE.trans eC;replace B0:=eC.block B0;clear a0 a1 a2 a3;obtain⟨a0,a1,a2,a3,-⟩:=cells4 B0
   by_cases hy0:0<y
   ·have hs1:sy=1:=by rw[hsy.out];exact Int.sign_eq_one_of_pos hy0
    subst hs1;obtain⟨cz,hcz⟩:=qc ((((Int.gcd x y:Nat):Int)-1).sign)
    have HF:Hid (r=decide (cz=0)):=by
     rw[Hid,HR.out,hcz.out,q_t hy0];simp only[Bool.and_true,Bool.true_and,decide_eq_decide];rw[Int.sign_eq_zero_iff_zero];omega
    have HLg:Hid (ln ((Int.gcd x y:Nat):Int).natAbs<=35184372088700):=by
     rw[Hid,Int.natAbs_natCast];exact q_l (zJ (Nat.le_of_dvd (by omega) (Int.gcd_dvd_natAbs_right x y))) HLy.out
    clear hy0;go_wp2_with (go_at_call 67;refine q_o ?_);refine (q6a (vx.ext hE) (vy.ext hE) (by have:=HLx.out;omega) (by have:=HLy.out;omega)).mono ?_;intro e w4 hh;obtain⟨n4,A4,k4,c4,rfl,hb4,h4,e4⟩:=hh.form;go_wp2_with (go_at_call 30;refine q_o ?_);refine (XU (N:=N) (by have:=hE.size;have:=e4.size;omega) 1 (by omega) (by omega)).mono ?_;intro e w5 hh;obtain⟨n5,A5,k5,c5,rfl,hb5,h5,e5⟩:=hh.form;go_wp2_with (go_at_call 87;refine q_o ?_);refine (q0R (zy.mk hb4 (h4.ext e5)) (zy.mk hb5 h5) (by have:=HLg.out;omega) (q_l (zo (k:=1) (by decide)) (by omega))).mono ?_;rintro e w6 ⟨rfl,e6⟩;rw[<-hcz.out];go_wp2;go_ret;refine⟨qB ?_,((hE.trans e4).trans e5).trans e6⟩;rw[HF.out]
    by_cases hc0:cz=0<;>simp[hc0]
   ·have HF:Hid (r=false):=by
     rw[Hid,HR.out,q_f hy0];simp
    have hs1:sy<=0:=by
     rw[hsy.out]
     rcases Int.lt_or_eq_of_le (Int.not_lt.1 hy0) with h9|h9
     ·rw[Int.sign_eq_neg_one_of_neg h9];omega
     ·rw[h9];simp
    clear hy0;go_wp2;go_ret;exact⟨qB HF.out.symm,hE⟩
theorem ww(h:KL N w v R) (hL:R.l1.length<=10000000000) (hL':R.l2.length<=10000000000) :
  Calls Tryz.prog 41 #[v] w (zH w (.bool (okR R))):=Ye h (q_l hL (by omega)) (q_l hL' (by omega))
theorem yC(h:qX N w v q) (hz:Sz q) :
  Calls Tryz.prog 26 #[v] w (jP N w q):=by
 have hN:=h.le;have hI:=h;obtain⟨n1,A1,k1,c1,A2,k2,c2,rfl,hb1,g1,g2⟩:=h.parts;have HZ:=q_h hz;clear hz h;go_enter Tryz.func26,Tryz.ntmps26;go_wp2_with (go_at_call 41;refine q_o ?_);refine jF ?_;intro W hE hsz B0 B1;refine (ww (R:=raw q) (hI.ext hE) (jL HZ.out).1 (jL HZ.out).2).mono ?_;rintro e w1 ⟨rfl,e1⟩;rw[ja];replace hE:=hE.trans e1;replace B0:=e1.block B0;replace B1:=e1.block B1;obtain⟨a0,a1,a2,a3,-⟩:=cells4 B0;obtain⟨r0,r1,r2,r3,r4,r5,r6,r7⟩:=cells4 B1;go_wp2;exact qQ rfl rfl rfl hE B1 (by omega) hN (g1.ext hE) (g2.ext hE) hb1
theorem XW(h:qX N w v q) (hz:Sz q) :
  Calls Tryz.prog 56 #[v] w (zH w (.int .i64 q.num.sign)):=by
 obtain⟨s,hs⟩:=qc q.num.sign;rw[<-hs.out];have hN:=h.le;have hI:=h;obtain⟨n1,A1,k1,c1,A2,k2,c2,rfl,hb1,g1,g2⟩:=h.parts;have HZ:=q_h hz;clear hz h;go_enter Tryz.func56,Tryz.ntmps56;go_wp2_with (go_at_call 26;refine q_o ?_);refine qW ?_;intro W hE hsz B0;refine (yC (hI.ext hE) HZ.out).mono ?_;intro e w1 hh;obtain⟨n3,A3,k3,c3,A4,k4,c4,rfl,hb3,g3,g4,e1⟩:=hh.form;have hfl:=fun w=>frn0 (.bool n3) (.slice A3 k3 c3) (.bool false) (.slice A4 k4 c4) w
 go_wp2_with (go_at_call 68;refine q_o ?_);refine (XZ (zF hb3 g3) (by have:=HZ.out.1;omega)).mono ?_;rintro e w2 ⟨rfl,e2⟩;rw[<-hs.out];go_wp2;go_ret;exact⟨rfl,(hE.trans e1).trans e2⟩
theorem q69(h:qX N w v q) (hz:Sz q) :
  Calls Tryz.prog 137 #[v] w (jP N w (-q)):=by
 obtain⟨p,hp⟩:=qc (-q);rw[<-hp.out];have HP:Hid (p.num = -q.num/\p.den=q.den):=by rw[hp.out];exact⟨rfl,rfl⟩
 clear hp;have hN:=h.le;have hI:=h;obtain⟨n1,A1,k1,c1,A2,k2,c2,rfl,hb1,g1,g2⟩:=h.parts;have HZ:=q_h hz;clear hz h;go_enter Tryz.func137,Tryz.ntmps137;go_wp2_with (go_at_call 26;refine q_o ?_);refine jF ?_;intro W hE hsz B0 B1;refine (yC (hI.ext hE) HZ.out).mono ?_;intro e w1 hh;obtain⟨n3,A3,k3,c3,A4,k4,c4,rfl,hb3,g3,g4,e1⟩:=hh.form;replace hE:=hE.trans e1;replace B1:=e1.block B1;have hsz1:w.heap.size+2<=w1.heap.size:=q_l hsz e1.size;go_wp2;refine qo ?_;intro w2 e2 hsz2 F0;replace g3:=g3.ext e2;replace g4:=g4.ext e2;replace hE:=hE.trans e2;replace B1:=e2.block B1;obtain⟨a0,a1,a2,a3,a4,a5,a6,a7⟩:=cells4 F0;have eC:=(Ext.refl w2).drew
 go_region_held3 (fun w'=>w'.cell? ⟨w1.heap.size,0,none⟩=some (.bool n3)/\w'.cell? ⟨w1.heap.size,1,none⟩=some (.slice A3 k3 c3)/\w'.cell? ⟨w1.heap.size,2,none⟩=some (.bool false)/\w'.cell? ⟨w1.heap.size,3,none⟩=some (.slice A4 k4 c4))
  ((repeat' apply And.intro)<;>repeat with_reducible first|assumption|exact eC.cell (by assumption)|refine cell_far _ ?_ (by omega))
  (first
   | (go_at_call_of 69 A3;refine (q2k (z:=q.num) (by exact zF hb3 (g3.ext eC)) (by have:=HZ.out.1;omega)).mono ?_;intro e w5 hh;obtain⟨n5,A5,k5,c5,rfl,hb5,h5,e5⟩:=hh.form;replace eC:=eC.trans e5;obtain⟨r0,r1,r2,r3,r4,r5,r6,r7⟩:=cells4 (eC.block B1)))
 rw[<-HP.out.1] at hb5 h5;rw[<-HP.out.2] at g4;go_wp2;exact qQ rfl rfl rfl (hE.trans eC) (eC.block B1) (by omega) hN h5 (g4.ext eC) hb5
theorem zy.upd(h:zy N w v z) (u:Upd g w w') (hN:N<=g) (ht:NoU w g):zy N w' v z:=by
 obtain⟨s,hv,hs⟩:=h;exact⟨s,hv,hs.upd u hN ht⟩
theorem KZ{v':Value}{x y:Int}(h:zy N w v x) (h':zy N w v' y) (hy:y≠0) (hL:ln x.natAbs<=10000000000) (hL':ln y.natAbs<=10000000000) :
  Calls Tryz.prog 27 #[v,v'] w (jP N w (Rat.divInt x y)):=by
 obtain⟨q,hq⟩:=qc (Rat.divInt x y);rw[<-hq.out];have hI:=h;have hI':=h';obtain⟨n1,A1,k1,c1,rfl,Hn1,hs,-⟩:=h.parts;obtain⟨n2,A2,k2,c2,rfl,Hn2,hs',-⟩:=h'.parts;have hN:=hs.le;have HY:=q_h hy;have HLx:=q_h hL;have HLy:=q_h hL'
 have HGN:Hid (0<Int.gcd x y):=by
  unfold Hid
  rcases Nat.eq_zero_or_pos (Int.gcd x y) with h9|h9
  ·exact absurd (Int.gcd_eq_zero_iff.1 h9).2 hy
  ·exact h9
 have HLG:Hid (ln (Int.gcd x y)<=10000000000):=q_l (zJ (Nat.le_of_dvd (by omega) (Int.gcd_dvd_natAbs_right x y))) hL';clear hy hL hL';go_enter Tryz.func27,Tryz.ntmps27;go_wp2_with (go_at_call 67;refine q_o ?_);refine ZX ?_;intro W hE hsz B0 B1 B2;refine (q6a (hI.ext hE) (hI'.ext hE) (by have:=HLx.out;omega) (by have:=HLy.out;omega)).mono ?_;intro e w3 hh;obtain⟨b3,A3,k3,c3,rfl,hb3,h3,e3⟩:=hh.form;replace B0:=e3.block B0;replace B1:=e3.block B1;replace B2:=e3.block B2;replace hE:=hE.trans e3;replace hsz:=q_l hsz e3.size;obtain⟨b0,b1,b2,b3'⟩:=cells2 B1;have hl1:w.heap.size+1<w3.heap.size:=by omega
 go_wp2_with (go_at_call 68;refine q_o ?_);refine qW ?_;intro W4 e4 hsz4 BG;replace hE:=hE.trans e4;refine (XZ (hI'.ext hE) (by have:=HLy.out;omega)).mono ?_;rintro e w4 ⟨rfl,e4'⟩;replace BG:=e4'.block BG;replace B0:=e4'.block (e4.block B0);replace B1:=e4'.block (e4.block B1);replace B2:=e4'.block (e4.block B2);replace hE:=hE.trans e4';have hgs:w3.heap.size<w4.heap.size:=by have:=e4'.size;omega
 have vg0:zy N w4 (.agg #[.bool b3,.slice A3 k3 c3]) ((Int.gcd x y:Nat):Int):=zy.mk hb3 ((h3.ext e4).ext e4');clear b0 b1 b2 b3';obtain⟨a0,a1,a2,a3⟩:=cells2 B0;obtain⟨b0,b1,b2,b3⟩:=cells2 B1;obtain⟨p0,p1,p2,p3⟩:=cells2 BG;have vx:=hI.ext hE;have vy:=hI'.ext hE;obtain⟨sy,hsy⟩:=qc y.sign;rw[<-hsy.out]
 by_cases hneg:y<0
 ·have hs1:sy = -1:=by rw[hsy.out];exact Int.sign_eq_neg_one_of_neg hneg
  subst hs1;have HB:=q_h hneg;clear hneg hsy;go_wp2_with (go_at_call 69;refine q_o ?_);refine (q2k vg0 (by rw[Int.natAbs_natCast];have:=HLG.out;omega)).mono ?_;intro e w6 hh;obtain⟨b6,A6,k6,c6,rfl,hb6,h6,e6⟩:=hh.form;replace B0:=e6.block B0;replace B1:=e6.block B1;replace B2:=e6.block B2;replace BG:=e6.block BG;replace hE:=hE.trans e6;replace vx:=vx.ext e6;replace vy:=vy.ext e6;replace hgs:=Nat.lt_of_lt_of_le hgs e6.size;clear a0 a1 a2 a3 b0 b1 b2 b3 p0 p1 p2 p3;obtain⟨p0,p1,p2,p3⟩:=cells2 BG;go_upto_region 4 with (fail);obtain⟨w8,E8,F8,U⟩:=ex2 BG (.bool b6) (.slice A6 k6 c6);rw[E8];have hT:=NoU.mk BG (by decide);replace vx:=vx.upd U (by omega) hT;replace vy:=vy.upd U (by omega) hT;have vg:zy N w8 (.agg #[.bool b6,.slice A6 k6 c6]) (-((Int.gcd x y:Nat):Int)):=zy.upd (zy.mk hb6 h6) U (by omega) hT;replace B0:=U.blk B0 (by omega);replace B1:=U.blk B1 (by omega);replace B2:=U.blk B2 (by omega);replace hE:=U.ext hE (by omega);replace hgs:w3.heap.size<w8.heap.size:=by rw[U.size];exact hgs
  replace BG:=F8;clear p0 p1 p2 p3 E8 U hT F8 vg0;obtain⟨a0,a1,a2,a3⟩:=cells2 B0;obtain⟨b0,b1,b2,b3⟩:=cells2 B1;obtain⟨p0,p1,p2,p3⟩:=cells2 BG;have HG0:Hid (-((Int.gcd x y:Nat):Int)≠0):=by have:=HGN.out;unfold Hid;omega
  have HLg:Hid (ln (-((Int.gcd x y:Nat):Int)).natAbs<=10000000000):=by rw[Hid,Int.natAbs_neg,Int.natAbs_natCast];exact HLG.out
  have Hd:Hid (QW x (-((Int.gcd x y:Nat):Int))=q.num/\QW y (-((Int.gcd x y:Nat):Int))=(q.den:Int)):=by
   rw[Hid,Zf HG0.out (Int.neg_dvd.2 (Int.gcd_dvd_left x y)),Zf HG0.out (Int.neg_dvd.2 (Int.gcd_dvd_right x y)),hq.out,q2e,XQ (by have:=HB.out;omega),XR (by have:=HB.out;omega)];rw[Int.neg_gcd,Int.gcd_neg,Int.ediv_neg,Int.ediv_neg];exact⟨(Int.neg_ediv_of_dvd (Int.gcd_dvd_left x y)).symm,(Int.neg_ediv_of_dvd (Int.gcd_dvd_right x y)).symm⟩
  go_wp2_with (go_at_call 70;refine q_o ?_);refine (wH vx vg HLx.out HLg.out HG0.out).mono ?_;rintro e w5 ⟨v5,v5',rfl,i5,i5',e5⟩;rw[Hd.out.1] at i5;obtain⟨b5,A5,k5,c5,rfl,hb5,h5,-⟩:=i5.parts;obtain⟨b5',A5',k5',c5',rfl,-,-,-⟩:=i5'.parts;replace B1:=e5.block B1;replace B2:=e5.block B2;replace BG:=e5.block BG;replace vy:=vy.ext e5;replace vg:=vg.ext e5;replace hE:=hE.trans e5;replace hgs:=Nat.lt_of_lt_of_le hgs e5.size;clear a0 a1 a2 a3 b0 b1 b2 b3 p0 p1 p2 p3;obtain⟨b0,b1,b2,b3⟩:=cells2 B1;obtain⟨p0,p1,p2,p3⟩:=cells2 BG;have hl1:w.heap.size+1<w5.heap.size:=by omega
  have hl0:w.heap.size<w5.heap.size:=by omega
  have hl8:w3.heap.size<w5.heap.size+1:=by omega
  have hl9:w3.heap.size<=w5.heap.size:=by omega
  go_wp2_with (go_at_call 70;refine q_o ?_);refine jF ?_;intro W6 e6 hsz6 C0 C1;replace B2:=e6.block B2;replace vy:=vy.ext e6;replace vg:=vg.ext e6;replace h5:=h5.ext e6;replace hE:=hE.trans e6;refine (wH vy vg HLy.out HLg.out HG0.out).mono ?_;rintro e w7 ⟨v7,v7',rfl,i7,i7',e7⟩;rw[Hd.out.2] at i7;obtain⟨b7,A7,k7,c7,rfl,hb7,h7,-⟩:=i7.parts;obtain⟨b7',A7',k7',c7',rfl,-,-,-⟩:=i7'.parts;obtain rfl:b7=false:=by rw[hb7.out];simp
  rw[Int.natAbs_natCast] at h7;replace B2:=e7.block B2;replace C0:=e7.block C0;replace h5:=h5.ext e7;replace hE:=hE.trans e7;go_upto_region 6 with (fail);refine kD ?_;intro W8 e8 hsz8 D0 D1;replace B2:=e8.block B2;replace C0:=e8.block C0;obtain⟨s0,s1,s2,s3⟩:=cells2 C0;obtain⟨t0,t1,t2,t3⟩:=cells2 D0;obtain⟨r0,r1,r2,r3,r4,r5,r6,r7⟩:=cells4 B2;go_wp2;exact qQ rfl rfl rfl (hE.trans e8) B2 (by omega) hN (h5.ext e8) (h7.ext e8) hb5
 ·have hs1:sy=1:=by rw[hsy.out];exact Int.sign_eq_one_of_pos (by have:=HY.out;omega)
  subst hs1;have HB:Hid (0<y):=by have:=HY.out;unfold Hid;omega
  clear hneg hsy;have vg:=vg0;have HG0:Hid (((Int.gcd x y:Nat):Int)≠0):=by have:=HGN.out;unfold Hid;omega
  have HLg:Hid (ln ((Int.gcd x y:Nat):Int).natAbs<=10000000000):=by rw[Hid,Int.natAbs_natCast];exact HLG.out
  have Hd:Hid (QW x ((Int.gcd x y:Nat):Int)=q.num/\QW y ((Int.gcd x y:Nat):Int)=(q.den:Int)):=by
   have h9:=JD (a:=x) (b:=y) HY.out;rw[Hid,h9.1,h9.2,hq.out,XQ HB.out,XR HB.out];exact⟨rfl,rfl⟩
  go_wp2_with (go_at_call 70;refine q_o ?_);refine (wH vx vg HLx.out HLg.out HG0.out).mono ?_;rintro e w5 ⟨v5,v5',rfl,i5,i5',e5⟩;rw[Hd.out.1] at i5;obtain⟨b5,A5,k5,c5,rfl,hb5,h5,-⟩:=i5.parts;obtain⟨b5',A5',k5',c5',rfl,-,-,-⟩:=i5'.parts;replace B1:=e5.block B1;replace B2:=e5.block B2;replace BG:=e5.block BG;replace vy:=vy.ext e5;replace vg:=vg.ext e5;replace hE:=hE.trans e5;replace hgs:=Nat.lt_of_lt_of_le hgs e5.size;clear a0 a1 a2 a3 b0 b1 b2 b3 p0 p1 p2 p3;obtain⟨b0,b1,b2,b3⟩:=cells2 B1;obtain⟨p0,p1,p2,p3⟩:=cells2 BG;have hl1:w.heap.size+1<w5.heap.size:=by omega
  have hl0:w.heap.size<w5.heap.size:=by omega
  have hl8:w3.heap.size<w5.heap.size+1:=by omega
  have hl9:w3.heap.size<=w5.heap.size:=by omega
  go_wp2_with (go_at_call 70;refine q_o ?_);refine jF ?_;intro W6 e6 hsz6 C0 C1;replace B2:=e6.block B2;replace vy:=vy.ext e6;replace vg:=vg.ext e6;replace h5:=h5.ext e6;replace hE:=hE.trans e6;refine (wH vy vg HLy.out HLg.out HG0.out).mono ?_;rintro e w7 ⟨v7,v7',rfl,i7,i7',e7⟩;rw[Hd.out.2] at i7;obtain⟨b7,A7,k7,c7,rfl,hb7,h7,-⟩:=i7.parts;obtain⟨b7',A7',k7',c7',rfl,-,-,-⟩:=i7'.parts;obtain rfl:b7=false:=by rw[hb7.out];simp
  rw[Int.natAbs_natCast] at h7;replace B2:=e7.block B2;replace C0:=e7.block C0;replace h5:=h5.ext e7;replace hE:=hE.trans e7;go_upto_region 6 with (fail);refine kD ?_;intro W8 e8 hsz8 D0 D1;replace B2:=e8.block B2;replace C0:=e8.block C0;obtain⟨s0,s1,s2,s3⟩:=cells2 C0;obtain⟨t0,t1,t2,t3⟩:=cells2 D0;obtain⟨r0,r1,r2,r3,r4,r5,r6,r7⟩:=cells4 B2;go_wp2;exact qQ rfl rfl rfl (hE.trans e8) B2 (by omega) hN (h5.ext e8) (h7.ext e8) hb5
theorem xC {a:Nat}(ha:ln a<=1000000000) (hb:ln b<=1000000000):ln (a*b)<=2000000000:=q_l (WX a b) (by omega)
theorem q5k{v':Value}{y:Rat}(h:qX N w v x) (h':qX N w v' y) (hz:Sz x) (hz':Sz y) :
  Calls Tryz.prog 128 #[v,v'] w (jP N w (x*y)):=by
 obtain⟨q,hq⟩:=qc (x*y);rw[<-hq.out];have HQ:Hid (Rat.divInt (x.num*y.num) ((x.den:Int)*y.den)=q):=by rw[Hid,hq.out,Qw]
 clear hq;have hI:=h;have hI':=h';have hN:=h.le;obtain⟨m1,X1,i1,d1,X2,i2,d2,rfl,hm1,gx1,gx2⟩:=h.parts;obtain⟨m2,Y1,i3,d3,Y2,i4,d4,rfl,hm2,gy1,gy2⟩:=h'.parts;have HZ:=q_h hz;have HZ':=q_h hz';clear hz hz' h h' gx1 gx2 gy1 gy2;go_enter Tryz.func128,Tryz.ntmps128;go_wp2;refine xX ?_;intro W hE hsz B0 B1 B2;obtain⟨a0,a1,a2,a3,-⟩:=cells4 B0;obtain⟨b0,b1,b2,b3,-⟩:=cells4 B1
 go_cut [] (fun wx=>∃n1 A1 k1 c1 A2 k2 c2 n2 A3 k3 c3 A4 k4 c4,Ext w wx/\w.heap.size+2<=wx.heap.size/\wx.heap[w.heap.size]?=some (.cells #[.bool n1,.slice A1 k1 c1,.bool false,.slice A2 k2 c2] 35 (0,0))/\wx.heap[w.heap.size+1]?=some (.cells #[.bool n2,.slice A3 k3 c3,.bool false,.slice A4 k4 c4] 35 (0,0))/\Hid (n1=decide (x.num<0))/\Hid (n2=decide (y.num<0))/\Gs N wx (.slice A1 k1 c1) (dg x.num.natAbs)/\Gs N wx (.slice A2 k2 c2) (dg x.den)/\Gs N wx (.slice A3 k3 c3) (dg y.num.natAbs)/\Gs N wx (.slice A4 k4 c4) (dg y.den)/\w.heap.size+3<=wx.heap.size/\wx.heap[w.heap.size+1+1]?=some (.cells #[.bool false,.slice none 0 0,.bool false,.slice none 0 0] 35 (0,0)))
 case first =>
  have eC:=(Ext.refl W).drew
  go_region_with (first
   | (go_at_call_of 135 X1;refine (jb (by exact hI.ext (hE.trans eC)) HZ.out).mono ?_;intro e w1 hh;obtain⟨n1,A1,k1,c1,A2,k2,c2,rfl,hb1,g1,g2,e1⟩:=hh.form;replace eC:=eC.trans e1;have C0:=eC.block B0;have C1:=eC.block B1;obtain⟨p0,p1,p2,p3,p4,p5,p6,p7⟩:=cells4 C0;obtain⟨q0,q1,q2,q3,q4,q5,q6,q7⟩:=cells4 C1)
   | (go_at_call_of 135 Y1;refine (jb (by exact hI'.ext (hE.trans eC)) HZ'.out).mono ?_;intro e w2 hh;obtain⟨n2,A3,k3,c3,A4,k4,c4,rfl,hb2,g3,g4,e2⟩:=hh.form;replace eC:=eC.trans e2;have C0:=eC.block B0;have C1:=eC.block B1;obtain⟨p0,p1,p2,p3,p4,p5,p6,p7⟩:=cells4 C0;obtain⟨q0,q1,q2,q3,q4,q5,q6,q7⟩:=cells4 C1))
  all_goals
   go_wp2_with fail
   go_meet
   obtain⟨w3,E3,D0,U⟩:=ex4 C0 (.bool n1) (.slice A1 k1 c1) (.bool false) (.slice A2 k2 c2);rw[E3];obtain⟨w4,E4,D1,U'⟩:=ex4 (U.blk C1 (by omega)) (.bool n2) (.slice A3 k3 c3) (.bool false) (.slice A4 k4 c4);rw[E4];have hT0:=NoU.mk C0 (by decide);have hT1:=NoU.mk (U.blk C1 (by omega)) (by decide);refine⟨n1,A1,k1,c1,A2,k2,c2,n2,A3,k3,c3,A4,k4,c4,U'.ext (U.ext (hE.trans eC) (q_r)) (by omega),?_,U'.blk D0 (by omega),D1,hb1,hb2,((g1.ext e2).upd U (by omega) hT0).upd U' (by omega) hT1,((g2.ext e2).upd U (by omega) hT0).upd U' (by omega) hT1,(g3.upd U (by omega) hT0).upd U' (by omega) hT1,(g4.upd U (by omega) hT0).upd U' (by omega) hT1,(by rw[U'.size,U.size];have:=eC.size;omega),U'.blk (U.blk (eC.block B2) (by omega)) (by omega)⟩;rw[U'.size,U.size];have:=eC.size;omega
 case rest =>
  clear a0 a1 a2 a3 b0 b1 b2 b3 B0 B1 B2 hE hsz hI hI';obtain⟨n1,A1,k1,c1,A2,k2,c2,n2,A3,k3,c3,A4,k4,c4,hE,-,B0,B1,hb1,hb2,g1,g2,g3,g4,hsz,B2⟩:=hcut;obtain⟨a0,a1,a2,a3,-⟩:=cells4 B0;obtain⟨b0,b1,b2,b3,-⟩:=cells4 B1;have eC:=(Ext.refl wc).drew;go_wp2
  go_region_held3 (fun w'=>(w'.cell? ⟨w.heap.size,0,none⟩=some (.bool n1)/\w'.cell? ⟨w.heap.size,1,none⟩=some (.slice A1 k1 c1)/\w'.cell? ⟨w.heap.size,2,none⟩=some (.bool false)/\w'.cell? ⟨w.heap.size,3,none⟩=some (.slice A2 k2 c2))/\(w'.cell? ⟨w.heap.size+1,0,none⟩=some (.bool n2)/\w'.cell? ⟨w.heap.size+1,1,none⟩=some (.slice A3 k3 c3)/\w'.cell? ⟨w.heap.size+1,2,none⟩=some (.bool false)/\w'.cell? ⟨w.heap.size+1,3,none⟩=some (.slice A4 k4 c4)))
   ((repeat' apply And.intro)<;>repeat with_reducible first|assumption|exact eC.cell (by assumption)|refine cell_far _ ?_ (by omega))
   (first
    | (go_at_call_of 156 A1;refine (Jn (by exact zF hb1 (g1.ext eC)) (by exact zF hb2 (g3.ext eC)) (by have:=HZ.out.1;omega) (by have:=HZ'.out.1;omega)).mono ?_;rintro e w5 ⟨v5,rfl,h5,e5⟩;replace eC:=eC.trans e5)
    | (go_at_call_of 156 A2;refine (Jn (by exact zM (g2.ext eC)) (by exact zM (g4.ext eC)) (by rw[Int.natAbs_natCast];have:=HZ.out.2;omega) (by rw[Int.natAbs_natCast];have:=HZ'.out.2;omega)).mono ?_;rintro e w6 ⟨v6,rfl,h6,e6⟩;replace eC:=eC.trans e6)
    | (go_at_call 160;refine (ZN (by exact h5.ext e6) (by exact h6) (by have h8:=x.den_pos;have h9:=y.den_pos;exact Int.mul_ne_zero (by omega) (by omega)) (by rw[Int.natAbs_mul];exact q_l (xC HZ.out.1 HZ'.out.1) (by omega)) (by rw[Int.natAbs_mul,Int.natAbs_natCast,Int.natAbs_natCast];exact q_l (xC HZ.out.2 HZ'.out.2) (by omega))).mono ?_;rw[HQ.out];intro e w7 hh;obtain⟨n7,A7,k7,c7,A8,k8,c8,rfl,hb7,h7,h8,e7⟩:=hh.form;replace eC:=eC.trans e7;obtain⟨r0,r1,r2,r3,r4,r5,r6,r7⟩:=cells4 (eC.block B2)))
  go_wp2;exact qQ rfl rfl rfl (hE.trans eC) (eC.block B2) (by omega) hN h7 h8 hb7
theorem Yg{v':Value}{y:Rat}(h:qX N w v x) (h':qX N w v' y) (hz:Sz x) (hz':Sz y) :
  Calls Tryz.prog 88 #[v,v'] w (jP N w (x*y)):=by
 obtain⟨q,hq⟩:=qc (x*y);rw[<-hq.out];have HQ:Hid (Rat.divInt (x.num*y.num) ((x.den:Int)*y.den)=q):=by rw[Hid,hq.out,Qw]
 clear hq;have hI:=h;have hI':=h';have hN:=h.le;obtain⟨m1,X1,i1,d1,X2,i2,d2,rfl,hm1,gx1,gx2⟩:=h.parts;obtain⟨m2,Y1,i3,d3,Y2,i4,d4,rfl,hm2,gy1,gy2⟩:=h'.parts;have HZ:=q_h hz;have HZ':=q_h hz';clear hz hz' h h' gx1 gx2 gy1 gy2;go_enter Tryz.func88,Tryz.ntmps88;go_wp2_with (go_at_call 26;refine q_o ?_);refine ZX ?_;intro W hE hsz B0 B1 B2;refine (yC (hI.ext hE) HZ.out).mono ?_;intro e w1 hh;obtain⟨n1,A1,k1,c1,A2,k2,c2,rfl,hb1,g1,g2,e1⟩:=hh.form;replace hE:=hE.trans e1;replace hsz:=q_l hsz e1.size;replace B1:=e1.block B1;replace B2:=e1.block B2;obtain⟨b0,b1,b2,b3,-⟩:=cells4 B1;have hl1:w.heap.size+1<w1.heap.size:=by omega
 go_wp2_with (go_at_call 26;refine q_o ?_);refine qW ?_;intro W2 e2 hsz2 C0;replace hE:=hE.trans e2;refine (yC (hI'.ext hE) HZ'.out).mono ?_;intro e w3 hh;obtain⟨n2,A3,k3,c3,A4,k4,c4,rfl,hb2,g3,g4,e3⟩:=hh.form;replace hE:=hE.trans e3;have hsz3:w1.heap.size+1<=w3.heap.size:=by have:=e3.size;omega
 go_upto_region 3 with (fail);refine qo ?_;intro W4 e4 hsz4 C1;replace hE:=hE.trans e4;replace B2:=e4.block (e3.block (e2.block B2));replace C0:=e4.block (e3.block C0);replace g1:=((g1.ext e2).ext e3).ext e4;replace g2:=((g2.ext e2).ext e3).ext e4;replace g3:=g3.ext e4;replace g4:=g4.ext e4;clear b0 b1 b2 b3 B0 B1;obtain⟨a0,a1,a2,a3,-⟩:=cells4 C0;obtain⟨b0,b1,b2,b3,-⟩:=cells4 C1;have eC:=(Ext.refl W4).drew
 go_region_held3 (fun w'=>(w'.cell? ⟨w1.heap.size,0,none⟩=some (.bool n1)/\w'.cell? ⟨w1.heap.size,1,none⟩=some (.slice A1 k1 c1)/\w'.cell? ⟨w1.heap.size,2,none⟩=some (.bool false)/\w'.cell? ⟨w1.heap.size,3,none⟩=some (.slice A2 k2 c2))/\(w'.cell? ⟨w3.heap.size,0,none⟩=some (.bool n2)/\w'.cell? ⟨w3.heap.size,1,none⟩=some (.slice A3 k3 c3)/\w'.cell? ⟨w3.heap.size,2,none⟩=some (.bool false)/\w'.cell? ⟨w3.heap.size,3,none⟩=some (.slice A4 k4 c4)))
  ((repeat' apply And.intro)<;>repeat with_reducible first|assumption|exact eC.cell (by assumption)|refine cell_far _ ?_ (by omega))
  (first
   | (go_at_call_of 29 A1;refine (QJ (by exact zF hb1 (g1.ext eC)) (by exact zF hb2 (g3.ext eC)) (by have:=HZ.out.1;omega) (by have:=HZ'.out.1;omega)).mono ?_;rintro e w5 ⟨v5,rfl,h5,e5⟩;replace eC:=eC.trans e5)
   | (go_at_call_of 29 A2;refine (QJ (by exact zM (g2.ext eC)) (by exact zM (g4.ext eC)) (by rw[Int.natAbs_natCast];have:=HZ.out.2;omega) (by rw[Int.natAbs_natCast];have:=HZ'.out.2;omega)).mono ?_;rintro e w6 ⟨v6,rfl,h6,e6⟩;replace eC:=eC.trans e6)
   | (go_at_call 27;refine (KZ (by exact h5.ext e6) (by exact h6) (by have h8:=x.den_pos;have h9:=y.den_pos;exact Int.mul_ne_zero (by omega) (by omega)) (by rw[Int.natAbs_mul];exact q_l (xC HZ.out.1 HZ'.out.1) (by omega)) (by rw[Int.natAbs_mul,Int.natAbs_natCast,Int.natAbs_natCast];exact q_l (xC HZ.out.2 HZ'.out.2) (by omega))).mono ?_;rw[HQ.out];intro e w7 hh;obtain⟨n7,A7,k7,c7,A8,k8,c8,rfl,hb7,h7,h8,e7⟩:=hh.form;replace eC:=eC.trans e7;obtain⟨r0,r1,r2,r3,r4,r5,r6,r7⟩:=cells4 (eC.block B2)))
 go_wp2;exact qQ rfl rfl rfl (hE.trans eC) (eC.block B2) (by omega) hN h7 h8 hb7
theorem q2P {a b:Int}(ha:ln a.natAbs<=2000000000) (hb:ln b.natAbs<=2000000000):ln (a+b).natAbs<=2000000001:=by
 have h1:=zJ (Int.natAbs_add_le a b);have h2:=WY a.natAbs b.natAbs;omega
theorem f_add{v':Value}{y:Rat}(h:qX N w v x) (h':qX N w v' y) (hz:Sz x) (hz':Sz y) :
  Calls Tryz.prog 125 #[v,v'] w (jP N w (x+y)):=by
 obtain⟨q,hq⟩:=qc (x+y);rw[<-hq.out];have HQ:Hid (Rat.divInt (x.num*y.den+y.num*x.den) ((x.den:Int)*y.den)=q):=by rw[Hid,hq.out,QF]
 have L1:Hid (ln (x.num*(y.den:Int)).natAbs<=2000000000):=by rw[Hid,Int.natAbs_mul,Int.natAbs_natCast];exact xC hz.1 hz'.2
 have L2:Hid (ln (y.num*(x.den:Int)).natAbs<=2000000000):=by rw[Hid,Int.natAbs_mul,Int.natAbs_natCast];exact xC hz'.1 hz.2
 have L3:Hid (ln ((x.den:Int)*(y.den:Int)).natAbs<=2000000000):=by rw[Hid,Int.natAbs_mul,Int.natAbs_natCast,Int.natAbs_natCast];exact xC hz.2 hz'.2
 have D0:Hid ((x.den:Int)*(y.den:Int)≠0):=by have h8:=x.den_pos;have h9:=y.den_pos;exact Int.mul_ne_zero (by omega) (by omega)
 clear hq;have hI:=h;have hI':=h';have hN:=h.le;obtain⟨m1,X1,i1,d1,X2,i2,d2,rfl,hm1,gx1,gx2⟩:=h.parts;obtain⟨m2,Y1,i3,d3,Y2,i4,d4,rfl,hm2,gy1,gy2⟩:=h'.parts;have HZ:=q_h hz;have HZ':=q_h hz';clear hz hz' h h' gx1 gx2 gy1 gy2;go_enter Tryz.func125,Tryz.ntmps125;go_wp2;refine xX ?_;intro W hE hsz B0 B1 B2;obtain⟨a0,a1,a2,a3,-⟩:=cells4 B0;obtain⟨b0,b1,b2,b3,-⟩:=cells4 B1
 go_cut [] (fun wx=>∃n1 A1 k1 c1 A2 k2 c2 n2 A3 k3 c3 A4 k4 c4,Ext w wx/\w.heap.size+2<=wx.heap.size/\wx.heap[w.heap.size]?=some (.cells #[.bool n1,.slice A1 k1 c1,.bool false,.slice A2 k2 c2] 35 (0,0))/\wx.heap[w.heap.size+1]?=some (.cells #[.bool n2,.slice A3 k3 c3,.bool false,.slice A4 k4 c4] 35 (0,0))/\Hid (n1=decide (x.num<0))/\Hid (n2=decide (y.num<0))/\Gs N wx (.slice A1 k1 c1) (dg x.num.natAbs)/\Gs N wx (.slice A2 k2 c2) (dg x.den)/\Gs N wx (.slice A3 k3 c3) (dg y.num.natAbs)/\Gs N wx (.slice A4 k4 c4) (dg y.den)/\w.heap.size+3<=wx.heap.size/\wx.heap[w.heap.size+1+1]?=some (.cells #[.bool false,.slice none 0 0,.bool false,.slice none 0 0] 35 (0,0)))
 case first =>
  have eC:=(Ext.refl W).drew
  go_region_with (first
   | (go_at_call_of 135 X1;refine (jb (by exact hI.ext (hE.trans eC)) HZ.out).mono ?_;intro e w1 hh;obtain⟨n1,A1,k1,c1,A2,k2,c2,rfl,hb1,g1,g2,e1⟩:=hh.form;replace eC:=eC.trans e1;have C0:=eC.block B0;have C1:=eC.block B1;obtain⟨p0,p1,p2,p3,p4,p5,p6,p7⟩:=cells4 C0;obtain⟨q0,q1,q2,q3,q4,q5,q6,q7⟩:=cells4 C1)
   | (go_at_call_of 135 Y1;refine (jb (by exact hI'.ext (hE.trans eC)) HZ'.out).mono ?_;intro e w2 hh;obtain⟨n2,A3,k3,c3,A4,k4,c4,rfl,hb2,g3,g4,e2⟩:=hh.form;replace eC:=eC.trans e2;have C0:=eC.block B0;have C1:=eC.block B1;obtain⟨p0,p1,p2,p3,p4,p5,p6,p7⟩:=cells4 C0;obtain⟨q0,q1,q2,q3,q4,q5,q6,q7⟩:=cells4 C1))
  all_goals
   go_wp2_with fail
   go_meet
   obtain⟨w3,E3,D0,U⟩:=ex4 C0 (.bool n1) (.slice A1 k1 c1) (.bool false) (.slice A2 k2 c2);rw[E3];obtain⟨w4,E4,D1,U'⟩:=ex4 (U.blk C1 (by omega)) (.bool n2) (.slice A3 k3 c3) (.bool false) (.slice A4 k4 c4);rw[E4];have hT0:=NoU.mk C0 (by decide);have hT1:=NoU.mk (U.blk C1 (by omega)) (by decide);refine⟨n1,A1,k1,c1,A2,k2,c2,n2,A3,k3,c3,A4,k4,c4,U'.ext (U.ext (hE.trans eC) (q_r)) (by omega),?_,U'.blk D0 (by omega),D1,hb1,hb2,((g1.ext e2).upd U (by omega) hT0).upd U' (by omega) hT1,((g2.ext e2).upd U (by omega) hT0).upd U' (by omega) hT1,(g3.upd U (by omega) hT0).upd U' (by omega) hT1,(g4.upd U (by omega) hT0).upd U' (by omega) hT1,(by rw[U'.size,U.size];have:=eC.size;omega),U'.blk (U.blk (eC.block B2) (by omega)) (by omega)⟩;rw[U'.size,U.size];have:=eC.size;omega
 case rest =>
  clear a0 a1 a2 a3 b0 b1 b2 b3 B0 B1 B2 hE hsz hI hI';obtain⟨n1,A1,k1,c1,A2,k2,c2,n2,A3,k3,c3,A4,k4,c4,hE,-,B0,B1,hb1,hb2,g1,g2,g3,g4,hsz,B2⟩:=hcut;obtain⟨a0,a1,a2,a3,-⟩:=cells4 B0;obtain⟨b0,b1,b2,b3,-⟩:=cells4 B1;have eC:=(Ext.refl wc).drew;go_wp2
  go_region_held3 (fun w'=>(w'.cell? ⟨w.heap.size,0,none⟩=some (.bool n1)/\w'.cell? ⟨w.heap.size,1,none⟩=some (.slice A1 k1 c1)/\w'.cell? ⟨w.heap.size,2,none⟩=some (.bool false)/\w'.cell? ⟨w.heap.size,3,none⟩=some (.slice A2 k2 c2))/\(w'.cell? ⟨w.heap.size+1,0,none⟩=some (.bool n2)/\w'.cell? ⟨w.heap.size+1,1,none⟩=some (.slice A3 k3 c3)/\w'.cell? ⟨w.heap.size+1,2,none⟩=some (.bool false)/\w'.cell? ⟨w.heap.size+1,3,none⟩=some (.slice A4 k4 c4)))
   ((repeat' apply And.intro)<;>repeat with_reducible first|assumption|exact eC.cell (by assumption)|refine cell_far _ ?_ (by omega))
   (first
    | (go_at_call_of 156 A1;refine (Jn (by exact zF hb1 (g1.ext eC)) (by exact zM (g4.ext eC)) (by have:=HZ.out.1;omega) (by rw[Int.natAbs_natCast];have:=HZ'.out.2;omega)).mono ?_;rintro e w5 ⟨v5,rfl,h5,e5⟩;replace eC:=eC.trans e5)
    | (go_at_call_of 156 A3;refine (Jn (by exact zF hb2 (g3.ext eC)) (by exact zM (g2.ext eC)) (by have:=HZ'.out.1;omega) (by rw[Int.natAbs_natCast];have:=HZ.out.2;omega)).mono ?_;rintro e w6 ⟨v6,rfl,h6,e6⟩;replace eC:=eC.trans e6)
    | (go_at_call_of 156 A2;refine (Jn (by exact zM (g2.ext eC)) (by exact zM (g4.ext eC)) (by rw[Int.natAbs_natCast];have:=HZ.out.2;omega) (by rw[Int.natAbs_natCast];have:=HZ'.out.2;omega)).mono ?_;rintro e w9 ⟨v9,rfl,h9,e9⟩;replace eC:=eC.trans e9)
    | (go_at_call 161;refine (i_add (by exact h5.ext e6) (by exact h6) (by have:=L1.out;omega) (by have:=L2.out;omega)).mono ?_;rintro e w7 ⟨v7,rfl,h7,e7⟩;replace eC:=eC.trans e7)
    | (go_at_call 160;refine (ZN (by exact h7.ext e9) (by exact h9) D0.out (q_l (q2P L1.out L2.out) (by omega)) (by have:=L3.out;omega)).mono ?_;rw[HQ.out];intro e w10 hh;obtain⟨n10,A10,k10,c10,A11,k11,c11,rfl,hb10,h10,h11,e10⟩:=hh.form;replace eC:=eC.trans e10;obtain⟨r0,r1,r2,r3,r4,r5,r6,r7⟩:=cells4 (eC.block B2)))
  go_wp2;exact qQ rfl rfl rfl (hE.trans eC) (eC.block B2) (by omega) hN h10 h11 hb10
theorem WB{v':Value}{y:Rat}(h:qX N w v x) (h':qX N w v' y) (hz:Sz x) (hz':Sz y) :
  Calls Tryz.prog 6 #[v,v'] w (jP N w (x+y)):=by
 obtain⟨q,hq⟩:=qc (x+y);rw[<-hq.out];have HQ:Hid (Rat.divInt (x.num*y.den+y.num*x.den) ((x.den:Int)*y.den)=q):=by rw[Hid,hq.out,QF]
 have L1:Hid (ln (x.num*(y.den:Int)).natAbs<=2000000000):=by rw[Hid,Int.natAbs_mul,Int.natAbs_natCast];exact xC hz.1 hz'.2
 have L2:Hid (ln (y.num*(x.den:Int)).natAbs<=2000000000):=by rw[Hid,Int.natAbs_mul,Int.natAbs_natCast];exact xC hz'.1 hz.2
 have L3:Hid (ln ((x.den:Int)*(y.den:Int)).natAbs<=2000000000):=by rw[Hid,Int.natAbs_mul,Int.natAbs_natCast,Int.natAbs_natCast];exact xC hz.2 hz'.2
 have D0:Hid ((x.den:Int)*(y.den:Int)≠0):=by have h8:=x.den_pos;have h9:=y.den_pos;exact Int.mul_ne_zero (by omega) (by omega)
 clear hq;have hI:=h;have hI':=h';have hN:=h.le;obtain⟨m1,X1,i1,d1,X2,i2,d2,rfl,hm1,gx1,gx2⟩:=h.parts;obtain⟨m2,Y1,i3,d3,Y2,i4,d4,rfl,hm2,gy1,gy2⟩:=h'.parts;have HZ:=q_h hz;have HZ':=q_h hz';clear hz hz' h h' gx1 gx2 gy1 gy2;go_enter Tryz.func6,Tryz.ntmps6;go_wp2_with (go_at_call 26;refine q_o ?_);refine ZX ?_;intro W hE hsz B0 B1 B2;refine (yC (hI.ext hE) HZ.out).mono ?_;intro e w1 hh;obtain⟨n1,A1,k1,c1,A2,k2,c2,rfl,hb1,g1,g2,e1⟩:=hh.form;replace hE:=hE.trans e1;replace hsz:=q_l hsz e1.size;replace B1:=e1.block B1;replace B2:=e1.block B2;obtain⟨b0,b1,b2,b3,-⟩:=cells4 B1;have hl1:w.heap.size+1<w1.heap.size:=by omega
 go_wp2_with (go_at_call 26;refine q_o ?_);refine qW ?_;intro W2 e2 hsz2 C0;replace hE:=hE.trans e2;refine (yC (hI'.ext hE) HZ'.out).mono ?_;intro e w3 hh;obtain⟨n2,A3,k3,c3,A4,k4,c4,rfl,hb2,g3,g4,e3⟩:=hh.form;replace hE:=hE.trans e3;have hsz3:w1.heap.size+1<=w3.heap.size:=by have:=e3.size;omega
 go_upto_region 3 with (fail);refine qo ?_;intro W4 e4 hsz4 C1;replace hE:=hE.trans e4;replace B2:=e4.block (e3.block (e2.block B2));replace C0:=e4.block (e3.block C0);replace g1:=((g1.ext e2).ext e3).ext e4;replace g2:=((g2.ext e2).ext e3).ext e4;replace g3:=g3.ext e4;replace g4:=g4.ext e4;clear b0 b1 b2 b3 B0 B1;obtain⟨a0,a1,a2,a3,-⟩:=cells4 C0;obtain⟨b0,b1,b2,b3,-⟩:=cells4 C1;have eC:=(Ext.refl W4).drew
 go_region_held3 (fun w'=>(w'.cell? ⟨w1.heap.size,0,none⟩=some (.bool n1)/\w'.cell? ⟨w1.heap.size,1,none⟩=some (.slice A1 k1 c1)/\w'.cell? ⟨w1.heap.size,2,none⟩=some (.bool false)/\w'.cell? ⟨w1.heap.size,3,none⟩=some (.slice A2 k2 c2))/\(w'.cell? ⟨w3.heap.size,0,none⟩=some (.bool n2)/\w'.cell? ⟨w3.heap.size,1,none⟩=some (.slice A3 k3 c3)/\w'.cell? ⟨w3.heap.size,2,none⟩=some (.bool false)/\w'.cell? ⟨w3.heap.size,3,none⟩=some (.slice A4 k4 c4)))
  ((repeat' apply And.intro)<;>repeat with_reducible first|assumption|exact eC.cell (by assumption)|refine cell_far _ ?_ (by omega))
  (first
   | (go_at_call_of 29 A1;refine (QJ (by exact zF hb1 (g1.ext eC)) (by exact zM (g4.ext eC)) (by have:=HZ.out.1;omega) (by rw[Int.natAbs_natCast];have:=HZ'.out.2;omega)).mono ?_;rintro e w5 ⟨v5,rfl,h5,e5⟩;replace eC:=eC.trans e5)
   | (go_at_call_of 29 A3;refine (QJ (by exact zF hb2 (g3.ext eC)) (by exact zM (g2.ext eC)) (by have:=HZ'.out.1;omega) (by rw[Int.natAbs_natCast];have:=HZ.out.2;omega)).mono ?_;rintro e w6 ⟨v6,rfl,h6,e6⟩;replace eC:=eC.trans e6)
   | (go_at_call_of 29 A2;refine (QJ (by exact zM (g2.ext eC)) (by exact zM (g4.ext eC)) (by rw[Int.natAbs_natCast];have:=HZ.out.2;omega) (by rw[Int.natAbs_natCast];have:=HZ'.out.2;omega)).mono ?_;rintro e w9 ⟨v9,rfl,h9,e9⟩;replace eC:=eC.trans e9)
   | (go_at_call 28;refine (q6b (by exact h5.ext e6) (by exact h6) (by have:=L1.out;omega) (by have:=L2.out;omega)).mono ?_;rintro e w7 ⟨v7,rfl,h7,e7⟩;replace eC:=eC.trans e7)
   | (go_at_call 27;refine (KZ (by exact h7.ext e9) (by exact h9) D0.out (q_l (q2P L1.out L2.out) (by omega)) (by have:=L3.out;omega)).mono ?_;rw[HQ.out];intro e w10 hh;obtain⟨n10,A10,k10,c10,A11,k11,c11,rfl,hb10,h10,h11,e10⟩:=hh.form;replace eC:=eC.trans e10;obtain⟨r0,r1,r2,r3,r4,r5,r6,r7⟩:=cells4 (eC.block B2)))
 go_wp2;exact qQ rfl rfl rfl (hE.trans eC) (eC.block B2) (by omega) hN h10 h11 hb10
end Go.Proofs.YtflhlobiipejeaaGreat
