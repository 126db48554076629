import Derived.Test.YtflhlobiipejeaaGreatWb03
set_option linter.all false
set_option maxHeartbeats 8000000
namespace Go.Proofs.YtflhlobiipejeaaGreat
open Go.RowKit
variable {w:World} {N n g d:Nat} {v:Value} {l:List Nat}
theorem Gs.uniq{l':List Nat}(h:Gs N w v l) (h':Gs N w v l'):l=l':=by
 obtain⟨hN,A,n,c,rfl,h1,h2,h3,h4,h5⟩:=h;obtain⟨_,A',n',c',hv,h1',_,_,h4',h5'⟩:=h';injection hv with e1 e2 e3
 subst e1 e2 e3
 apply List.ext_getElem (by omega)
 intro i hi hi';obtain⟨b,o,hA,_,hc⟩:=h5 (by omega);obtain⟨b',o',hA',_,hc'⟩:=h5' (by omega);rw[hA] at hA';injection hA' with hA'
 injection hA' with eb eo
 subst eb eo;have e:=(hc i (by omega)).symm.trans (hc' i (by omega));rw[List.getElem?_eq_getElem hi,List.getElem?_eq_getElem hi'] at e;simp only[Option.getD_some,Option.some.injEq,Value.int.injEq,true_and] at e;omega
open Classical in
noncomputable def q4D (N:Nat) (w:World) (v:Value):Nat:=if h:∃n,Gs N w v (dg n) then h.choose else 0
theorem xU(h:Gs N w v (dg n)):q4D N w v=n:=by
 unfold q4D;have hx:∃n,Gs N w v (dg n):=⟨n,h⟩
 rw[dif_pos hx];exact q3y (hx.choose_spec.uniq h)
theorem yK (a b:Nat):Nat.gcd b (a % b)=Nat.gcd a b:=by rw[Nat.gcd_comm a b,Nat.gcd_rec b a,Nat.gcd_comm]
theorem q8R(hN:N<=w.heap.size){d':Nat}(hd:d<4294967296) (hd':d' < 4294967296){x y:Int}(hx:x=((d:Nat):Int)) (hy:y=((d':Nat):Int))(hg:w.heap.size=g):Gs N (w.alloc (.cells #[.int .u32 x,.int .u32 y] 119)) (.slice (some ⟨g,0,none⟩) 2 2) [d,d']:=by
 subst hg hx hy;refine⟨by simp;omega,_,2,2,rfl,rfl,q_r,by unfold maxLen;omega,by intro z hz;simp at hz;omega,fun _=>⟨w.heap.size,0,rfl,⟨by simp,.inr ⟨_,(0,0),heap_alloc_new w _⟩⟩,fun i hi=>?_⟩⟩
 match i,hi with
 | 0,_=>exact qh (heap_alloc_new w _) 0
 | 1,_=>exact qh (heap_alloc_new w _) 1
def q9q (N:Nat) (W:World) (G:Nat) (va vb:Value) (wr:World):Prop :=
 ∃(a b:Nat) (A:Option Addr) (m c:Nat) (A':Option Addr) (m' c':Nat),va=.slice A m c/\vb=.slice A' m' c'/\Gs N wr (.slice A m c) (dg a)/\Gs N wr (.slice A' m' c') (dg b)/\Nat.gcd a b=G/\ln a<=35184372088800/\ln b<=35184372088800/\Ext W wr
def q9r (G:Nat) (u v:Value):Prop :=
 ∃(uz vz:Int),u=.int .u64 uz/\v=.int .u64 vz/\0<=uz/\uz<=999999999999999999/\0<=vz/\vz<=999999999999999999/\Nat.gcd uz.toNat vz.toNat=G
theorem q6a{v':Value}{x y:Int}(h:zy N w v x) (h':zy N w v' y) (hL:ln x.natAbs<=35184372088800) (hL':ln y.natAbs<=35184372088800) :
  Calls Tryz.prog 67 #[v,v'] w (Kr N w ((Int.gcd x y:Nat):Int)):=by
 obtain⟨G,hG⟩:=qc (Int.gcd x y);rw[<-hG.out];have hI:=h;have hI':=h';obtain⟨s,rfl,hs⟩:=h;obtain⟨s',rfl,hs'⟩:=h';have hN:=hs.le;obtain⟨A1,k1,c1,rfl,hlen,-,-⟩:=hs.form;obtain⟨A2,k2,c2,rfl,hlen',-,-⟩:=hs'.form
 generalize hneg:decide (x<0)=n1 at *
 generalize hneg':decide (y<0)=n2 at *
 have Hn1:=q_h hneg;have Hn2:=q_h hneg';clear hneg hneg';have HL:=q_h hL;have HL':=q_h hL';clear hL hL';go_enter Tryz.func67,Tryz.ntmps67;go_wp2;refine xX ?_;intro W hE hsz B0 B1 B2;obtain⟨a0,a1,a2,a3⟩:=cells2 B0;obtain⟨b0,b1,b2,b3⟩:=cells2 B1;have eC:=(Ext.refl W).drew
 go_region_held3 (fun w'=>w'.cell? ⟨w.heap.size,0,none⟩=some (.bool n1)/\w'.cell? ⟨w.heap.size,1,none⟩=some (.slice A1 k1 c1)/\w'.cell? ⟨w.heap.size+1,0,none⟩=some (.bool n2)/\w'.cell? ⟨w.heap.size+1,1,none⟩=some (.slice A2 k2 c2)) (first|exact⟨a0,a1,b0,b1⟩|exact⟨eC.cell a0,eC.cell a1,eC.cell b0,eC.cell b1⟩)
  (first
   | (go_at_call 71;refine (xm (by exact hI.ext (hE.trans eC)) (by have:=HL.out;omega)).mono ?_;intro e w1 hh;obtain⟨bb,A3,k3,c3,rfl,hb3,h3,e3⟩:=hh.form;replace eC:=eC.trans e3;have hf3:=fun w=>q4a (.bool bb) (.slice A3 k3 c3) w)
   | (go_at_call 71;refine (xm (by exact hI'.ext (hE.trans eC)) (by have:=HL'.out;omega)).mono ?_;intro e w2 hh;obtain⟨bb',A4,k4,c4,rfl,hb4,h4,e4⟩:=hh.form;replace eC:=eC.trans e4;have hf4:=fun w=>q4a (.bool bb') (.slice A4 k4 c4) w))
 replace h3:=h3.ext e4;have D2:=eC.block B2;have hE2:=hE.trans eC;clear eC hf3 hf4 hb3 hb4 a0 a1 a2 a3 b0 b1 b2 b3 e3 e4;go_wp2
 go_loopw [5,6] (fun a b wr=>q9q N w2 G a b wr) (fun _ b wr=>q4D N wr b)
 case atStart=>exact⟨_,_,A3,k3,c3,A4,k4,c4,rfl,rfl,h3,h4,hG.out.symm,HL.out,HL'.out,Ext.refl _⟩
 case round =>
  obtain⟨a,b,A,m,c,A',m',c',rfl,rfl,ga,gb,hgcd,hla,hlb,e6⟩:=hrel;have HG:=q_h hgcd;have HLa:=q_h hla;have HLb:=q_h hlb;clear hgcd hla hlb;have hma:Hid ((dg a).length=m):=by obtain⟨A',n',c',hv,hl',-,-⟩:=ga.form;cases hv;exact hl'
  have hmb:Hid ((dg b).length=m'):=by obtain⟨A',n',c',hv,hl',-,-⟩:=gb.form;cases hv;exact hl'
  rcases Nat.eq_zero_or_pos m' with h0|h0
  ·subst h0
   have HF:Hid (a=G):=by
    have h1:b=0:=zU.1 (List.eq_nil_of_length_eq_zero hmb.out);have:=HG.out;rw[h1,Nat.gcd_zero_right] at this;exact this
   go_wp2_with (go_at_call 72;refine q_o ?_);refine (yD ga (by have:=HLa.out;omega) (G:Int) (by rw[HF.out];simp[Hid])).mono ?_;intro e w7 hh;obtain⟨bb7,A7,k7,c7,rfl,hb7,h7,e7⟩:=hh.form;have D3:=e7.block (e6.block D2);obtain⟨r0,r1,r2,r3⟩:=cells2 D3;go_wp2;exact zC rfl rfl rfl ((hE2.trans e6).trans e7) D3 (by omega) hN h7 hb7.out rfl
  ·have hb0:Hid (b≠0):=by
    unfold Hid;rintro rfl;have:=hmb.out;rw[zO] at this;simp at this;omega
   by_cases hbig:2<m\/2<m'
   ·have HM:Hid (a % b<b):=Nat.mod_lt _ (by have:=hb0.out;omega)
    rcases Nat.lt_or_ge 2 m with hm2|hm2
    ·go_wp2_with (go_at_call 117;refine q_o ?_);refine (J5 ga gb hb0.out HLa.out).mono ?_;rintro e w7 ⟨A7,m7,c7,A8,m8,c8,rfl,-,g8,e7⟩;go_wp2;go_roundw
     case rel=>exact⟨b,a % b,A',m',c',A8,m8,c8,rfl,rfl,gb.ext e7,g8,(yK a b).trans HG.out,HLb.out,q_l (yg _ _) HLa.out,e6.trans e7⟩
     case measure=>rw[xU g8,xU gb];exact HM.out
    ·have hm3:2<m':=by omega
     go_wp2_with (go_at_call 117;refine q_o ?_);refine (J5 ga gb hb0.out HLa.out).mono ?_;rintro e w7 ⟨A7,m7,c7,A8,m8,c8,rfl,-,g8,e7⟩;go_wp2;go_roundw
     case rel=>exact⟨b,a % b,A',m',c',A8,m8,c8,rfl,rfl,gb.ext e7,g8,(yK a b).trans HG.out,HLb.out,q_l (yg _ _) HLa.out,e6.trans e7⟩
     case measure=>rw[xU g8,xU gb];exact HM.out
   ·have hm2:m<=2:=by omega
    have hm3:m'<=2:=by omega
    have hne:((m':Int) == 0)=false:=by simp;omega
    clear hbig
    have HXa:Hid (a<1000000000000000000):=by
     have:=qP a;have h1:bs ^ ln a<=bs ^ 2:=Nat.pow_le_pow_right qV (by unfold ln;rw[hma.out];exact hm2);have h2:bs ^ 2=1000000000000000000:=(by decide);unfold Hid;omega
    have HXb:Hid (b<1000000000000000000):=by
     have:=qP b;have h1:bs ^ ln b<=bs ^ 2:=Nat.pow_le_pow_right qV (by unfold ln;rw[hmb.out];exact hm3);have h2:bs ^ 2=1000000000000000000:=(by decide);unfold Hid;omega
    go_wp2_with (go_at_call 118;refine q_o ?_);refine (q2j ga (by unfold ln;rw[hma.out];exact hm2)).mono ?_;rintro e w' ⟨rfl,rfl⟩;obtain⟨az,haz⟩:=qc (a:Int);rw[<-haz.out];go_wp2_with (go_at_call 118;refine q_o ?_);refine (q2j gb (by unfold ln;rw[hmb.out];exact hm3)).mono ?_;rintro e w' ⟨rfl,rfl⟩;obtain⟨bz,hbz⟩:=qc (b:Int);rw[<-hbz.out];go_wp2
    go_loopw [9,10] (fun u v wx=>q9r G u v/\Ext wr wx) (fun _ v _=>(intOf v).toNat)
    case atStart=>exact⟨⟨az,bz,rfl,rfl,by rw[haz.out];omega,by have:=haz.out;have:=HXa.out;omega,by rw[hbz.out];omega,by have:=hbz.out;have:=HXb.out;omega,by rw[haz.out,hbz.out,Int.toNat_natCast,Int.toNat_natCast];exact HG.out⟩,Ext.refl _⟩
    case round =>
     obtain⟨⟨uz,vz,rfl,rfl,u0,u1,v0,v1,hg2⟩,ex⟩:=hrel;have HG2:=q_h hg2;clear hg2
     by_cases hv:0<vz
     ·have hvn:(vz == 0)=false:=by simp;omega
      have m0:0<=uz % vz:=Int.emod_nonneg _ (by omega);have m1:uz % vz<vz:=Int.emod_lt_of_pos _ hv
      have HN:Hid (Nat.gcd vz.toNat (uz % vz).toNat=G):=by
       rw[Hid,Int.toNat_emod u0 v0,yK];exact HG2.out
      have hv1:1<=vz:=by omega
      go_wp2
      go_quiet (fail)
      go_wp2;go_roundw
      case rel=>exact⟨⟨vz,uz % vz,rfl,rfl,by omega,by omega,m0,by omega,HN.out⟩,ex.drewN _⟩
      case measure=>simp[intOf];omega
     ·obtain rfl:vz=0:=by omega
      have HF:Hid (uz.toNat=G):=by have:=HG2.out;unfold Hid;simpa using this
      go_wp2_with (go_at_call 72;refine q_o ?_);refine (xg (q8R (N:=N) (d:=(uz % 1000000000).toNat) (d':=(uz / 1000000000).toNat) (by have:=hE2.size;have:=e6.size;have:=ex.size;omega) (by omega) (by omega) (by omega) (by omega) rfl) (Dig.mk (by unfold bs;omega) (Dig.mk (by unfold bs;omega) Dig.nil)) (by simp) (G:Int) (by rw[<-HF.out];simp only[val,Hid];unfold bs;simp;omega)).mono ?_;intro e w7 hh;obtain⟨bb7,A7,k7,c7,rfl,hb7,h7,e7⟩:=hh.form;have eT:=(ex.alloc (Obj.cells #[Value.int IntKind.u32 (uz % 1000000000),Value.int IntKind.u32 (uz / 1000000000)] 119)).trans e7;have D3:=eT.block (e6.block D2);obtain⟨r0,r1,r2,r3⟩:=cells2 D3;go_wp2;exact zC rfl rfl rfl ((hE2.trans e6).trans eT) D3 (by omega) hN h7 hb7.out rfl
end Go.Proofs.YtflhlobiipejeaaGreat
