import Derived.Test.YtphpkhoeplcedaaGreatWb10
import Derived.Test.YtphpkhoeplcedaaGreatWb05
set_option linter.all false
set_option maxHeartbeats 8000000
namespace Go.Proofs.YtphpkhoeplcedaaGreat
open Go.RowKit
theorem i_shortN {N:Nat} {w:World} {s:Value} {p:Nat} (h:Gs N w s (dg p)) (hL:ln p≤1000000000000) (dz:Int) (d0:1≤dz) (d1:dz≤1000000000) :
  Calls Tryz.prog 221 #[s,.int .u32 dz] w (RetQ N w .u32 (p / dz.toNat) ((p % dz.toNat:Nat):Int)):=by
 have:=i_short h (dig_dg _) hL dz d0 d1
 rwa [val_dg] at this
theorem lt_two {x:Nat} (h:ln x≤2):x < 1000000000000000000:=by
 have:=lt_pow_ln x;have h2:bs ^ ln x≤bs ^ 2:=Nat.pow_le_pow_right bs_pos h;have h3:bs ^ 2=1000000000000000000:=by decide
 omega
theorem i_word_any {N:Nat} {w:World} {s:Value} {x:Nat} (h:Gs N w s (dg x)) :
  Calls Tryz.prog 193 #[s] w fun e w'=>∃ (m:Int) (b:Bool),e=.returned (.tuple #[.int .u64 m,.bool b])∧Ext w w':=by
 rcases Nat.lt_or_ge 2 (ln x) with h1 | h1
 ·refine (i_word_no h h1).mono ?_;rintro e w' ⟨rfl,he⟩;exact⟨_,_,rfl,he⟩
 ·refine (i_word h h1).mono ?_;rintro e w' ⟨rfl,he⟩;exact⟨_,_,rfl,he⟩
set_option maxRecDepth 4000 in
theorem i_over {N:Nat} {w:World} {A1:Option Addr} {k1 c1:Nat} {A2:Option Addr} {k2 c2:Nat} {x y:Nat} (h:Gs N w (.slice A1 k1 c1) (dg x)) (h':Gs N w (.slice A2 k2 c2) (dg y)) (hy:y≠0) (hL:ln x≤100000000000) :
  Calls Tryz.prog 195 #[.slice A1 k1 c1,.slice A2 k2 c2] w (RetQQ N w (x / y) (x % y)):=by
 obtain⟨q,hq⟩:=hid_eq (x / y);obtain⟨r,hr⟩:=hid_eq (x % y);rw [←hq.out,←hr.out];have hN:=h.le;have hlx:Hid (ln x=k1):=by obtain⟨A',n',c',hv,hl',-,-⟩:=h.form; cases hv; exact hl'
 have hly:Hid (ln y=k2):=by obtain⟨A',n',c',hv,hl',-,-⟩:=h'.form; cases hv; exact hl'
 have HY:=Lib.hid hy;have HL:=Lib.hid hL;clear hy hL;obtain⟨cz,hcz⟩:=hid_eq (cmpN x y);go_enter Tryz.func195,Tryz.ntmps195;go_wp2_with (go_at_call 162; refine Hid.out ?_);refine (i_compare h h').mono ?_;rintro e w1 ⟨rfl,e1⟩;rw [←hcz.out]
 by_cases hlt:x < y
 ·have hc:cz < 0:=by rw [hcz.out,cmpN_lt hlt]; omega
  have HQ:Hid (q=0∧r=x):=by rw [Hid,hq.out,hr.out]; exact⟨Nat.div_eq_of_lt hlt,Nat.mod_eq_of_lt hlt⟩
  clear hlt;go_wp2;go_ret2;exact⟨_,_,_,_,_,_,rfl,by rw [HQ.out.1,dg_zero]; exact Gs.nil (by have:=e1.size; omega) _ (Nat.zero_le _),by rw [HQ.out.2]; exact h.ext e1,e1⟩
 ·have hc:0≤cz:=by rw [hcz.out]; exact cmpN_ge.2 (by omega)
  have Hle:Hid (y≤x):=by unfold Hid; omega
  clear hlt;have HLY:Hid (ln y≤ln x):=ln_mono Hle.out
  by_cases hx2:ln x≤2
  ·obtain⟨xz,hxz⟩:=hid_eq (x:Int);obtain⟨yz,hyz⟩:=hid_eq (y:Int);have x0:0≤xz:=by rw [hxz.out]; omega
   have x1:xz < 1000000000000000000:=by have:=lt_two hx2; rw [hxz.out]; omega
   have y0:1≤yz:=by have:=HY.out; rw [hyz.out]; omega
   have y1:yz < 1000000000000000000:=by have:=lt_two (Nat.le_trans HLY.out hx2); rw [hyz.out]; omega
   obtain⟨qz,hqz⟩:=hid_eq (xz / yz);obtain⟨rz,hrz⟩:=hid_eq (xz % yz);have HQZ:Hid (qz.toNat=q):=by rw [Hid,hqz.out,hq.out,hxz.out,hyz.out,←Int.natCast_ediv,Int.toNat_natCast]
   have HRZ:Hid (rz.toNat=r):=by rw [Hid,hrz.out,hr.out,hxz.out,hyz.out,←Int.natCast_emod,Int.toNat_natCast]
   have q0:0≤qz:=by rw [hqz.out]; exact Int.ediv_nonneg x0 (by omega)
   have q1:qz≤xz:=by rw [hqz.out]; exact Int.ediv_le_self _ x0
   have r0:0≤rz:=by rw [hrz.out]; exact Int.emod_nonneg _ (by omega)
   have r1:rz < yz:=by rw [hrz.out]; exact Int.emod_lt_of_pos _ (by omega)
   have i1:xz.tdiv yz=qz:=by rw [Int.tdiv_eq_ediv_of_nonneg x0]; exact hqz.out.symm
   have i2:xz.tmod yz=rz:=by rw [Int.tmod_eq_emod_of_nonneg x0]; exact hrz.out.symm
   have i3:IntKind.u64.wrap qz=qz:=IntWalk.u64_in _ (by omega);have i4:IntKind.u64.wrap rz=rz:=IntWalk.u64_in _ (by omega);have i5:¬ yz=0:=by omega
   have i6:(yz == 0)=false:=by simpa using i5
   have i7:xz / yz=qz:=hqz.out.symm;have i8:xz % yz=rz:=hrz.out.symm;have HX2:=Lib.hid hx2;clear hx2;go_wp2_with (go_at_call 193; refine Hid.out ?_);refine (i_word (h.ext e1) HX2.out).mono ?_;rintro e w2 ⟨rfl,e2⟩;rw [←hxz.out];go_wp2_with (go_at_call 193; refine Hid.out ?_);refine (i_word ((h'.ext e1).ext e2) (Nat.le_trans HLY.out HX2.out)).mono ?_;rintro e w3 ⟨rfl,e3⟩;rw [←hyz.out];have hE:=(e1.trans e2).trans e3;have hN3:N≤w3.heap.size:=Nat.le_trans hN hE.size;go_wp2;have eC:=(Ext.refl w3).drew
   go_region_held3 (fun w'=>True) (trivial)
    (first
     | (go_at_call_of 194 qz; refine (i_splitN (N:=N) (by have:=eC.size; omega) qz q0 (by omega)).mono ?_; intro e w4 hh; obtain⟨A4,k4,c4,rfl,h4,e4⟩:=hh.form; replace eC:=eC.trans e4)
     | (go_at_call_of 194 rz; refine (i_splitN (N:=N) (by have:=eC.size; omega) rz r0 (by omega)).mono ?_; intro e w5 hh; obtain⟨A5,k5,c5,rfl,h5,e5⟩:=hh.form; replace eC:=eC.trans e5))
   go_wp2;go_ret2;rw [HQZ.out] at h4;rw [HRZ.out] at h5;exact⟨_,_,_,_,_,_,rfl,h4.ext e5,h5,hE.trans eC⟩
  ·have HX2:Hid (2 < ln x):=by unfold Hid; omega
   clear hx2;go_wp2_with (go_at_call 193; refine Hid.out ?_);refine (i_word_no (h.ext e1) HX2.out).mono ?_;rintro e w2 ⟨rfl,e2⟩;go_wp2_with (go_at_call 193; refine Hid.out ?_);refine (i_word_any ((h'.ext e1).ext e2)).mono ?_;rintro e w3 ⟨mz,mb,rfl,e3⟩;have hE:=(e1.trans e2).trans e3;have hN3:N≤w3.heap.size:=Nat.le_trans hN hE.size
   have k20:1≤k2:=by
    rcases Nat.eq_zero_or_pos k2 with h0 | h0
    ·exfalso
     have h1:=lt_pow_ln y;rw [hly.out,h0,Nat.pow_zero] at h1;exact HY.out (by omega)
    ·exact h0
   by_cases hk1:k2=1
   ·subst hk1;obtain⟨hd,hb,-⟩:=dg_one hly.out;obtain⟨b,o,yz,rfl,hb0,gc,y0,y1,hyz⟩:=(h'.ext hE).at_ (k:=0) (by omega);rw [Nat.add_zero] at gc
    have hyy:Hid (yz.toNat=y∧1≤yz∧yz < 1000000000):=by
     have h1:=hyz.out;have h2:=HY.out;rw [hd] at h1;simp at h1
     unfold bs at hb;unfold Hid; omega
    have y2:=hyy.out.2.1;have y3:=hyy.out.2.2;clear hd hb
    have HRb:Hid (r < 1000000000):=by
     have h1:=Nat.mod_lt x (show 0 < y by have:=hyy.out.1; omega);have h2:=hr.out;have h3:=hyy.out.1;unfold Hid; omega
    go_wp2_with (go_at_call 221; refine Hid.out ?_);refine (i_shortN (h.ext hE) (by have:=HL.out; omega) yz y2 (by omega)).mono ?_;rintro e w4 ⟨A3,k3,c3,rfl,h3,e4⟩;rw [hyy.out.1,←hr.out];rw [hyy.out.1,←hq.out] at h3;obtain⟨rz,hrz⟩:=hid_eq (r:Int);rw [←hrz.out];have r0:0≤rz:=by rw [hrz.out]; omega
    have r1:rz < 1000000000:=by have:=hrz.out; have:=HRb.out; omega
    have HRZ:Hid (rz.toNat=r):=by have:=hrz.out; unfold Hid; omega
    go_wp2_with (go_at_call 194; refine Hid.out ?_);refine (i_splitN (N:=N) (by have:=e4.size; omega) rz r0 (by omega)).mono ?_;intro e w5 hh;obtain⟨A5,k5,c5,rfl,h5,e5⟩:=hh.form;rw [HRZ.out] at h5;go_wp2;go_ret2;exact⟨_,_,_,_,_,_,rfl,h3.ext e5,h5,(hE.trans e4).trans e5⟩
   ·have t1:((k2:Int) == 1)=false:=by simpa using (show ¬ (k2:Int)=1 by omega)
    have k22:2≤k2:=by omega
    clear hk1;go_wp2_with (go_at_call 222; refine Hid.out ?_);refine (i_long (h.ext hE) (h'.ext hE) k22 Hle.out HL.out).mono ?_;rintro e w4 ⟨A4,k4,c4,A5,k5,c5,rfl,h4,h5,e4⟩;rw [←hq.out] at h4;rw [←hr.out] at h5;go_wp2;go_ret2;exact⟨_,_,_,_,_,_,rfl,h4,h5,hE.trans e4⟩
def GcdRelI (N:Nat) (W:World) (G:Nat) (va vb:Value) (wr:World):Prop :=
 ∃ (a b:Nat) (A:Option Addr) (m c:Nat) (A':Option Addr) (m' c':Nat),va=.slice A m c∧vb=.slice A' m' c'∧Gs N wr (.slice A m c) (dg a)∧Gs N wr (.slice A' m' c') (dg b)∧Nat.gcd a b=G∧ln a≤100000000000∧ln b≤100000000000∧Ext W wr
set_option maxRecDepth 4000 in
theorem i_gcd {N:Nat} {w:World} {v v':Value} {x y:Int} (h:IntV N w v x) (h':IntV N w v' y) (hL:ln x.natAbs≤100000000000) (hL':ln y.natAbs≤100000000000) :
  Calls Tryz.prog 148 #[v,v'] w (RetI N w ((Int.gcd x y:Nat):Int)):=by
 obtain⟨G,hG⟩:=hid_eq (Int.gcd x y);rw [←hG.out];have hI:=h;have hI':=h';obtain⟨s,rfl,hs⟩:=h;obtain⟨s',rfl,hs'⟩:=h';have hN:=hs.le;obtain⟨A1,k1,c1,rfl,hlen,-,-⟩:=hs.form;obtain⟨A2,k2,c2,rfl,hlen',-,-⟩:=hs'.form
 generalize hneg:decide (x < 0)=n1 at *
 generalize hneg':decide (y < 0)=n2 at *
 have Hn1:=Lib.hid hneg;have Hn2:=Lib.hid hneg';clear hneg hneg';have HL:=Lib.hid hL;have HL':=Lib.hid hL';clear hL hL';go_enter Tryz.func148,Tryz.ntmps148;go_wp2;refine boxes3 ?_;intro W hE hsz B0 B1 B2;obtain⟨a0,a1,a2,a3⟩:=cells2 B0;obtain⟨b0,b1,b2,b3⟩:=cells2 B1;have eC:=(Ext.refl W).drew
 go_region_held3 (fun w'=>w'.cell? ⟨w.heap.size,0,none⟩=some (.bool n1)∧w'.cell? ⟨w.heap.size,1,none⟩=some (.slice A1 k1 c1)∧w'.cell? ⟨w.heap.size+1,0,none⟩=some (.bool n2)∧w'.cell? ⟨w.heap.size+1,1,none⟩=some (.slice A2 k2 c2)) (first | exact⟨a0,a1,b0,b1⟩ | exact⟨eC.cell a0,eC.cell a1,eC.cell b0,eC.cell b1⟩ | exact⟨cell_far _ (cell_far _ (eC.cell a0) (by omega)) (by omega),cell_far _ (cell_far _ (eC.cell a1) (by omega)) (by omega),cell_far _ (cell_far _ (eC.cell b0) (by omega)) (by omega),cell_far _ (cell_far _ (eC.cell b1) (by omega)) (by omega)⟩)
  (first | (go_at_call 159; refine (i_groups (by exact hI.ext (hE.trans eC))).mono ?_; rintro e w1 ⟨rfl,e1⟩; replace eC:=eC.trans e1) | (go_at_call 159; refine (i_groups (by exact hI'.ext (hE.trans eC))).mono ?_; rintro e w1 ⟨rfl,e1⟩; replace eC:=eC.trans e1))
 have D2:=eC.block B2;have hE2:=hE.trans eC;clear eC a0 a1 a2 a3 b0 b1 b2 b3 B0 B1 B2;go_wp2
 go_loopw [5,6] (fun a b wr=>GcdRelI N w1 G a b wr) (fun _ b wr=>readN N wr b)
 case atStart=>exact⟨_,_,A1,k1,c1,A2,k2,c2,rfl,rfl,hs.ext hE2,hs'.ext hE2,hG.out.symm,HL.out,HL'.out,Ext.refl _⟩
 case round =>
  obtain⟨a,b,A,m,c,A',m',c',rfl,rfl,ga,gb,hgcd,hla,hlb,e6⟩:=hrel;have HG:=Lib.hid hgcd;have HLa:=Lib.hid hla;have HLb:=Lib.hid hlb;clear hgcd hla hlb;have hma:Hid (ln a=m):=by obtain⟨A',n',c',hv,hl',-,-⟩:=ga.form; cases hv; exact hl'
  have hmb:Hid (ln b=m'):=by obtain⟨A',n',c',hv,hl',-,-⟩:=gb.form; cases hv; exact hl'
  rcases Nat.eq_zero_or_pos m' with h0 | h0
  ·subst h0
   have HF:Hid (a=G):=by
    have h1:b=0:=dg_eq_nil.1 (List.eq_nil_of_length_eq_zero hmb.out);have:=HG.out; rw [h1,Nat.gcd_zero_right] at this; exact this
   go_wp2_with (go_at_call 196; refine Hid.out ?_);refine (i_clone ga (by rw [←hma.out]; have:=HLa.out; omega)).mono ?_;rintro e w8 ⟨A5,k5,c5,rfl,g5,e8,-⟩;go_wp2_with (go_at_call 163; refine Hid.out ?_);refine (i_madeN g5 (G:Int) (by rw [HF.out]; simp [Hid])).mono ?_;intro e w7 hh;obtain⟨bb7,A7,k7,c7,rfl,hb7,h7,e7⟩:=hh.form;have D3:=e7.block (e8.block (e6.block D2));obtain⟨r0,r1,r2,r3⟩:=cells2 D3;go_wp2;exact fin_int rfl rfl rfl (((hE2.trans e6).trans e8).trans e7) D3 (by omega) hN h7 hb7.out rfl
  ·have hb0:Hid (b≠0):=by
    unfold Hid; rintro rfl; have:=hmb.out; rw [ln_zero] at this; omega
   have HM:Hid (a % b < b):=Nat.mod_lt _ (by have:=hb0.out; omega)
   rcases Nat.lt_or_ge 2 m with hm2 | hm2
   ·go_wp2_with (go_at_call 193; refine Hid.out ?_);refine (i_word_no ga (by rw [hma.out]; exact hm2)).mono ?_;rintro e w7 ⟨rfl,e7⟩;go_wp2_with (go_at_call 193; refine Hid.out ?_);refine (i_word_any (gb.ext e7)).mono ?_;rintro e w8 ⟨mz,mb,rfl,e8⟩;go_wp2_with (go_at_call 195; refine Hid.out ?_);refine (i_over (ga.ext (e7.trans e8)) (gb.ext (e7.trans e8)) hb0.out HLa.out).mono ?_;rintro e w9 ⟨A7,m7,c7,A8,m8,c8,rfl,-,g8,e9⟩;go_wp2;go_roundw
    case rel=>exact⟨b,a % b,A',m',c',A8,m8,c8,rfl,rfl,gb.ext ((e7.trans e8).trans e9),g8,(gcd_next a b).trans HG.out,HLb.out,Nat.le_trans (ln_mod_le _ _) HLa.out,e6.trans ((e7.trans e8).trans e9)⟩
    case measure=>rw [readN_eq g8,readN_eq gb]; exact HM.out
   ·go_wp2_with (go_at_call 193; refine Hid.out ?_);refine (i_word ga (by rw [hma.out]; exact hm2)).mono ?_;rintro e w7 ⟨rfl,e7⟩;obtain⟨az,haz⟩:=hid_eq (a:Int);rw [←haz.out]
    rcases Nat.lt_or_ge 2 m' with hm3 | hm3
    ·go_wp2_with (go_at_call 193; refine Hid.out ?_);refine (i_word_no (gb.ext e7) (by rw [hmb.out]; exact hm3)).mono ?_;rintro e w8 ⟨rfl,e8⟩;go_wp2_with (go_at_call 195; refine Hid.out ?_);refine (i_over (ga.ext (e7.trans e8)) (gb.ext (e7.trans e8)) hb0.out HLa.out).mono ?_;rintro e w9 ⟨A7,m7,c7,A8,m8,c8,rfl,-,g8,e9⟩;go_wp2;go_roundw
     case rel=>exact⟨b,a % b,A',m',c',A8,m8,c8,rfl,rfl,gb.ext ((e7.trans e8).trans e9),g8,(gcd_next a b).trans HG.out,HLb.out,Nat.le_trans (ln_mod_le _ _) HLa.out,e6.trans ((e7.trans e8).trans e9)⟩
     case measure=>rw [readN_eq g8,readN_eq gb]; exact HM.out
    ·go_wp2_with (go_at_call 193; refine Hid.out ?_);refine (i_word (gb.ext e7) (by rw [hmb.out]; exact hm3)).mono ?_;rintro e w8 ⟨rfl,e8⟩;obtain⟨bz,hbz⟩:=hid_eq (b:Int);rw [←hbz.out];have HXa:Hid (a < 1000000000000000000):=lt_two (by rw [hma.out]; exact hm2);have HXb:Hid (b < 1000000000000000000):=lt_two (by rw [hmb.out]; exact hm3);go_wp2
     go_loopw [7,9] (fun u v wx=>GcdIn G u v∧Ext w8 wx) (fun _ v _=>(intOf v).toNat)
     case atStart=>exact⟨⟨az,bz,rfl,rfl,by rw [haz.out]; omega,by have:=haz.out; have:=HXa.out; omega,by rw [hbz.out]; omega,by have:=hbz.out; have:=HXb.out; omega,by rw [haz.out,hbz.out,Int.toNat_natCast,Int.toNat_natCast]; exact HG.out⟩,Ext.refl _⟩
     case round =>
      obtain⟨⟨uz,vz,rfl,rfl,u0,u1,v0,v1,hg2⟩,ex⟩:=hrel;have HG2:=Lib.hid hg2;clear hg2
      by_cases hv:0 < vz
      ·have hvn:(vz == 0)=false:=by simp; omega
       have m0:0≤uz % vz:=Int.emod_nonneg _ (by omega);have m1:uz % vz < vz:=Int.emod_lt_of_pos _ hv
       have HN:Hid (Nat.gcd vz.toNat (uz % vz).toNat=G):=by
        rw [Hid,Int.toNat_emod u0 v0,gcd_next]; exact HG2.out
       have hv1:1≤vz:=by omega
       go_wp2
       go_quiet (fail)
       go_wp2;go_roundw
       case rel=>exact⟨⟨vz,uz % vz,rfl,rfl,by omega,by omega,m0,by omega,HN.out⟩,ex.drewN _⟩
       case measure=>simp [intOf]; omega
      ·obtain rfl:vz=0:=by omega
       have HF:Hid (uz.toNat=G):=by have:=HG2.out; unfold Hid; simpa using this
       have hNx:N≤wr.heap.size:=by have:=hE2.size; have:=e6.size; have:=e7.size; have:=e8.size; have:=ex.size; omega
       go_wp2_with (go_at_call 194; refine Hid.out ?_);refine (i_splitN (N:=N) hNx uz u0 (by omega)).mono ?_;intro e w9 hh;obtain⟨A5,k5,c5,rfl,h5,e9⟩:=hh.form;rw [HF.out] at h5;go_wp2_with (go_at_call 163; refine Hid.out ?_);refine (i_madeN h5 (G:Int) (by simp [Hid])).mono ?_;intro e w10 hh;obtain⟨bb7,A7,k7,c7,rfl,hb7,h7,e10⟩:=hh.form;have eT:=(((e6.trans e7).trans e8).trans ex).trans (e9.trans e10);have D3:=eT.block D2;obtain⟨r0,r1,r2,r3⟩:=cells2 D3;go_wp2;exact fin_int rfl rfl rfl (hE2.trans eT) D3 (by omega) hN h7 hb7.out rfl
end Go.Proofs.YtphpkhoeplcedaaGreat
