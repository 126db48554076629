import Derived.Test.YtphpkhoeplcedaaGreatWb21
set_option linter.all false
set_option maxHeartbeats 8000000
set_option maxRecDepth 100000
namespace Go.Proofs.YtphpkhoeplcedaaGreat
open Go.RowKit
variable {w:World} {N lo hi k g K:Nat} {v:Value} {G:Grd} {q x:Rat}
noncomputable def q3b (G:Grd) (a b:Nat->Rat) (t:Tri):Bool:=@decide (q3w G a b t) (Classical.propDecidable _)
theorem KO {a b:Nat->Rat} {t:Tri}:q3b G a b t=true↔q3w G a b t:=by
 unfold q3b;exact @decide_eq_true_iff _ (Classical.propDecidable _)
theorem XM {a b:Nat->Rat} {t:Tri} (h:q3w G a b t):q3b G a b t=true:=KO.2 h
theorem VM {a b:Nat->Rat} {t:Tri} (h:¬ q3w G a b t):q3b G a b t=false:=by
 cases e:q3b G a b t with
 | false=>rfl
 | true=>exact absurd (KO.1 e) h
theorem q38 (hG:GOk G) {t:Tri} (ht:TOk G t.i t.j t.z0 t.z1 t.z2) {y:Rat} (hkx:Ht K x) (hky:Ht K y) (k:Nat):Ht (2*K+98) (YT G x y t k):=by
 have hpk:Ht (K+48) (sx G x - (t.i:Rat)):=((q1r hG hkx).sub (qp (m:=8) (by have:=ht.i0; have:=ht.i1; omega) (by omega))).mono (by omega);have hqk:Ht (K+48) (sy G y - (t.j:Rat)):=((q1q hG hky).sub (qp (m:=8) (by have:=ht.j0; have:=ht.j1; omega) (by omega))).mono (by omega);exact (q4B hpk hqk k).mono (by omega)
theorem q5w (h:jL N w g q):g < w.heap.size:=by
 obtain⟨b,A,n,c,A',n',c',h0,-⟩:=h;exact qJ h0
theorem Vb {u v d s low high:Rat} (hd:d=v - u) (hs:s = -u / d) (hp:0 < d):Yh u v low=(if low < s then s else low)/\Yi u v high=high:=by
 subst hd;subst hs;unfold Yh Yi
 constructor
 ·by_cases h:low < -u / (v - u)
  ·rw [if_pos ⟨hp,h⟩,if_pos h]
  ·rw [if_neg (fun k=>h k.2),if_neg h]
 ·exact if_neg (fun k=>by have:=k.1; grind)
theorem Vd {u v d s low high:Rat} (hd:d=v - u) (hs:s = -u / d) (hp:d < 0):Yh u v low=low/\Yi u v high=(if s < high then s else high):=by
 subst hd;subst hs;unfold Yh Yi
 constructor
 ·exact if_neg (fun k=>by have:=k.1; grind)
 ·by_cases h : -u / (v - u) < high
  ·rw [if_pos ⟨hp,h⟩,if_pos h]
  ·rw [if_neg (fun k=>h k.2),if_neg h]
theorem q0M {p q:Nat->Rat} {u v d s low high:Rat} (h:xg p q k low high) (hu:u=p k) (hv:v=q k) (hd:d=v - u) (hs:s = -u / d) (hp:0 < d):xg p q (k+1) (if low < s then s else low) high:=by
 have h9:=Ja h (by rw [<-hv,<-hu,<-hd]; grind);rw [<-hv,<-hu,(Vb (low:=low) (high:=high) hd hs hp).1,(Vb (low:=low) (high:=high) hd hs hp).2] at h9;exact h9
theorem q0P {p q:Nat->Rat} {u v d s low high:Rat} (h:xg p q k low high) (hu:u=p k) (hv:v=q k) (hd:d=v - u) (hs:s = -u / d) (hp:d < 0):xg p q (k+1) low (if s < high then s else high):=by
 have h9:=Ja h (by rw [<-hv,<-hu,<-hd]; grind);rw [<-hv,<-hu,(Vd (low:=low) (high:=high) hd hs hp).1,(Vd (low:=low) (high:=high) hd hs hp).2] at h9;exact h9
theorem Yv:x.num.sign=0↔x=0:=vG
theorem kP:0 < x.num.sign↔0 < x:=zD
theorem jB:x.num.sign < 0↔x < 0:=by
 have:=@yY x
 constructor
 ·intro h;have:¬ 0<=x:=fun h'=>by have:=yY.2 h'; omega
  grind
 ·intro h;have:¬ 0<=x.num.sign:=fun h'=>by have:=yY.1 h'; grind
  omega
theorem VF {vg:Value} {ca cb:Array Value} {t:Tri} {a b:Nat->Rat} (h:yg N lo hi w vg G) (hG:GOk G) (ht:TOk G t.i t.j t.z0 t.z1 t.z2) (a2:ca.size=12) (a4:PtV N w ca 0 a) (b2:cb.size=12) (b4:PtV N w cb 0 b) (hka:∀ i,i < 3->Ht K (a i)) (hkb:∀ i,i < 3->Ht K (b i)) (hK:K<=1000) (hN:N<=w.heap.size) :
  Calls Tryz.prog 190 #[vg,Ju t.i t.j t.l t.z0 t.z1 t.z2,.agg ca,.agg cb] w (zX w (.bool (q3b G a b t))):=by
 obtain⟨A,c9,rfl,-,-,-⟩:=h.parts;have HG:=q_h h;have HGO:=q_h hG;have HT:=q_h ht;have HKA:=q_h hka;have HKB:=q_h hkb;have ZA:=q_h a2;have ZB:=q_h b2;have HPA:=q_h a4;have HPB:=q_h b4;obtain⟨r,hr⟩:=qf (q3b G a b t);rw [<-hr.out];obtain⟨p,hp⟩:=qf (YT G (a 0) (a 1) t);obtain⟨q,hq⟩:=qf (YT G (b 0) (b 1) t);obtain⟨e0,he0⟩:=qf (hzT G (a 0) (a 1) t - a 2);obtain⟨f0,hf0⟩:=qf (hzT G (b 0) (b 1) t - b 2);have HHI:Hid (q3w G a b t↔q1a p q e0 f0):=by rw [Hid,hp.out,hq.out,he0.out,hf0.out]; exact Iff.rfl
 have HYES:Hid (q1a p q e0 f0->r=true):=fun k=>by rw [hr.out]; exact XM (HHI.out.2 k)
 have HNO:Hid (¬ q1a p q e0 f0->r=false):=fun k=>by rw [hr.out]; exact VM (fun k'=>k (HHI.out.1 k'))
 have HKP:Hid (∀ k,Ht (2*K+98) (p k)):=by rw [Hid,hp.out]; exact fun k=>q38 hG ht (hka 0 (by omega)) (hka 1 (by omega)) k
 have HKQ:Hid (∀ k,Ht (2*K+98) (q k)):=by rw [Hid,hq.out]; exact fun k=>q38 hG ht (hkb 0 (by omega)) (hkb 1 (by omega)) k
 clear h hG ht hka hkb a2 b2 a4 b4;unfold Ju;go_enter Tryz.func190,Tryz.ntmps190;go_upto_region 1 with (fail);refine Qh ?_;intro W hE hsz B0 B1 B2 B3;have hNW:N<=W.heap.size:=by omega
 go_wp2_with (go_at_call 45; refine q_o ?_);refine (qB (N:=N) hNW 0 (by omega) (by omega)).mono ?_;rintro e w1 ⟨v0,rfl,hv0,e1⟩;obtain⟨bu,Au,ku,cu,Au',ku',cu',rfl,hbu,gu1,gu2⟩:=qm.parts hv0;have hs1:=e1.size;go_wp2_with (go_at_call 45; refine q_o ?_);refine (qB (N:=N) (by omega) 1 (by omega) (by omega)).mono ?_;rintro e w2 ⟨v1,rfl,hv1,e2⟩;obtain⟨bv,Av,kv,cv,Av',kv',cv',rfl,hbv,gv1,gv2⟩:=qm.parts hv1;have hs2:=e2.size;go_upto_region 2 with (fail);refine kE ?_;intro w3 e3 hsz3 BL BH;obtain⟨gl,hgl⟩:∃ gl,gl=w2.heap.size:=⟨_,rfl⟩
 rw [<-hgl] at BL BH ⊢;have hlb:w.heap.size+4<=gl:=by omega
 have E13:=(e1.trans e2).trans e3;have hBL:jL N w3 gl 0:=jL.mk BL hbu ((gu1.ext e2).ext e3) ((gu2.ext e2).ext e3);have hBH:jL N w3 (gl+1) 1:=jL.mk BH hbv (gv1.ext e3) (gv2.ext e3);have hgh:gl+1 < w3.heap.size:=qJ BH;replace B0:=E13.block B0;replace B1:=E13.block B1;replace B2:=E13.block B2;replace B3:=E13.block B3;replace hE:=hE.trans E13;have hN3:N<=w3.heap.size:=by have:=hE.size; omega
 clear hv0 hv1 gu1 gu2 gv1 gv2 e1 e2 e3 E13 BL BH hgl hsz3 hbu hbv;obtain⟨a0,a1,a2,a3,a4,a5⟩:=qG B0;obtain⟨t0,t1,t2,t3,t4,t5⟩:=qG B1;obtain⟨nm,Am,km,cm,A'm,k'm,c'm,m0,m1,m2,m3,hRm⟩:=(((HPA.out.ext hE) 0 (by omega)).at4 B2).opn;obtain⟨nn,An,kn,cn,A'n,k'n,c'n,n0,n1,n2,n3,hRn⟩:=(((HPA.out.ext hE) 1 (by omega)).at4 B2).opn;obtain⟨nr,Ar,kr,cr,A'r,k'r,c'r,r0,r1,r2,r3,hRr⟩:=(((HPB.out.ext hE) 0 (by omega)).at4 B3).opn;obtain⟨ns,As,ks,cs,A's,k's,c's,s0,s1,s2,s3,hRs⟩:=(((HPB.out.ext hE) 1 (by omega)).at4 B3).opn;simp only [Nat.zero_mul,Nat.one_mul,Nat.reduceMul,Nat.reduceAdd,Nat.add_zero,Nat.zero_add] at m0 m1 m2 m3 n0 n1 n2 n3 r0 r1 r2 r3 s0 s1 s2 s3;refine q4M [Mn.eq (.agg #[.int .i64 G.x0,.int .i64 G.y0,.int .i64 G.st,.int .i64 G.wd,.int .i64 G.ht,.slice A G.n c9]),Mn.eq (.agg #[.int .i64 t.i,.int .i64 t.j,.bool t.l,.int .i64 t.z0,.int .i64 t.z1,.int .i64 t.z2]),Mn.q (w.heap.size+1+1) 0,Mn.rat N (a 0),Mn.q (w.heap.size+1+1) 4,Mn.rat N (a 1),Mn.pt N p,Mn.eq (.agg #[.int .i64 G.x0,.int .i64 G.y0,.int .i64 G.st,.int .i64 G.wd,.int .i64 G.ht,.slice A G.n c9]),Mn.eq (.agg #[.int .i64 t.i,.int .i64 t.j,.bool t.l,.int .i64 t.z0,.int .i64 t.z1,.int .i64 t.z2]),Mn.q (w.heap.size+1+1+1) 0,Mn.rat N (b 0),Mn.q (w.heap.size+1+1+1) 4,Mn.rat N (b 1),Mn.pt N q,Mn.blk w3.heap.size (.cells #[.bool false,.slice none 0 0,.bool false,.slice none 0 0,.bool false,.slice none 0 0,.bool false,.slice none 0 0,.bool false,.slice none 0 0,.bool false,.slice none 0 0] 43 (0,0)),Mn.blk w3.heap.size (.cells #[.bool false,.slice none 0 0,.bool false,.slice none 0 0,.bool false,.slice none 0 0,.bool false,.slice none 0 0,.bool false,.slice none 0 0,.bool false,.slice none 0 0] 43 (0,0)),Mn.any,Mn.any] [some 21,some 22,some 23,some 24,some 25,some 26,some 27,some 28,some 29,some 30,some 31,some 32,some 33,some 34,some 11,some 12,none,none] [16,17] [] [14,15] (rQ 16 2) 2 (Ext.refl _) (by kernel_rfl) ?_ ?_ ?_ ?_
 ·show ∀ i,i < 18->_
  iterate 18 refine fs ?_ ?_
  ·exact fz
  all_goals intro hl hs hd; first | exact absurd hl (by decide) | exact absurd hd (by decide) | (clear hl hs hd; refine stp rfl ?_; intro ac wi eI hB hA K hK)
  have o4:=oOf (hB 4) rfl;have cc0:=eI.cell a0;have cc1:=eI.cell a1;have cc2:=eI.cell a2;have cc3:=eI.cell a3;have cc4:=eI.cell a4;have cc5:=eI.cell a5
  rotate_left
  have o5:=oOf (hB 5) rfl;have cc0:=eI.cell t0;have cc1:=eI.cell t1;have cc2:=eI.cell t2;have cc3:=eI.cell t3;have cc4:=eI.cell t4;have cc5:=eI.cell t5
  rotate_left
  have o6:=oOf (hB 6) rfl
  rotate_left
  obtain⟨_,s23,rfl⟩:=hA 2 23;clear hB hA;have cc0:=eI.cell m0;have cc1:=eI.cell m1;have cc2:=eI.cell m2;have cc3:=eI.cell m3
  ·go_simp;exact q_k hK (hRm.ext eI)
  have o6:=oOf (hB 6) rfl
  rotate_left
  obtain⟨_,s25,rfl⟩:=hA 4 25;clear hB hA;have cc0:=eI.cell n0;have cc1:=eI.cell n1;have cc2:=eI.cell n2;have cc3:=eI.cell n3
  ·go_simp;exact q_k hK (hRn.ext eI)
  obtain⟨_,s21,rfl⟩:=hA 0 21;obtain⟨_,s22,rfl⟩:=hA 1 22;obtain⟨x24,s24,j24⟩:=hA 3 24;replace j24:Mn.p (Mn.rat N (a 0)) x24 wi:=j24;obtain⟨x26,s26,j26⟩:=hA 5 26;replace j26:Mn.p (Mn.rat N (a 1)) x26 wi:=j26;clear hB hA
  ·go_simp;refine (QT (HG.out.ext (hE.trans eI)) HGO.out HT.out j24 j26 (HKA.out 0 (by omega)) (HKA.out 1 (by omega)) (by omega)).mono ?_;rintro e wj ⟨cs,rfl,h1,h2,h3,ej⟩;go_wp2_with fail;exact hK.out _ _ ej ⟨cs,rfl,h1,h2,by rw [hp.out]; exact h3⟩
  have o4:=oOf (hB 4) rfl;have cc0:=eI.cell a0;have cc1:=eI.cell a1;have cc2:=eI.cell a2;have cc3:=eI.cell a3;have cc4:=eI.cell a4;have cc5:=eI.cell a5
  rotate_left
  have o5:=oOf (hB 5) rfl;have cc0:=eI.cell t0;have cc1:=eI.cell t1;have cc2:=eI.cell t2;have cc3:=eI.cell t3;have cc4:=eI.cell t4;have cc5:=eI.cell t5
  rotate_left
  have o7:=oOf (hB 7) rfl
  rotate_left
  obtain⟨_,s30,rfl⟩:=hA 9 30;clear hB hA;have cc0:=eI.cell r0;have cc1:=eI.cell r1;have cc2:=eI.cell r2;have cc3:=eI.cell r3
  ·go_simp;exact q_k hK (hRr.ext eI)
  have o7:=oOf (hB 7) rfl
  rotate_left
  obtain⟨_,s32,rfl⟩:=hA 11 32;clear hB hA;have cc0:=eI.cell s0;have cc1:=eI.cell s1;have cc2:=eI.cell s2;have cc3:=eI.cell s3
  ·go_simp;exact q_k hK (hRs.ext eI)
  obtain⟨_,s28,rfl⟩:=hA 7 28;obtain⟨_,s29,rfl⟩:=hA 8 29;obtain⟨x31,s31,j31⟩:=hA 10 31;replace j31:Mn.p (Mn.rat N (b 0)) x31 wi:=j31;obtain⟨x33,s33,j33⟩:=hA 12 33;replace j33:Mn.p (Mn.rat N (b 1)) x33 wi:=j33;clear hB hA
  ·go_simp;refine (QT (HG.out.ext (hE.trans eI)) HGO.out HT.out j31 j33 (HKB.out 0 (by omega)) (HKB.out 1 (by omega)) (by omega)).mono ?_;rintro e wj ⟨cs,rfl,h1,h2,h3,ej⟩;go_wp2_with fail;exact hK.out _ _ ej ⟨cs,rfl,h1,h2,by rw [hq.out]; exact h3⟩
  all_goals clear hB hA; go_simp; exact q_k hK rfl
 ·intro i hs;have hi':i=14\/i=15:=by simpa using hs
  clear hs
  rcases hi' with rfl | rfl
  ·refine q4w rfl ?_;intro ac wi eI hB hA K hK;clear hB hA;go_simp;refine ql ?_;intro wj ej hszj BJ;exact hK.out _ _ ej ⟨_,rfl,eI.size,BJ⟩ ⟨_,rfl,q_r,qJ BJ⟩
  ·refine q4w rfl ?_;intro ac wi eI hB hA K hK;clear hB hA;go_simp;refine ql ?_;intro wj ej hszj BJ;exact hK.out _ _ ej ⟨_,rfl,eI.size,BJ⟩ ⟨_,rfl,q_r,qJ BJ⟩
 ·intro i hs; exact absurd hs (by simp)
 intro vals wz eZ hJ hD;have hD11_12:vals 14≠vals 15:=hD 14 15 (by decide) (by decide) (by decide);clear hD;have J27:Mn.p (Mn.pt N p) (vals 6) wz:=hJ 6 (by decide) (by decide);have J34:Mn.p (Mn.pt N q) (vals 13) wz:=hJ 13 (by decide) (by decide);have J11:Mn.p (Mn.blk w3.heap.size (.cells #[.bool false,.slice none 0 0,.bool false,.slice none 0 0,.bool false,.slice none 0 0,.bool false,.slice none 0 0,.bool false,.slice none 0 0,.bool false,.slice none 0 0] 43 (0,0))) (vals 14) wz:=hJ 14 (by decide) (by decide);have J12:Mn.p (Mn.blk w3.heap.size (.cells #[.bool false,.slice none 0 0,.bool false,.slice none 0 0,.bool false,.slice none 0 0,.bool false,.slice none 0 0,.bool false,.slice none 0 0,.bool false,.slice none 0 0] 43 (0,0))) (vals 15) wz:=hJ 15 (by decide) (by decide);clear hJ;simp only [pr,Nat.reduceAdd]
 generalize vals 6=z27 at J27 ⊢
 generalize vals 13=z34 at J34 ⊢
 generalize vals 14=z11 at J11 hD11_12 ⊢
 generalize vals 15=z12 at J12 hD11_12 ⊢
 obtain⟨cP,rfl,u1,u2,u3⟩:=J27;obtain⟨cQ,rfl,v1,v2,v3⟩:=J34;obtain⟨gP,rfl,hgP,BP⟩:=J11;obtain⟨gQ,rfl,hgQ,BQ⟩:=J12;have hPQ:gP≠gQ:=fun e=>hD11_12 (by rw [e])
 refine zg (i:=16) rfl (by kernel_rfl) (fun K hK=>?_);rw [if_pos (by rfl)];refine zO 43 _ _ rfl (by rfl) (by rfl) BP qE u1 (Eq.trans (by rfl:Array.size _=12) u1.symm) u2 ?_;intro w5 D5 U5;have CLP:=U5.chg (NoU.mk BP (by decide));have BQ5:=CLP.blk BQ (by omega);refine hK.out _ _ (fun e9=>?_) ?_
 ·exact CLP.ext e9 (by omega)
 clear hK K;try simp only [nr]
 refine zg (i:=17) rfl (by kernel_rfl) (fun K hK=>?_);rw [if_pos (by rfl)];refine zO 43 _ _ rfl (by rfl) (by rfl) BQ5 qE v1 (Eq.trans (by rfl:Array.size _=12) v1.symm) v2 ?_;intro w6 D6 U6;have CLQ:=U6.chg (NoU.mk BQ5 (by decide));refine hK.out _ _ (fun e9=>?_) ?_
 ·exact CLQ.ext e9 (by omega)
 clear hK K;try simp only [nr]
 refine qg (by kernel_rfl) ?_ _;have E36:Ext w3 w6:=CLQ.ext (CLP.ext eZ hgP) hgQ;have hs36:=E36.size;have DP:=CLQ.blk D5 (by omega);have HPP:Hid (∀ i,i < 3->ArV N w6 cP (0+i*4) (raw (p i))):=fun i hi=>((u3 i hi).chg CLP (by omega)).chg CLQ (by omega)
 have HQQ:Hid (∀ i,i < 3->ArV N w6 cQ (0+i*4) (raw (q i))):=fun i hi=>((v3 i hi).chg CLP (by omega)).chg CLQ (by omega)
 have hgPl:=qJ DP;have hgQl:=qJ D6;have HDP:=q_h DP;have HDQ:=q_h D6;replace hBL:=hBL.ext E36;replace hBH:=hBH.ext E36;have HB0:=q_h (E36.block B0);have HB1:=q_h (E36.block B1);have HB2:=q_h (E36.block B2);have HB3:=q_h (E36.block B3);replace hE:=hE.trans E36;clear DP D5 D6 CLP CLQ U5 U6 BQ5 BP BQ u1 u2 u3 v1 v2 v3 eZ E36 B0 B1 B2 B3 a0 a1 a2 a3 a4 a5 t0 t1 t2 t3 t4 t5 m0 m1 m2 m3 n0 n1 n2 n3 r0 r1 r2 r3 s0 s1 s2 s3 hRm hRn hRr hRs;go_wp2
 go_loopw [35] (fun iv wr=>∃ k:Nat,k<=3/\iv=.int .i64 k/\(∃ low high,jL N wr gl low/\jL N wr (gl+1) high/\xg p q k low high/\Ht (6*K+300) low/\Ht (6*K+300) high)/\Chg gl (gl+2) w6 wr) (fun iv _=>3 - (intOf iv).toNat)
 case atStart=>exact⟨0,by omega,rfl,⟨0,1,hBL,hBH,VS p q,(qp (k:=0) (m:=1) (by decide) (by decide)).mono (by omega),(qp (k:=1) (m:=1) (by decide) (by decide)).mono (by omega)⟩,Chg.refl _ _ _⟩
 case round =>
  clear hBL hBH;obtain⟨k,hk,rfl,⟨low,high,hBL,hBH,hcl,hkl,hkh⟩,hC⟩:=hrel;have HCL:=q_h hcl;have HKL:=q_h hkl;have HKH:=q_h hkh;clear hcl hkl hkh;have hEr:Ext w wr:=hC.ext hE (by omega);have hsr:=hC.size
  by_cases hk3:k < 3
  case neg =>
   obtain rfl:k=3:=by omega
   have hq3:decide (((3:Nat):Int) < 3)=false:=by decide
   clear hk3 hk;have HLS:Hid (Sz low):=HKL.out.sz (by omega);have HHS:Hid (Sz high):=HKH.out.sz (by omega);have hNr:N<=wr.heap.size:=by have:=hEr.size; omega
   have HOV:Hid (∀ s,hzT G (lin (a 0) (b 0) s) (lin (a 1) (b 1) s) t - lin (a 2) (b 2) s=lin e0 f0 s):=fun s=>by rw [he0.out,hf0.out]; exact q0m ..
   have HKE:Hid (∀ s,Ht (6*K+300) s->Ht (60*K+4000) (lin e0 f0 s)):=fun s hs=>by
    have h0:Ht (4*K+400) e0:=by rw [he0.out]; exact ((q0o HGO.out HT.out (HKA.out 0 (by omega)) (HKA.out 1 (by omega))).sub (HKA.out 2 (by omega))).mono (by omega)
    have h1:Ht (4*K+400) f0:=by rw [hf0.out]; exact ((q0o HGO.out HT.out (HKB.out 0 (by omega)) (HKB.out 1 (by omega))).sub (HKB.out 2 (by omega))).mono (by omega)
    exact (Zt (K:=6*K+400) (h0.mono (by omega)) (h1.mono (by omega)) (hs.mono (by omega))).mono (by omega)
   have HAT:Hid (∀ (W9:World) (v:Value) (s:Rat),Ext wr W9->qm N W9 v s->Ht (6*K+300) s->Calls Tryz.prog 23 #[.agg ca,.agg cb,v] W9 (Jk N W9 (fun i=>lin (a i) (b i) s))):=fun W9 v s e hv hs =>
    q55 (K:=6*K+300) ZA.out (HPA.out.ext (hEr.trans e)) ZB.out (HPB.out.ext (hEr.trans e)) hv (fun i hi=>(HKA.out i hi).mono (by omega)) (fun i hi=>(HKB.out i hi).mono (by omega)) hs (by omega)
   have HOR:Hid (∀ (W9:World) (cs:Array Value) (s:Rat),Ext wr W9->cs.size=12->PtV N W9 cs 0 (fun i=>lin (a i) (b i) s)->Ht (6*K+300) s->Calls Tryz.prog 219 #[_,Ju t.i t.j t.l t.z0 t.z1 t.z2,.agg cs] W9 (yJ N W9 (lin e0 f0 s))):=fun W9 cs s e h2 h4 hs=>by
    have h9:=q20 (K:=24*K+1202) (HG.out.ext (hEr.trans e)) HGO.out HT.out h2 h4 (fun i hi=>(Zt (K:=6*K+300) ((HKA.out i hi).mono (by omega)) ((HKB.out i hi).mono (by omega)) hs).mono (by omega)) (by omega) (by have:=e.size; omega);rw [HOV.out s] at h9;exact h9
   unfold Ju at HOR;obtain⟨nm,Am,km,cm,A'm,k'm,c'm,Bm,hbm,ym,zm⟩:=hBL;obtain⟨m0,m1,m2,m3,-⟩:=cells4 Bm;have hRm:qm N wr (.agg #[.bool nm,.slice Am km cm,.bool false,.slice A'm k'm c'm]) (low):=qm.mk hbm ym zm;obtain⟨nn,An,kn,cn,A'n,k'n,c'n,Bn,hbn,yn,zn⟩:=hBH;obtain⟨n0,n1,n2,n3,-⟩:=cells4 Bn;have hRn:qm N wr (.agg #[.bool nn,.slice An kn cn,.bool false,.slice A'n k'n c'n]) (high):=qm.mk hbn yn zn;obtain⟨sc,hsc⟩:=qf (low - high).num.sign;go_wp2_with (go_at_call 57; refine q_o ?_);refine (zJ hRm hRn HLS.out HHS.out ((HKL.out.sub HKH.out).sz (by omega))).mono ?_;rw [<-hsc.out];rintro e w7 ⟨rfl,e7⟩;have HBL:=q_h ((jL.mk Bm hbm ym zm).ext e7);have HBH:=q_h ((jL.mk Bn hbn yn zn).ext e7);have B0:=e7.block (hC.blk HB0.out (.inl (by omega)));have B1:=e7.block (hC.blk HB1.out (.inl (by omega)));have HB2':=q_h (e7.block (hC.blk HB2.out (.inl (by omega))));have HB3':=q_h (e7.block (hC.blk HB3.out (.inl (by omega))));have hE7:=hEr.trans e7;have hs7:=e7.size;have hN7:N<=w7.heap.size:=by omega
   clear m0 m1 m2 m3 Bm hbm ym zm hRm n0 n1 n2 n3 Bn hbn yn zn hRn HB0 HB1 HB2 HB3 HDP HDQ HPP HQQ hC
   by_cases hgt:high < low
   case pos =>
    have t0:decide (0 < sc)=true:=q_t (by rw [hsc.out]; exact kP.2 (by grind));have HRF:Hid (r=false):=HNO.out (q0q HCL.out hgt);clear hgt;go_wp2;go_ret;rw [HRF.out];exact⟨rfl,hE7⟩
   have t0:decide (0 < sc)=false:=q_f (by rw [hsc.out]; exact mt kP.1 (by grind));obtain⟨a0,a1,a2,a3,a4,a5⟩:=qG B0;obtain⟨t0',t1',t2',t3',t4',t5'⟩:=qG B1
   by_cases heq:low=high
   case pos =>
    have t1:(sc == 0)=true:=by rw [hsc.out,show low - high=0 by grind]; rfl
    have HPO:Hid (q1a p q e0 f0↔(0 < low/\low < 1)/\0 < lin e0 f0 low):=q0p HCL.out heq;clear heq hgt;go_upto_region 20 with (fail);clear t0 t1;obtain⟨nm,Am,km,cm,A'm,k'm,c'm,Bm,hbm,ym,zm⟩:=HBL.out;obtain⟨m0,m1,m2,m3,-⟩:=cells4 Bm;have hRm:qm N w7 (.agg #[.bool nm,.slice Am km cm,.bool false,.slice A'm k'm c'm]) (low):=qm.mk hbm ym zm;obtain⟨sl,hsl⟩:=qf low.num.sign
    by_cases h0:0 < low
    case neg =>
     have d0:decide (0 < sl)=false:=q_f (by rw [hsl.out]; exact mt kP.1 h0);have HRF:Hid (r=false):=HNO.out (fun k=>h0 (HPO.out.1 k).1.1);clear h0;refine xe [Mn.rat N (low),Mn.i sl,Mn.t false,Mn.t false,Mn.eq undef,Mn.eq undef,Mn.eq undef,Mn.eq undef,Mn.t false,Mn.t false] (sM [90,91,92,93,94,95,96,97,98,18]) [] (rQ 10 0) 0 (by kernel_rfl) ?_ ?_
     ·show ∀ i,i < 10->_
      iterate 10 refine fs ?_ ?_
      ·exact fz
      all_goals intro hl; clear hl; refine stp rfl ?_; intro ac wi eI hB hA K hK
      have o9:=oOf (hB 9) rfl;clear hB hA;have cc0:=eI.cell m0;have cc1:=eI.cell m1;have cc2:=eI.cell m2;have cc3:=eI.cell m3
      ·go_simp;exact q_k hK (hRm.ext eI)
      obtain⟨x90,s90,j90⟩:=hA 0 90;replace j90:Mn.p (Mn.rat N (low)) x90 wi:=j90;clear hB hA
      ·go_simp;refine (kQ j90 HLS.out).mono ?_;rw [<-hsl.out];rintro e wj ⟨rfl,ej⟩;go_wp2_with fail;exact hK.out _ _ ej rfl
      obtain⟨_,s91,rfl⟩:=hA 1 91
      rotate_left
      obtain⟨_,s92,rfl⟩:=hA 2 92
      rotate_left
      iterate 4 (obtain⟨_,s93,rfl⟩:=hA 3 93; clear hB hA; rw [if_neg (by simp [Region.wanted,yielded,s93,undef])]; exact q_k hK rfl)
      obtain⟨_,s93,rfl⟩:=hA 3 93;obtain⟨_,s97,rfl⟩:=hA 7 97
      rotate_left
      obtain⟨_,s98,rfl⟩:=hA 8 98
      rotate_left
      all_goals clear hB hA; go_simp; exact q_k hK rfl
     intro vals wz eZ hJ;have J18:vals 9=_:=hJ 9 (by decide) (by decide);clear hJ;simp only [pr,Nat.reduceAdd,J18];clear J18;refine qg (by kernel_rfl) ?_ _;obtain⟨wx,hwx⟩:∃ wx,wx=wz:=⟨_,rfl⟩
     subst hwx;have eX:=eZ;clear eZ m0 m1 m2 m3 Bm hbm ym zm hRm a0 a1 a2 a3 a4 a5 t0' t1' t2' t3' t4' t5';go_upto_region 21 with (fail);refine xe [Mn.t false,Mn.t false,Mn.eq undef,Mn.eq undef,Mn.eq undef,Mn.eq undef,Mn.eq undef,Mn.eq undef,Mn.eq undef,Mn.eq undef,Mn.eq undef,Mn.t false,Mn.t false] (sM [99,100,101,102,103,104,105,106,107,108,109,110,8]) [] (rQ 13 0) 0 (by kernel_rfl) ?_ ?_
     ·show ∀ i,i < 13->_
      iterate 13 refine fs ?_ ?_
      ·exact fz
      all_goals intro hl; clear hl; refine stp rfl ?_; intro ac wi eI hB hA K hK
      have o18:=oOf (hB 18) rfl
      rotate_left
      obtain⟨_,s99,rfl⟩:=hA 0 99
      rotate_left
      iterate 9 (obtain⟨_,s100,rfl⟩:=hA 1 100; clear hB hA; rw [if_neg (by simp [Region.wanted,yielded,s100,undef])]; exact q_k hK rfl)
      obtain⟨_,s100,rfl⟩:=hA 1 100;obtain⟨_,s109,rfl⟩:=hA 10 109
      rotate_left
      obtain⟨_,s110,rfl⟩:=hA 11 110
      rotate_left
      all_goals clear hB hA; go_simp; exact q_k hK rfl
     intro vals wz eZ hJ;have J8:vals 12=_:=hJ 12 (by decide) (by decide);clear hJ;simp only [pr,Nat.reduceAdd,J8];clear J8;refine qg (by kernel_rfl) ?_ _;go_wp2;go_ret;rw [HRF.out];exact⟨rfl,(hE7.trans eX).trans eZ⟩
    have d0:decide (0 < sl)=true:=q_t (by rw [hsl.out]; exact kP.2 h0);obtain⟨s1,hs1'⟩:=qf (low - ((1:Int):Rat)).num.sign;have HS1:Hid (Sz (low - ((1:Int):Rat))):=(HKL.out.sub (qp (k:=1) (m:=1) (by decide) (by decide))).sz (by omega);have c1:((1:Int):Rat)=1:=rfl
    by_cases h1:low < 1
    case neg =>
     have d1:decide (s1 < 0)=false:=q_f (by rw [hs1'.out]; exact mt jB.1 (by rw [c1]; grind));have HRF:Hid (r=false):=HNO.out (fun k=>h1 (HPO.out.1 k).1.2);clear h0 h1 c1;refine xe [Mn.rat N (low),Mn.i sl,Mn.t true,Mn.t true,Mn.rat N (low),Mn.rat N ((1:Int):Rat),Mn.i s1,Mn.t false,Mn.t false,Mn.t false] (sM [90,91,92,93,94,95,96,97,98,18]) [] (rQ 10 0) 0 (by kernel_rfl) ?_ ?_
     ·show ∀ i,i < 10->_
      iterate 10 refine fs ?_ ?_
      ·exact fz
      all_goals intro hl; clear hl; refine stp rfl ?_; intro ac wi eI hB hA K hK
      have o9:=oOf (hB 9) rfl;clear hB hA;have cc0:=eI.cell m0;have cc1:=eI.cell m1;have cc2:=eI.cell m2;have cc3:=eI.cell m3
      ·go_simp;exact q_k hK (hRm.ext eI)
      obtain⟨x90,s90,j90⟩:=hA 0 90;replace j90:Mn.p (Mn.rat N (low)) x90 wi:=j90;clear hB hA
      ·go_simp;refine (kQ j90 HLS.out).mono ?_;rw [<-hsl.out];rintro e wj ⟨rfl,ej⟩;go_wp2_with fail;exact hK.out _ _ ej rfl
      obtain⟨_,s91,rfl⟩:=hA 1 91
      rotate_left
      obtain⟨_,s92,rfl⟩:=hA 2 92
      rotate_left
      obtain⟨_,s93,rfl⟩:=hA 3 93;have o9:=oOf (hB 9) rfl;clear hB hA;rw [if_pos (by simp [Region.wanted,yielded,s93])];have cc0:=eI.cell m0;have cc1:=eI.cell m1;have cc2:=eI.cell m2;have cc3:=eI.cell m3
      ·go_simp;exact q_k hK (hRm.ext eI)
      obtain⟨_,s93,rfl⟩:=hA 3 93;clear hB hA;rw [if_pos (by simp [Region.wanted,yielded,s93])]
      ·go_simp;refine (qB (N:=N) (q_l hN7 eI.size) 1 (by omega) (by omega)).mono ?_;rintro e wj ⟨vj,rfl,hj,ej⟩;go_wp2_with fail;exact hK.out _ _ ej hj
      obtain⟨_,s93,rfl⟩:=hA 3 93;obtain⟨x94,s94,j94⟩:=hA 4 94;replace j94:Mn.p (Mn.rat N (low)) x94 wi:=j94;obtain⟨x95,s95,j95⟩:=hA 5 95;replace j95:Mn.p (Mn.rat N ((1:Int):Rat)) x95 wi:=j95;clear hB hA;rw [if_pos (by simp [Region.wanted,yielded,s93])]
      ·go_simp;refine (zJ j94 j95 HLS.out (zT (by decide)) HS1.out).mono ?_;rw [<-hs1'.out];rintro e wj ⟨rfl,ej⟩;go_wp2_with fail;exact hK.out _ _ ej rfl
      obtain⟨_,s93,rfl⟩:=hA 3 93;obtain⟨_,s96,rfl⟩:=hA 6 96;rw [if_pos (by simp [Region.wanted,yielded,s93])]
      rotate_left
      obtain⟨_,s93,rfl⟩:=hA 3 93;obtain⟨_,s97,rfl⟩:=hA 7 97
      rotate_left
      obtain⟨_,s98,rfl⟩:=hA 8 98
      rotate_left
      all_goals clear hB hA; go_simp; exact q_k hK rfl
     intro vals wz eZ hJ;have J18:vals 9=_:=hJ 9 (by decide) (by decide);clear hJ;simp only [pr,Nat.reduceAdd,J18];clear J18;refine qg (by kernel_rfl) ?_ _;obtain⟨wx,hwx⟩:∃ wx,wx=wz:=⟨_,rfl⟩
     subst hwx;have eX:=eZ;clear eZ m0 m1 m2 m3 Bm hbm ym zm hRm a0 a1 a2 a3 a4 a5 t0' t1' t2' t3' t4' t5';go_upto_region 21 with (fail);refine xe [Mn.t false,Mn.t false,Mn.eq undef,Mn.eq undef,Mn.eq undef,Mn.eq undef,Mn.eq undef,Mn.eq undef,Mn.eq undef,Mn.eq undef,Mn.eq undef,Mn.t false,Mn.t false] (sM [99,100,101,102,103,104,105,106,107,108,109,110,8]) [] (rQ 13 0) 0 (by kernel_rfl) ?_ ?_
     ·show ∀ i,i < 13->_
      iterate 13 refine fs ?_ ?_
      ·exact fz
      all_goals intro hl; clear hl; refine stp rfl ?_; intro ac wi eI hB hA K hK
      have o18:=oOf (hB 18) rfl
      rotate_left
      obtain⟨_,s99,rfl⟩:=hA 0 99
      rotate_left
      iterate 9 (obtain⟨_,s100,rfl⟩:=hA 1 100; clear hB hA; rw [if_neg (by simp [Region.wanted,yielded,s100,undef])]; exact q_k hK rfl)
      obtain⟨_,s100,rfl⟩:=hA 1 100;obtain⟨_,s109,rfl⟩:=hA 10 109
      rotate_left
      obtain⟨_,s110,rfl⟩:=hA 11 110
      rotate_left
      all_goals clear hB hA; go_simp; exact q_k hK rfl
     intro vals wz eZ hJ;have J8:vals 12=_:=hJ 12 (by decide) (by decide);clear hJ;simp only [pr,Nat.reduceAdd,J8];clear J8;refine qg (by kernel_rfl) ?_ _;go_wp2;go_ret;rw [HRF.out];exact⟨rfl,(hE7.trans eX).trans eZ⟩
    have d1:decide (s1 < 0)=true:=q_t (by rw [hs1'.out]; exact jB.2 (by rw [c1]; grind))
    have HRE:Hid (r=decide (0 < (lin e0 f0 low).num.sign)):=by
     rw [Hid]
     by_cases k9:0 < lin e0 f0 low
     ·rw [q_t (kP.2 k9)];exact HYES.out (HPO.out.2 ⟨⟨h0,h1⟩,k9⟩)
     ·rw [q_f (mt kP.1 k9)];exact HNO.out (fun k=>k9 (HPO.out.1 k).2)
    clear h0 h1 c1;refine xe [Mn.rat N (low),Mn.i sl,Mn.t true,Mn.t true,Mn.rat N (low),Mn.rat N ((1:Int):Rat),Mn.i s1,Mn.t true,Mn.t true,Mn.t true] (sM [90,91,92,93,94,95,96,97,98,18]) [] (rQ 10 0) 0 (by kernel_rfl) ?_ ?_
    ·show ∀ i,i < 10->_
     iterate 10 refine fs ?_ ?_
     ·exact fz
     all_goals intro hl; clear hl; refine stp rfl ?_; intro ac wi eI hB hA K hK
     have o9:=oOf (hB 9) rfl;clear hB hA;have cc0:=eI.cell m0;have cc1:=eI.cell m1;have cc2:=eI.cell m2;have cc3:=eI.cell m3
     ·go_simp;exact q_k hK (hRm.ext eI)
     obtain⟨x90,s90,j90⟩:=hA 0 90;replace j90:Mn.p (Mn.rat N (low)) x90 wi:=j90;clear hB hA
     ·go_simp;refine (kQ j90 HLS.out).mono ?_;rw [<-hsl.out];rintro e wj ⟨rfl,ej⟩;go_wp2_with fail;exact hK.out _ _ ej rfl
     obtain⟨_,s91,rfl⟩:=hA 1 91
     rotate_left
     obtain⟨_,s92,rfl⟩:=hA 2 92
     rotate_left
     obtain⟨_,s93,rfl⟩:=hA 3 93;have o9:=oOf (hB 9) rfl;clear hB hA;rw [if_pos (by simp [Region.wanted,yielded,s93])];have cc0:=eI.cell m0;have cc1:=eI.cell m1;have cc2:=eI.cell m2;have cc3:=eI.cell m3
     ·go_simp;exact q_k hK (hRm.ext eI)
     obtain⟨_,s93,rfl⟩:=hA 3 93;clear hB hA;rw [if_pos (by simp [Region.wanted,yielded,s93])]
     ·go_simp;refine (qB (N:=N) (q_l hN7 eI.size) 1 (by omega) (by omega)).mono ?_;rintro e wj ⟨vj,rfl,hj,ej⟩;go_wp2_with fail;exact hK.out _ _ ej hj
     obtain⟨_,s93,rfl⟩:=hA 3 93;obtain⟨x94,s94,j94⟩:=hA 4 94;replace j94:Mn.p (Mn.rat N (low)) x94 wi:=j94;obtain⟨x95,s95,j95⟩:=hA 5 95;replace j95:Mn.p (Mn.rat N ((1:Int):Rat)) x95 wi:=j95;clear hB hA;rw [if_pos (by simp [Region.wanted,yielded,s93])]
     ·go_simp;refine (zJ j94 j95 HLS.out (zT (by decide)) HS1.out).mono ?_;rw [<-hs1'.out];rintro e wj ⟨rfl,ej⟩;go_wp2_with fail;exact hK.out _ _ ej rfl
     obtain⟨_,s93,rfl⟩:=hA 3 93;obtain⟨_,s96,rfl⟩:=hA 6 96;rw [if_pos (by simp [Region.wanted,yielded,s93])]
     rotate_left
     obtain⟨_,s93,rfl⟩:=hA 3 93;obtain⟨_,s97,rfl⟩:=hA 7 97
     rotate_left
     obtain⟨_,s98,rfl⟩:=hA 8 98
     rotate_left
     all_goals clear hB hA; go_simp; exact q_k hK rfl
    intro vals wz eZ hJ;have J18:vals 9=_:=hJ 9 (by decide) (by decide);clear hJ;simp only [pr,Nat.reduceAdd,J18];clear J18;refine qg (by kernel_rfl) ?_ _;obtain⟨wx,hwx⟩:∃ wx,wx=wz:=⟨_,rfl⟩
    subst hwx;have eX:=eZ;clear eZ m0 m1 m2 m3 Bm hbm ym zm hRm a0 a1 a2 a3 a4 a5 t0' t1' t2' t3' t4' t5' d0 d1;obtain⟨a0,a1,a2,a3,a4,a5⟩:=qG (eX.block B0);obtain⟨t0',t1',t2',t3',t4',t5'⟩:=qG (eX.block B1);have E7x:=e7.trans eX;obtain⟨nm,Am,km,cm,A'm,k'm,c'm,Bm,hbm,ym,zm⟩:=(HBL.out.ext eX)
    obtain⟨m0,m1,m2,m3,-⟩:=cells4 Bm;have hRm:qm N wx (.agg #[.bool nm,.slice Am km cm,.bool false,.slice A'm k'm c'm]) (low):=qm.mk hbm ym zm;obtain⟨sv,hsv⟩:=qf (lin e0 f0 low).num.sign;rw [<-hsv.out] at HRE;have HSE:Hid (Sz (lin e0 f0 low)):=(HKE.out low HKL.out).sz (by omega);go_upto_region 21 with (fail);refine xe [Mn.t true,Mn.t true,Mn.eq (.agg #[.int .i64 G.x0,.int .i64 G.y0,.int .i64 G.st,.int .i64 G.wd,.int .i64 G.ht,.slice A G.n c9]),Mn.eq (.agg #[.int .i64 t.i,.int .i64 t.j,.bool t.l,.int .i64 t.z0,.int .i64 t.z1,.int .i64 t.z2]),Mn.eq (.agg ca),Mn.eq (.agg cb),Mn.rat N (low),Mn.pt N (fun i=>lin (a i) (b i) low),Mn.rat N (lin e0 f0 low),Mn.i sv,Mn.t (decide (0 < sv)),Mn.t (decide (0 < sv)),Mn.t (decide (0 < sv))] (sM [99,100,101,102,103,104,105,106,107,108,109,110,8]) [] (rQ 13 0) 0 (by kernel_rfl) ?_ ?_
    ·show ∀ i,i < 13->_
     iterate 13 refine fs ?_ ?_
     ·exact fz
     all_goals intro hl; clear hl; refine stp rfl ?_; intro ac wi eI hB hA K hK
     have o18:=oOf (hB 18) rfl
     rotate_left
     obtain⟨_,s99,rfl⟩:=hA 0 99
     rotate_left
     obtain⟨_,s100,rfl⟩:=hA 1 100;have o4:=oOf (hB 4) rfl;rw [if_pos (by simp [Region.wanted,yielded,s100])];have cc0:=eI.cell a0;have cc1:=eI.cell a1;have cc2:=eI.cell a2;have cc3:=eI.cell a3;have cc4:=eI.cell a4;have cc5:=eI.cell a5
     rotate_left
     obtain⟨_,s100,rfl⟩:=hA 1 100;have o5:=oOf (hB 5) rfl;rw [if_pos (by simp [Region.wanted,yielded,s100])];have cc0:=eI.cell t0';have cc1:=eI.cell t1';have cc2:=eI.cell t2';have cc3:=eI.cell t3';have cc4:=eI.cell t4';have cc5:=eI.cell t5'
     rotate_left
     obtain⟨_,s100,rfl⟩:=hA 1 100;have o6:=oOf (hB 6) rfl;clear hB hA;rw [if_pos (by simp [Region.wanted,yielded,s100])];have cc0:=eI.cell a0;have cc1:=eI.cell a1;have cc2:=eI.cell a2;have cc3:=eI.cell a3;have cc4:=eI.cell a4;have cc5:=eI.cell a5;have cc6:=eI.cell t0';have cc7:=eI.cell t1';have cc8:=eI.cell t2';have cc9:=eI.cell t3';have cc10:=eI.cell t4';have cc11:=eI.cell t5';have cc12:=eI.cell m0;have cc13:=eI.cell m1;have cc14:=eI.cell m2;have cc15:=eI.cell m3
     ·refine wp_load_row 43 _ rfl _ (by simp [Act.eval,o6]) _ ca _ _ (eI.block (eX.block HB2'.out)) Tryz.underlying43 rfl (by first | (rw [ZA.out]; exact qE) | (rw [ZB.out]; exact qE)) ?_;exact q_k hK rfl
     obtain⟨_,s100,rfl⟩:=hA 1 100;have o7:=oOf (hB 7) rfl;clear hB hA;rw [if_pos (by simp [Region.wanted,yielded,s100])];have cc0:=eI.cell a0;have cc1:=eI.cell a1;have cc2:=eI.cell a2;have cc3:=eI.cell a3;have cc4:=eI.cell a4;have cc5:=eI.cell a5;have cc6:=eI.cell t0';have cc7:=eI.cell t1';have cc8:=eI.cell t2';have cc9:=eI.cell t3';have cc10:=eI.cell t4';have cc11:=eI.cell t5';have cc12:=eI.cell m0;have cc13:=eI.cell m1;have cc14:=eI.cell m2;have cc15:=eI.cell m3
     ·refine wp_load_row 43 _ rfl _ (by simp [Act.eval,o7]) _ cb _ _ (eI.block (eX.block HB3'.out)) Tryz.underlying43 rfl (by first | (rw [ZA.out]; exact qE) | (rw [ZB.out]; exact qE)) ?_;exact q_k hK rfl
     obtain⟨_,s100,rfl⟩:=hA 1 100;have o9:=oOf (hB 9) rfl;clear hB hA;rw [if_pos (by simp [Region.wanted,yielded,s100])];have cc0:=eI.cell m0;have cc1:=eI.cell m1;have cc2:=eI.cell m2;have cc3:=eI.cell m3
     ·go_simp;exact q_k hK (hRm.ext eI)
     obtain⟨_,s100,rfl⟩:=hA 1 100;obtain⟨_,s103,rfl⟩:=hA 4 103;obtain⟨_,s104,rfl⟩:=hA 5 104;obtain⟨x105,s105,j105⟩:=hA 6 105;replace j105:Mn.p (Mn.rat N (low)) x105 wi:=j105;clear hB hA;rw [if_pos (by simp [Region.wanted,yielded,s100])]
     ·go_simp;refine (HAT.out _ _ low (E7x.trans eI) j105 HKL.out).mono ?_;rintro e wj ⟨cs,rfl,h1,h2,h3,ej⟩;go_wp2_with fail;exact hK.out _ _ ej ⟨cs,rfl,h1,h2,h3⟩
     obtain⟨_,s100,rfl⟩:=hA 1 100;obtain⟨_,s101,rfl⟩:=hA 2 101;obtain⟨_,s102,rfl⟩:=hA 3 102;obtain⟨x106,s106,j106⟩:=hA 7 106;replace j106:Mn.p (Mn.pt N (fun i=>lin (a i) (b i) low)) x106 wi:=j106;clear hB hA;rw [if_pos (by simp [Region.wanted,yielded,s100])]
     ·obtain⟨cs,rfl,k1,k2,k3⟩:=j106;go_simp;refine (HOR.out _ cs low (E7x.trans eI) k1 k3 HKL.out).mono ?_;rintro e wj ⟨vj,rfl,hj,ej⟩;go_wp2_with fail;exact hK.out _ _ ej hj
     obtain⟨_,s100,rfl⟩:=hA 1 100;obtain⟨x107,s107,j107⟩:=hA 8 107;replace j107:Mn.p (Mn.rat N (lin e0 f0 low)) x107 wi:=j107;clear hB hA;rw [if_pos (by simp [Region.wanted,yielded,s100])]
     ·go_simp;refine (kQ j107 HSE.out).mono ?_;rw [<-hsv.out];rintro e wj ⟨rfl,ej⟩;go_wp2_with fail;exact hK.out _ _ ej rfl
     obtain⟨_,s100,rfl⟩:=hA 1 100;obtain⟨_,s108,rfl⟩:=hA 9 108;rw [if_pos (by simp [Region.wanted,yielded,s100])]
     rotate_left
     obtain⟨_,s100,rfl⟩:=hA 1 100;obtain⟨_,s109,rfl⟩:=hA 10 109
     rotate_left
     obtain⟨_,s110,rfl⟩:=hA 11 110
     rotate_left
     all_goals clear hB hA; go_simp; exact q_k hK rfl
    intro vals wz eZ hJ;have J8:vals 12=_:=hJ 12 (by decide) (by decide);clear hJ;simp only [pr,Nat.reduceAdd,J8];clear J8;refine qg (by kernel_rfl) ?_ _;go_wp2;go_ret;rw [HRE.out];exact⟨rfl,(hE7.trans eX).trans eZ⟩
   have t1:(sc == 0)=false:=by
    have:sc≠0:=fun h=>heq (by have:=Yv.1 (by rw [<-hsc.out]; exact h:(low - high).num.sign=0); grind)
    simpa using this
   have HPA2:Hid (q1a p q e0 f0↔(0 < lin e0 f0 low\/0 < lin e0 f0 high)):=q2b HCL.out (by grind);clear heq hgt;go_upto_region 22 with (fail);clear t0 t1;obtain⟨nm,Am,km,cm,A'm,k'm,c'm,Bm,hbm,ym,zm⟩:=HBL.out;obtain⟨m0,m1,m2,m3,-⟩:=cells4 Bm;have hRm:qm N w7 (.agg #[.bool nm,.slice Am km cm,.bool false,.slice A'm k'm c'm]) (low):=qm.mk hbm ym zm;obtain⟨nn,An,kn,cn,A'n,k'n,c'n,Bn,hbn,yn,zn⟩:=HBH.out;obtain⟨n0,n1,n2,n3,-⟩:=cells4 Bn;have hRn:qm N w7 (.agg #[.bool nn,.slice An kn cn,.bool false,.slice A'n k'n c'n]) (high):=qm.mk hbn yn zn;obtain⟨sv,hsv⟩:=qf (lin e0 f0 low).num.sign;have HSE:Hid (Sz (lin e0 f0 low)):=(HKE.out low HKL.out).sz (by omega);have eX:=Ext.refl w7;have E7x:=e7
   by_cases h0:0 < lin e0 f0 low
   case pos =>
    have d0:decide (0 < sv)=true:=q_t (by rw [hsv.out]; exact kP.2 h0);have HRT:Hid (r=true):=HYES.out (HPA2.out.2 (.inl h0));clear h0;refine xe [Mn.eq (.agg #[.int .i64 G.x0,.int .i64 G.y0,.int .i64 G.st,.int .i64 G.wd,.int .i64 G.ht,.slice A G.n c9]),Mn.eq (.agg #[.int .i64 t.i,.int .i64 t.j,.bool t.l,.int .i64 t.z0,.int .i64 t.z1,.int .i64 t.z2]),Mn.eq (.agg ca),Mn.eq (.agg cb),Mn.rat N (low),Mn.pt N (fun i=>lin (a i) (b i) low),Mn.rat N (lin e0 f0 low),Mn.i sv,Mn.t true,Mn.t true,Mn.eq undef,Mn.eq undef,Mn.eq undef,Mn.eq undef,Mn.eq undef,Mn.eq undef,Mn.eq undef,Mn.eq undef,Mn.eq undef,Mn.t true,Mn.t true] (sM [111,112,113,114,115,116,117,118,119,120,121,122,123,124,125,126,127,128,129,130,8]) [] (rQ 21 0) 0 (by kernel_rfl) ?_ ?_
    ·show ∀ i,i < 21->_
     iterate 21 refine fs ?_ ?_
     ·exact fz
     all_goals intro hl; clear hl; refine stp rfl ?_; intro ac wi eI hB hA K hK
     have o4:=oOf (hB 4) rfl;have cc0:=eI.cell a0;have cc1:=eI.cell a1;have cc2:=eI.cell a2;have cc3:=eI.cell a3;have cc4:=eI.cell a4;have cc5:=eI.cell a5
     rotate_left
     have o5:=oOf (hB 5) rfl;have cc0:=eI.cell t0';have cc1:=eI.cell t1';have cc2:=eI.cell t2';have cc3:=eI.cell t3';have cc4:=eI.cell t4';have cc5:=eI.cell t5'
     rotate_left
     have o6:=oOf (hB 6) rfl;clear hB hA;have cc0:=eI.cell a0;have cc1:=eI.cell a1;have cc2:=eI.cell a2;have cc3:=eI.cell a3;have cc4:=eI.cell a4;have cc5:=eI.cell a5;have cc6:=eI.cell t0';have cc7:=eI.cell t1';have cc8:=eI.cell t2';have cc9:=eI.cell t3';have cc10:=eI.cell t4';have cc11:=eI.cell t5';have cc12:=eI.cell m0;have cc13:=eI.cell m1;have cc14:=eI.cell m2;have cc15:=eI.cell m3
     ·refine wp_load_row 43 _ rfl _ (by simp [Act.eval,o6]) _ ca _ _ (eI.block (eX.block HB2'.out)) Tryz.underlying43 rfl (by first | (rw [ZA.out]; exact qE) | (rw [ZB.out]; exact qE)) ?_;exact q_k hK rfl
     have o7:=oOf (hB 7) rfl;clear hB hA;have cc0:=eI.cell a0;have cc1:=eI.cell a1;have cc2:=eI.cell a2;have cc3:=eI.cell a3;have cc4:=eI.cell a4;have cc5:=eI.cell a5;have cc6:=eI.cell t0';have cc7:=eI.cell t1';have cc8:=eI.cell t2';have cc9:=eI.cell t3';have cc10:=eI.cell t4';have cc11:=eI.cell t5';have cc12:=eI.cell m0;have cc13:=eI.cell m1;have cc14:=eI.cell m2;have cc15:=eI.cell m3
     ·refine wp_load_row 43 _ rfl _ (by simp [Act.eval,o7]) _ cb _ _ (eI.block (eX.block HB3'.out)) Tryz.underlying43 rfl (by first | (rw [ZA.out]; exact qE) | (rw [ZB.out]; exact qE)) ?_;exact q_k hK rfl
     have o9:=oOf (hB 9) rfl;clear hB hA;have cc0:=eI.cell m0;have cc1:=eI.cell m1;have cc2:=eI.cell m2;have cc3:=eI.cell m3
     ·go_simp;exact q_k hK (hRm.ext eI)
     obtain⟨_,s113,rfl⟩:=hA 2 113;obtain⟨_,s114,rfl⟩:=hA 3 114;obtain⟨x115,s115,j115⟩:=hA 4 115;replace j115:Mn.p (Mn.rat N (low)) x115 wi:=j115;clear hB hA
     ·go_simp;refine (HAT.out _ _ low (E7x.trans eI) j115 HKL.out).mono ?_;rintro e wj ⟨cs,rfl,h1,h2,h3,ej⟩;go_wp2_with fail;exact hK.out _ _ ej ⟨cs,rfl,h1,h2,h3⟩
     obtain⟨_,s111,rfl⟩:=hA 0 111;obtain⟨_,s112,rfl⟩:=hA 1 112;obtain⟨x116,s116,j116⟩:=hA 5 116;replace j116:Mn.p (Mn.pt N (fun i=>lin (a i) (b i) low)) x116 wi:=j116;clear hB hA
     ·obtain⟨cs,rfl,k1,k2,k3⟩:=j116;go_simp;refine (HOR.out _ cs low (E7x.trans eI) k1 k3 HKL.out).mono ?_;rintro e wj ⟨vj,rfl,hj,ej⟩;go_wp2_with fail;exact hK.out _ _ ej hj
     obtain⟨x117,s117,j117⟩:=hA 6 117;replace j117:Mn.p (Mn.rat N (lin e0 f0 low)) x117 wi:=j117;clear hB hA
     ·go_simp;refine (kQ j117 HSE.out).mono ?_;rw [<-hsv.out];rintro e wj ⟨rfl,ej⟩;go_wp2_with fail;exact hK.out _ _ ej rfl
     obtain⟨_,s118,rfl⟩:=hA 7 118
     rotate_left
     obtain⟨_,s119,rfl⟩:=hA 8 119
     rotate_left
     iterate 9 (obtain⟨_,s120,rfl⟩:=hA 9 120; clear hB hA; rw [if_neg (by simp [Region.wanted,yielded,s120,undef])]; exact q_k hK rfl)
     obtain⟨_,s120,rfl⟩:=hA 9 120;obtain⟨_,s129,rfl⟩:=hA 18 129
     rotate_left
     obtain⟨_,s130,rfl⟩:=hA 19 130
     rotate_left
     all_goals clear hB hA; go_simp; exact q_k hK rfl
    intro vals wz eZ hJ;have J8:vals 20=_:=hJ 20 (by decide) (by decide);clear hJ;simp only [pr,Nat.reduceAdd,J8];clear J8;refine qg (by kernel_rfl) ?_ _;go_wp2;go_ret;rw [HRT.out];exact⟨rfl,hE7.trans eZ⟩
   have d0:decide (0 < sv)=false:=q_f (by rw [hsv.out]; exact mt kP.1 h0);obtain⟨sh,hsh⟩:=qf (lin e0 f0 high).num.sign;have HSF:Hid (Sz (lin e0 f0 high)):=(HKE.out high HKH.out).sz (by omega)
   have HRE:Hid (r=decide (0 < sh)):=by
    rw [Hid,hsh.out]
    by_cases k9:0 < lin e0 f0 high
    ·rw [q_t (kP.2 k9)];exact HYES.out (HPA2.out.2 (.inr k9))
    ·rw [q_f (mt kP.1 k9)];exact HNO.out (fun k=>(HPA2.out.1 k).elim h0 k9)
   clear h0;refine xe [Mn.eq (.agg #[.int .i64 G.x0,.int .i64 G.y0,.int .i64 G.st,.int .i64 G.wd,.int .i64 G.ht,.slice A G.n c9]),Mn.eq (.agg #[.int .i64 t.i,.int .i64 t.j,.bool t.l,.int .i64 t.z0,.int .i64 t.z1,.int .i64 t.z2]),Mn.eq (.agg ca),Mn.eq (.agg cb),Mn.rat N (low),Mn.pt N (fun i=>lin (a i) (b i) low),Mn.rat N (lin e0 f0 low),Mn.i sv,Mn.t false,Mn.t false,Mn.eq (.agg #[.int .i64 G.x0,.int .i64 G.y0,.int .i64 G.st,.int .i64 G.wd,.int .i64 G.ht,.slice A G.n c9]),Mn.eq (.agg #[.int .i64 t.i,.int .i64 t.j,.bool t.l,.int .i64 t.z0,.int .i64 t.z1,.int .i64 t.z2]),Mn.eq (.agg ca),Mn.eq (.agg cb),Mn.rat N (high),Mn.pt N (fun i=>lin (a i) (b i) high),Mn.rat N (lin e0 f0 high),Mn.i sh,Mn.t (decide (0 < sh)),Mn.t (decide (0 < sh)),Mn.t (decide (0 < sh))] (sM [111,112,113,114,115,116,117,118,119,120,121,122,123,124,125,126,127,128,129,130,8]) [] (rQ 21 0) 0 (by kernel_rfl) ?_ ?_
   ·show ∀ i,i < 21->_
    iterate 21 refine fs ?_ ?_
    ·exact fz
    all_goals intro hl; clear hl; refine stp rfl ?_; intro ac wi eI hB hA K hK
    have o4:=oOf (hB 4) rfl;have cc0:=eI.cell a0;have cc1:=eI.cell a1;have cc2:=eI.cell a2;have cc3:=eI.cell a3;have cc4:=eI.cell a4;have cc5:=eI.cell a5
    rotate_left
    have o5:=oOf (hB 5) rfl;have cc0:=eI.cell t0';have cc1:=eI.cell t1';have cc2:=eI.cell t2';have cc3:=eI.cell t3';have cc4:=eI.cell t4';have cc5:=eI.cell t5'
    rotate_left
    have o6:=oOf (hB 6) rfl;clear hB hA;have cc0:=eI.cell a0;have cc1:=eI.cell a1;have cc2:=eI.cell a2;have cc3:=eI.cell a3;have cc4:=eI.cell a4;have cc5:=eI.cell a5;have cc6:=eI.cell t0';have cc7:=eI.cell t1';have cc8:=eI.cell t2';have cc9:=eI.cell t3';have cc10:=eI.cell t4';have cc11:=eI.cell t5';have cc12:=eI.cell m0;have cc13:=eI.cell m1;have cc14:=eI.cell m2;have cc15:=eI.cell m3;have cc16:=eI.cell n0;have cc17:=eI.cell n1;have cc18:=eI.cell n2;have cc19:=eI.cell n3
    ·refine wp_load_row 43 _ rfl _ (by simp [Act.eval,o6]) _ ca _ _ (eI.block (eX.block HB2'.out)) Tryz.underlying43 rfl (by first | (rw [ZA.out]; exact qE) | (rw [ZB.out]; exact qE)) ?_;exact q_k hK rfl
    have o7:=oOf (hB 7) rfl;clear hB hA;have cc0:=eI.cell a0;have cc1:=eI.cell a1;have cc2:=eI.cell a2;have cc3:=eI.cell a3;have cc4:=eI.cell a4;have cc5:=eI.cell a5;have cc6:=eI.cell t0';have cc7:=eI.cell t1';have cc8:=eI.cell t2';have cc9:=eI.cell t3';have cc10:=eI.cell t4';have cc11:=eI.cell t5';have cc12:=eI.cell m0;have cc13:=eI.cell m1;have cc14:=eI.cell m2;have cc15:=eI.cell m3;have cc16:=eI.cell n0;have cc17:=eI.cell n1;have cc18:=eI.cell n2;have cc19:=eI.cell n3
    ·refine wp_load_row 43 _ rfl _ (by simp [Act.eval,o7]) _ cb _ _ (eI.block (eX.block HB3'.out)) Tryz.underlying43 rfl (by first | (rw [ZA.out]; exact qE) | (rw [ZB.out]; exact qE)) ?_;exact q_k hK rfl
    have o9:=oOf (hB 9) rfl;clear hB hA;have cc0:=eI.cell m0;have cc1:=eI.cell m1;have cc2:=eI.cell m2;have cc3:=eI.cell m3
    ·go_simp;exact q_k hK (hRm.ext eI)
    obtain⟨_,s113,rfl⟩:=hA 2 113;obtain⟨_,s114,rfl⟩:=hA 3 114;obtain⟨x115,s115,j115⟩:=hA 4 115;replace j115:Mn.p (Mn.rat N (low)) x115 wi:=j115;clear hB hA
    ·go_simp;refine (HAT.out _ _ low (E7x.trans eI) j115 HKL.out).mono ?_;rintro e wj ⟨cs,rfl,h1,h2,h3,ej⟩;go_wp2_with fail;exact hK.out _ _ ej ⟨cs,rfl,h1,h2,h3⟩
    obtain⟨_,s111,rfl⟩:=hA 0 111;obtain⟨_,s112,rfl⟩:=hA 1 112;obtain⟨x116,s116,j116⟩:=hA 5 116;replace j116:Mn.p (Mn.pt N (fun i=>lin (a i) (b i) low)) x116 wi:=j116;clear hB hA
    ·obtain⟨cs,rfl,k1,k2,k3⟩:=j116;go_simp;refine (HOR.out _ cs low (E7x.trans eI) k1 k3 HKL.out).mono ?_;rintro e wj ⟨vj,rfl,hj,ej⟩;go_wp2_with fail;exact hK.out _ _ ej hj
    obtain⟨x117,s117,j117⟩:=hA 6 117;replace j117:Mn.p (Mn.rat N (lin e0 f0 low)) x117 wi:=j117;clear hB hA
    ·go_simp;refine (kQ j117 HSE.out).mono ?_;rw [<-hsv.out];rintro e wj ⟨rfl,ej⟩;go_wp2_with fail;exact hK.out _ _ ej rfl
    obtain⟨_,s118,rfl⟩:=hA 7 118
    rotate_left
    obtain⟨_,s119,rfl⟩:=hA 8 119
    rotate_left
    obtain⟨_,s120,rfl⟩:=hA 9 120;have o4:=oOf (hB 4) rfl;rw [if_pos (by simp [Region.wanted,yielded,s120])];have cc0:=eI.cell a0;have cc1:=eI.cell a1;have cc2:=eI.cell a2;have cc3:=eI.cell a3;have cc4:=eI.cell a4;have cc5:=eI.cell a5
    rotate_left
    obtain⟨_,s120,rfl⟩:=hA 9 120;have o5:=oOf (hB 5) rfl;rw [if_pos (by simp [Region.wanted,yielded,s120])];have cc0:=eI.cell t0';have cc1:=eI.cell t1';have cc2:=eI.cell t2';have cc3:=eI.cell t3';have cc4:=eI.cell t4';have cc5:=eI.cell t5'
    rotate_left
    obtain⟨_,s120,rfl⟩:=hA 9 120;have o6:=oOf (hB 6) rfl;clear hB hA;rw [if_pos (by simp [Region.wanted,yielded,s120])];have cc0:=eI.cell a0;have cc1:=eI.cell a1;have cc2:=eI.cell a2;have cc3:=eI.cell a3;have cc4:=eI.cell a4;have cc5:=eI.cell a5;have cc6:=eI.cell t0';have cc7:=eI.cell t1';have cc8:=eI.cell t2';have cc9:=eI.cell t3';have cc10:=eI.cell t4';have cc11:=eI.cell t5';have cc12:=eI.cell m0;have cc13:=eI.cell m1;have cc14:=eI.cell m2;have cc15:=eI.cell m3;have cc16:=eI.cell n0;have cc17:=eI.cell n1;have cc18:=eI.cell n2;have cc19:=eI.cell n3
    ·refine wp_load_row 43 _ rfl _ (by simp [Act.eval,o6]) _ ca _ _ (eI.block (eX.block HB2'.out)) Tryz.underlying43 rfl (by first | (rw [ZA.out]; exact qE) | (rw [ZB.out]; exact qE)) ?_;exact q_k hK rfl
    obtain⟨_,s120,rfl⟩:=hA 9 120;have o7:=oOf (hB 7) rfl;clear hB hA;rw [if_pos (by simp [Region.wanted,yielded,s120])];have cc0:=eI.cell a0;have cc1:=eI.cell a1;have cc2:=eI.cell a2;have cc3:=eI.cell a3;have cc4:=eI.cell a4;have cc5:=eI.cell a5;have cc6:=eI.cell t0';have cc7:=eI.cell t1';have cc8:=eI.cell t2';have cc9:=eI.cell t3';have cc10:=eI.cell t4';have cc11:=eI.cell t5';have cc12:=eI.cell m0;have cc13:=eI.cell m1;have cc14:=eI.cell m2;have cc15:=eI.cell m3;have cc16:=eI.cell n0;have cc17:=eI.cell n1;have cc18:=eI.cell n2;have cc19:=eI.cell n3
    ·refine wp_load_row 43 _ rfl _ (by simp [Act.eval,o7]) _ cb _ _ (eI.block (eX.block HB3'.out)) Tryz.underlying43 rfl (by first | (rw [ZA.out]; exact qE) | (rw [ZB.out]; exact qE)) ?_;exact q_k hK rfl
    obtain⟨_,s120,rfl⟩:=hA 9 120;have o10:=oOf (hB 10) rfl;clear hB hA;rw [if_pos (by simp [Region.wanted,yielded,s120])];have cc0:=eI.cell n0;have cc1:=eI.cell n1;have cc2:=eI.cell n2;have cc3:=eI.cell n3
    ·go_simp;exact q_k hK (hRn.ext eI)
    obtain⟨_,s120,rfl⟩:=hA 9 120;obtain⟨_,s123,rfl⟩:=hA 12 123;obtain⟨_,s124,rfl⟩:=hA 13 124;obtain⟨x125,s125,j125⟩:=hA 14 125;replace j125:Mn.p (Mn.rat N (high)) x125 wi:=j125;clear hB hA;rw [if_pos (by simp [Region.wanted,yielded,s120])]
    ·go_simp;refine (HAT.out _ _ high (E7x.trans eI) j125 HKH.out).mono ?_;rintro e wj ⟨cs,rfl,h1,h2,h3,ej⟩;go_wp2_with fail;exact hK.out _ _ ej ⟨cs,rfl,h1,h2,h3⟩
    obtain⟨_,s120,rfl⟩:=hA 9 120;obtain⟨_,s121,rfl⟩:=hA 10 121;obtain⟨_,s122,rfl⟩:=hA 11 122;obtain⟨x126,s126,j126⟩:=hA 15 126;replace j126:Mn.p (Mn.pt N (fun i=>lin (a i) (b i) high)) x126 wi:=j126;clear hB hA;rw [if_pos (by simp [Region.wanted,yielded,s120])]
    ·obtain⟨cs,rfl,k1,k2,k3⟩:=j126;go_simp;refine (HOR.out _ cs high (E7x.trans eI) k1 k3 HKH.out).mono ?_;rintro e wj ⟨vj,rfl,hj,ej⟩;go_wp2_with fail;exact hK.out _ _ ej hj
    obtain⟨_,s120,rfl⟩:=hA 9 120;obtain⟨x127,s127,j127⟩:=hA 16 127;replace j127:Mn.p (Mn.rat N (lin e0 f0 high)) x127 wi:=j127;clear hB hA;rw [if_pos (by simp [Region.wanted,yielded,s120])]
    ·go_simp;refine (kQ j127 HSF.out).mono ?_;rw [<-hsh.out];rintro e wj ⟨rfl,ej⟩;go_wp2_with fail;exact hK.out _ _ ej rfl
    obtain⟨_,s120,rfl⟩:=hA 9 120;obtain⟨_,s128,rfl⟩:=hA 17 128;rw [if_pos (by simp [Region.wanted,yielded,s120])]
    rotate_left
    obtain⟨_,s120,rfl⟩:=hA 9 120;obtain⟨_,s129,rfl⟩:=hA 18 129
    rotate_left
    obtain⟨_,s130,rfl⟩:=hA 19 130
    rotate_left
    all_goals clear hB hA; go_simp; exact q_k hK rfl
   intro vals wz eZ hJ;have J8:vals 20=_:=hJ 20 (by decide) (by decide);clear hJ;simp only [pr,Nat.reduceAdd,J8];clear J8;refine qg (by kernel_rfl) ?_ _;go_wp2;go_ret;rw [HRE.out];exact⟨rfl,hE7.trans eZ⟩
  have hk3':(k:Int) < 3:=by omega
  obtain⟨u,hu⟩:=qf (p k);obtain⟨v,hv⟩:=qf (q k);have HPk:=q_h (((HPP.out k hk3).chg hC (by omega)).at4 (hC.blk HDP.out (.inr (by omega))));have HQk:=q_h (((HQQ.out k hk3).chg hC (by omega)).at4 (hC.blk HDQ.out (.inr (by omega))));rw [<-hu.out,Nat.zero_add] at HPk;rw [<-hv.out,Nat.zero_add] at HQk;have HKu:Hid (Ht (2*K+98) u):=by rw [Hid,hu.out]; exact HKP.out k
  have HKv:Hid (Ht (2*K+98) v):=by rw [Hid,hv.out]; exact HKQ.out k
  have HSu:Hid (Sz u):=HKu.out.sz (by omega);have HSv:Hid (Sz v):=HKv.out.sz (by omega);obtain⟨d,hd⟩:=qf (v - u);have HKd:Hid (Ht (4*K+197) d):=by rw [Hid,hd.out]; exact (HKv.out.sub HKu.out).mono (by omega)
  have HSd:Hid (Sz d):=HKd.out.sz (by omega);have HNr:N<=wr.heap.size:=by have:=hEr.size; omega
  obtain⟨nm,Am,km,cm,A'm,k'm,c'm,m0,m1,m2,m3,hRm⟩:=(HPk.out).opn;obtain⟨nn,An,kn,cn,A'n,k'n,c'n,n0,n1,n2,n3,hRn⟩:=(HQk.out).opn;go_upto_region 6 with (fail);refine xe [Mn.i (k:Int),Mn.q gQ (k*4),Mn.rat N (v),Mn.i (k:Int),Mn.q gP (k*4),Mn.rat N (u),Mn.rat N d,Mn.blk wr.heap.size (.cells #[.bool false,.slice none 0 0,.bool false,.slice none 0 0] 29 (0,0)),Mn.any] [some 38,some 39,some 40,some 41,some 42,some 43,some 44,some 14,none] [8] (rQ 8 1) 1 (by kernel_rfl) ?_ ?_
  ·show ∀ i,i < 9->_
   iterate 9 refine fs ?_ ?_
   ·exact fz
   all_goals intro hl; first | exact absurd hl (by decide) | (clear hl; refine stp rfl ?_; intro ac wi eI hB hA K hK)
   have o13:=oOf (hB 13) rfl
   rotate_left
   have o12:=oOf (hB 12) rfl;obtain⟨_,s38,rfl⟩:=hA 0 38
   rotate_left
   obtain⟨_,s39,rfl⟩:=hA 1 39;clear hB hA;have cc0:=eI.cell n0;have cc1:=eI.cell n1;have cc2:=eI.cell n2;have cc3:=eI.cell n3
   ·go_simp;exact q_k hK (hRn.ext eI)
   have o13:=oOf (hB 13) rfl
   rotate_left
   have o11:=oOf (hB 11) rfl;obtain⟨_,s41,rfl⟩:=hA 3 41
   rotate_left
   obtain⟨_,s42,rfl⟩:=hA 4 42;clear hB hA;have cc0:=eI.cell m0;have cc1:=eI.cell m1;have cc2:=eI.cell m2;have cc3:=eI.cell m3
   ·go_simp;exact q_k hK (hRm.ext eI)
   obtain⟨x40,s40,j40⟩:=hA 2 40;replace j40:Mn.p (Mn.rat N (v)) x40 wi:=j40;obtain⟨x43,s43,j43⟩:=hA 5 43;replace j43:Mn.p (Mn.rat N (u)) x43 wi:=j43;clear hB hA
   ·go_simp;refine (jP j40 j43 HSv.out HSu.out).mono ?_;rw [<-hd.out];rintro e wj ⟨vj,rfl,hj,ej⟩;go_wp2_with fail;exact hK.out _ _ ej hj
   clear hB hA
   ·go_simp;refine ql ?_;intro wj ej hszj BJ;exact hK.out _ _ ej ⟨_,rfl,eI.size,BJ⟩
   all_goals clear hB hA; go_simp; exact q_k hK rfl
  intro vals wz eZ hJ;have J44:Mn.p (Mn.rat N d) (vals 6) wz:=hJ 6 (by decide) (by decide);have J14:Mn.p (Mn.blk wr.heap.size (.cells #[.bool false,.slice none 0 0,.bool false,.slice none 0 0] 29 (0,0))) (vals 7) wz:=hJ 7 (by decide) (by decide);clear hJ;simp only [pr,Nat.reduceAdd]
  generalize vals 6=z44 at J44 ⊢
  generalize vals 7=z14 at J14 ⊢
  obtain⟨gS,rfl,hgS,BS⟩:=J14;obtain⟨bz,Az,kz,cz,Az',kz',cz',rfl,hbz,gz1,gz2⟩:=qm.parts J44;obtain⟨y0,y1,y2,y3,y4,y5,y6,y7⟩:=cells4 BS;refine qi (i:=8) rfl (by kernel_rfl) (by kernel_rfl) (fun K hK=>?_);go_simp;refine hK.out _ _ ?_;clear hK K;try simp only [nr]
  refine qg (by kernel_rfl) ?_ _;obtain⟨w7,E7,hBS,K7,hs7⟩:=zU (q:=d) BS (by omega) hbz gz1 gz2;rw [E7];have E7r:Ext wr w7:=K7.ext eZ hgS;replace hBL:=hBL.ext E7r;replace hBH:=hBH.ext E7r;have HPk7:=q_h (HPk.out.ext E7r);have hC7:=hC.trans (E7r.chg gl (gl+2));have hgSl:gl+1 < gS:=by omega
  clear y0 y1 y2 y3 y4 y5 y6 y7 E7 K7 BS hs7 hbz gz1 gz2 eZ m0 m1 m2 m3 n0 n1 n2 n3 hRm hRn HPk HQk hC;have hE7:Ext w w7:=hEr.trans E7r;obtain⟨sg,hsg⟩:=qf d.num.sign;obtain⟨ny,Ay,ky,cy,A'y,k'y,c'y,By,hby,yy,zy⟩:=hBS;obtain⟨y0,y1,y2,y3,-⟩:=cells4 By;have hRy:qm N w7 (.agg #[.bool ny,.slice Ay ky cy,.bool false,.slice A'y k'y c'y]) (d):=qm.mk hby yy zy;go_wp2_with (go_at_call 54; refine q_o ?_);refine (kQ hRy HSd.out).mono ?_;rw [<-hsg.out];rintro e w8 ⟨rfl,e8⟩;replace hBL:=hBL.ext e8;replace hBH:=hBH.ext e8;have hBS8:=q_h ((jL.mk By hby yy zy).ext e8);have HPk8:=q_h (HPk7.out.ext e8);have hC8:=hC7.trans (e8.chg gl (gl+2));have hs68:=hC8.size;have hE8:=hE7.trans e8;clear y0 y1 y2 y3 By hby yy zy hRy hC7 HPk7 E7r;obtain⟨nm,Am,km,cm,A'm,k'm,c'm,m0,m1,m2,m3,hRm⟩:=(HPk8.out).opn
  by_cases hd0:d=0
  case pos =>
   have t0:(sg == 0)=true:=by rw [hsg.out,hd0]; rfl
   have HDZ:Hid (v - u=0):=by rw [Hid,<-hd.out]; exact hd0
   clear hd0;obtain⟨su,hsu⟩:=qf u.num.sign;go_wp2_with (go_at_call 54; refine q_o ?_);refine (kQ hRm HSu.out).mono ?_;rw [<-hsu.out];rintro e w9 ⟨rfl,e9⟩;clear m0 m1 m2 m3 hRm t0
   by_cases hneg:u < 0
   ·have HRF:Hid (r=false):=HNO.out (q2c hk3 (by rw [<-hv.out,<-hu.out]; exact HDZ.out) (by rw [<-hu.out]; exact hneg));have t1:decide (su < 0)=true:=q_t (by rw [hsu.out]; exact jB.2 hneg);clear hneg;go_wp2;go_ret;rw [HRF.out];exact⟨rfl,hE8.trans e9⟩
   ·have t1:decide (su < 0)=false:=q_f (by rw [hsu.out]; exact mt jB.1 hneg);have HC2:Hid (xg p q (k+1) low high):=q0O HCL.out (by rw [<-hv.out,<-hu.out]; exact HDZ.out) (by rw [<-hu.out]; exact hneg);clear hneg;go_wp2;go_roundw
    case rel=>exact⟨k+1,by omega,by go_num,⟨low,high,hBL.ext e9,hBH.ext e9,HC2.out,HKL.out,HKH.out⟩,hC8.trans (e9.chg gl (gl+2))⟩
    case measure=>simp [intOf]; omega
  have t0:(sg == 0)=false:=by
   have:sg≠0:=fun h=>hd0 (Yv.1 (by rw [<-hsg.out]; exact h))
   simpa using this
  have HD0:Hid (v - u≠0):=by rw [Hid,<-hd.out]; exact hd0
  have HD1:=q_h hd0;clear hd0;go_upto_region 10 with (fail);clear t0;obtain⟨s,hs⟩:=qf (-u / d);have HKs:Hid (Ht (6*K+300) s):=by rw [Hid,hs.out]; exact (HKu.out.neg.div HKd.out).mono (by omega)
  have HSs:Hid (Sz s):=HKs.out.sz (by omega);have HSn:Hid (Sz (-u)):=HKu.out.neg.sz (by omega);obtain⟨ny,Ay,ky,cy,A'y,k'y,c'y,By,hby,yy,zy⟩:=hBS8.out;obtain⟨y0,y1,y2,y3,-⟩:=cells4 By;have hRy:qm N w8 (.agg #[.bool ny,.slice Ay ky cy,.bool false,.slice A'y k'y c'y]) (d):=qm.mk hby yy zy;refine q1J [Mn.i (k:Int),Mn.q gP (k*4),Mn.rat N (u),Mn.rat N (-u),Mn.rat N (d),Mn.rc N s,Mn.rc N s,Mn.rat N s,Mn.i 0,Mn.blk w8.heap.size (.cells #[.bool false,.slice none 0 0,.bool false,.slice none 0 0] 29 (0,0)),Mn.any,Mn.any] [some 54,some 55,some 56,some 57,some 58,some 59,some 53,some 60,some 61,some 15,none,some 16] [10,11] [8] (rQ 10 2) 2 (by kernel_rfl) ?_ ?_ ?_
  ·show ∀ i,i < 12->_
   iterate 12 refine fs ?_ ?_
   ·exact fz
   all_goals intro hl hs; first | exact absurd hl (by decide) | exact absurd hs (by decide) | (clear hl hs; refine stp rfl ?_; intro ac wi eI hB hA K hK)
   have o13:=oOf (hB 13) rfl
   rotate_left
   have o11:=oOf (hB 11) rfl;obtain⟨_,s54,rfl⟩:=hA 0 54
   rotate_left
   obtain⟨_,s55,rfl⟩:=hA 1 55;clear hB hA;have cc0:=eI.cell m0;have cc1:=eI.cell m1;have cc2:=eI.cell m2;have cc3:=eI.cell m3
   ·go_simp;exact q_k hK (hRm.ext eI)
   obtain⟨x56,s56,j56⟩:=hA 2 56;replace j56:Mn.p (Mn.rat N (u)) x56 wi:=j56;clear hB hA
   ·go_simp;refine (q2W j56 HSu.out).mono ?_;rintro e wj ⟨vj,rfl,hj,ej⟩;go_wp2_with fail;exact hK.out _ _ ej hj
   have o14:=oOf (hB 14) rfl;clear hB hA;have cc0:=eI.cell y0;have cc1:=eI.cell y1;have cc2:=eI.cell y2;have cc3:=eI.cell y3
   ·go_simp;exact q_k hK (hRy.ext eI)
   obtain⟨x57,s57,j57⟩:=hA 3 57;replace j57:Mn.p (Mn.rat N (-u)) x57 wi:=j57;obtain⟨x58,s58,j58⟩:=hA 4 58;replace j58:Mn.p (Mn.rat N (d)) x58 wi:=j58;clear hB hA
   ·go_simp;refine (jQ j57 j58 HSn.out HSd.out HD1.out).mono ?_;rw [<-hs.out];rintro e wj ⟨vj,rfl,hj,ej⟩;go_wp2_with fail;exact hK.out _ _ ej ⟨vj,rfl,hj⟩
   obtain⟨x59,s59,j59⟩:=hA 5 59;replace j59:Mn.p (Mn.rc N s) x59 wi:=j59;clear hB hA
   ·go_simp;exact q_k hK j59
   obtain⟨x53,s53,j53⟩:=hA 6 53;replace j53:Mn.p (Mn.rc N s) x53 wi:=j53;clear hB hA
   ·obtain⟨vj,rfl,hj⟩:=j53;go_simp;exact q_k hK hj
   clear hB hA
   ·go_simp;refine ql ?_;intro wj ej hszj BJ;exact hK.out _ _ ej ⟨_,rfl,eI.size,BJ⟩
   all_goals clear hB hA; go_simp; exact q_k hK rfl
  ·intro i hs;have hi':i=8:=by simpa using hs
   clear hs
   rcases hi' with rfl
   ·refine sft rfl (fun _ _ _ _ h=>h) ?_;intro ac wi eI hB hA;obtain⟨x53,s53,j53⟩:=hA 6 53;replace j53:Mn.p (Mn.rc N s) x53 wi:=j53;clear hB hA;obtain⟨vj,rfl,hj⟩:=j53;refine⟨(.int .i64 0),.inl ⟨rfl,fun w9 _=>?_⟩,rfl⟩;go_simp
  intro vals wz eZ hJ;have J60:Mn.p (Mn.rat N s) (vals 7) wz:=hJ 7 (by decide) (by decide);have J61:vals 8=_:=hJ 8 (by decide) (by decide);have J15:Mn.p (Mn.blk w8.heap.size (.cells #[.bool false,.slice none 0 0,.bool false,.slice none 0 0] 29 (0,0))) (vals 9) wz:=hJ 9 (by decide) (by decide);clear hJ;simp only [pr,Nat.reduceAdd,J61];clear J61
  generalize vals 7=z60 at J60 ⊢
  generalize vals 9=z15 at J15 ⊢
  obtain⟨gX,rfl,hgX,BX⟩:=J15;obtain⟨bz,Az,kz,cz,Az',kz',cz',rfl,hbz,gz1,gz2⟩:=qm.parts J60;obtain⟨x0,x1,x2,x3,x4,x5,x6,x7⟩:=cells4 BX;refine qi (i:=10) rfl (by kernel_rfl) (by kernel_rfl) (fun K hK=>?_);go_simp;refine hK.out _ _ ?_;clear hK K;try simp only [nr]
  refine qi (i:=11) rfl (by kernel_rfl) (by kernel_rfl) (fun K hK=>?_);go_simp;refine hK.out _ _ ?_;clear hK K;try simp only [nr]
  refine qg (by kernel_rfl) ?_ _;have hN8:N<=w8.heap.size:=by have:=hE8.size; omega
  obtain⟨w9,E9,hBX,K9,hs9⟩:=zU (q:=s) BX (by omega) hbz gz1 gz2;rw [E9];have E89:Ext w8 w9:=K9.ext eZ hgX;replace hBL:=hBL.ext E89;replace hBH:=hBH.ext E89;have hBS9:=q_h (hBS8.out.ext E89);have hC9:=hC8.trans (E89.chg gl (gl+2));have hE9:=hE8.trans E89;have hsz9:=E89.size;clear x0 x1 x2 x3 x4 x5 x6 x7 E9 K9 BX hs9 hbz gz1 gz2 eZ m0 m1 m2 m3 hRm y0 y1 y2 y3 By hby yy zy hRy hC8 HPk8 hBS8;have HBX:=q_h hBX;have hgXl:gl+1 < gX:=by omega
  have hgX9:=q5w hBX;have hgS9:=q5w hBS9.out;clear hBX;obtain⟨ny,Ay,ky,cy,A'y,k'y,c'y,By,hby,yy,zy⟩:=hBS9.out;obtain⟨y0,y1,y2,y3,-⟩:=cells4 By;have hRy:qm N w9 (.agg #[.bool ny,.slice Ay ky cy,.bool false,.slice A'y k'y c'y]) (d):=qm.mk hby yy zy;go_wp2_with (go_at_call 54; refine q_o ?_);refine (kQ hRy HSd.out).mono ?_;rw [<-hsg.out];rintro e w10 ⟨rfl,e10⟩;clear y0 y1 y2 y3 By hby yy zy hRy;replace hBL:=hBL.ext e10;replace hBH:=hBH.ext e10;replace HBX:=q_h (HBX.out.ext e10);have HBS:=q_h (hBS9.out.ext e10);have hC10:=hC9.trans (e10.chg gl (gl+2));have hE10:=hE9.trans e10;have hs10:=e10.size;have hN10:N<=w10.heap.size:=by have:=hE10.size; omega
  clear hBS9 e10
  by_cases hdp:0 < d
  case pos =>
   have t2:decide (0 < sg)=true:=q_t (by rw [hsg.out]; exact kP.2 hdp);have HDP':=q_h hdp;have t5:decide (sg < 0)=false:=q_f (by have:=kP.2 hdp; rw [<-hsg.out] at this; omega);clear hdp;obtain⟨nx,Ax,kx,cx,A'x,k'x,c'x,Bx,hbx,yx,zx⟩:=HBX.out;obtain⟨x0,x1,x2,x3,-⟩:=cells4 Bx;have hRx:qm N w10 (.agg #[.bool nx,.slice Ax kx cx,.bool false,.slice A'x k'x c'x]) (s):=qm.mk hbx yx zx;obtain⟨nl,Al,kl,cl,A'l,k'l,c'l,Bl,hbl,yl,zl⟩:=hBL;obtain⟨l0,l1,l2,l3,-⟩:=cells4 Bl;have hRl:qm N w10 (.agg #[.bool nl,.slice Al kl cl,.bool false,.slice A'l k'l c'l]) (low):=qm.mk hbl yl zl;obtain⟨sc,hsc⟩:=qf (s - low).num.sign;go_wp2_with (go_at_call 57; refine q_o ?_);refine (zJ hRx hRl HSs.out (HKL.out.sz (by omega)) ((HKs.out.sub HKL.out).sz (by omega))).mono ?_;rw [<-hsc.out];rintro e w11 ⟨rfl,e11⟩;have hs11:=e11.size;have Bl11:=e11.block Bl;have hBX11:=HBX.out.ext e11;have HBS11:=q_h (HBS.out.ext e11);replace hBH:=hBH.ext e11;have hBL11:jL N w11 gl low:=jL.mk Bl11 hbl (yl.ext e11) (zl.ext e11);have hC11:=hC10.trans (e11.chg gl (gl+2));have hE11:=hE10.trans e11;clear x0 x1 x2 x3 Bx hbx yx zx hRx l0 l1 l2 l3 Bl hbl yl zl hRl t2 e11 HBS
   by_cases hls:low < s
   ·have t3:decide (0 < sc)=true:=q_t (by rw [hsc.out]; exact kP.2 (by grind))
    have HCN:Hid (xg p q (k+1) s high):=by
     have h:=q0M HCL.out hu.out hv.out hd.out hs.out HDP'.out;rw [if_pos hls] at h;exact h
    clear hls;obtain⟨nx,Ax,kx,cx,A'x,k'x,c'x,Bx,hbx,yx,zx⟩:=hBX11;obtain⟨x0,x1,x2,x3,-⟩:=cells4 Bx;have hRx:qm N w11 (.agg #[.bool nx,.slice Ax kx cx,.bool false,.slice A'x k'x c'x]) (s):=qm.mk hbx yx zx;obtain⟨l0,l1,l2,l3,l4,l5,l6,l7⟩:=cells4 Bl11;go_upto_region 13 with (fail);obtain⟨w12,E12,hBL12,K12,hs12⟩:=zU (q:=s) Bl11 (by omega) hbx yx zx;rw [E12];have hBH12:=hBH.chg K12 (by omega) (by omega);have hBS12:=HBS11.out.chg K12 (by omega) (by omega);have hC12:=hC11.trans (K12.wide (q_r) (by omega));clear t3 x0 x1 x2 x3 Bx hbx yx zx hRx l0 l1 l2 l3 l4 l5 l6 l7 Bl11 E12 K12 hs12 hBL11 hBH HBS11;obtain⟨ny,Ay,ky,cy,A'y,k'y,c'y,By,hby,yy,zy⟩:=hBS12;obtain⟨y0,y1,y2,y3,-⟩:=cells4 By;have hRy:qm N w12 (.agg #[.bool ny,.slice Ay ky cy,.bool false,.slice A'y k'y c'y]) (d):=qm.mk hby yy zy;go_wp2_with (go_at_call 54; refine q_o ?_);refine (kQ hRy HSd.out).mono ?_;rw [<-hsg.out];rintro e wE ⟨rfl,eE⟩;clear y0 y1 y2 y3 By hby yy zy hRy;go_wp2;go_roundw
    case rel=>exact⟨k+1,by omega,by go_num,⟨s,high,hBL12.ext eE,hBH12.ext eE,HCN.out,HKs.out,HKH.out⟩,hC12.trans (eE.chg gl (gl+2))⟩
    case measure=>simp [intOf]; omega
   ·have t3:decide (0 < sc)=false:=q_f (by rw [hsc.out]; exact mt kP.1 (by grind))
    have HCN:Hid (xg p q (k+1) low high):=by
     have h:=q0M HCL.out hu.out hv.out hd.out hs.out HDP'.out;rw [if_neg hls] at h;exact h
    clear hls;have hBS11:=HBS11.out;obtain⟨ny,Ay,ky,cy,A'y,k'y,c'y,By,hby,yy,zy⟩:=hBS11;obtain⟨y0,y1,y2,y3,-⟩:=cells4 By;have hRy:qm N w11 (.agg #[.bool ny,.slice Ay ky cy,.bool false,.slice A'y k'y c'y]) (d):=qm.mk hby yy zy;go_wp2_with (go_at_call 54; refine q_o ?_);refine (kQ hRy HSd.out).mono ?_;rw [<-hsg.out];rintro e wE ⟨rfl,eE⟩;clear y0 y1 y2 y3 By hby yy zy hRy;go_wp2;go_roundw
    case rel=>exact⟨k+1,by omega,by go_num,⟨low,high,hBL11.ext eE,hBH.ext eE,HCN.out,HKL.out,HKH.out⟩,hC11.trans (eE.chg gl (gl+2))⟩
    case measure=>simp [intOf]; omega
  have hdn:d < 0:=by
   have:=HD1.out
   grind
  have t2:decide (0 < sg)=false:=q_f (by rw [hsg.out]; exact mt kP.1 hdp);have t5:decide (sg < 0)=true:=q_t (by rw [hsg.out]; exact jB.2 hdn);have HDN:=q_h hdn;clear hdp hdn;go_upto_region 13 with (fail);clear t2;obtain⟨ny,Ay,ky,cy,A'y,k'y,c'y,By,hby,yy,zy⟩:=HBS.out;obtain⟨y0,y1,y2,y3,-⟩:=cells4 By;have hRy:qm N w10 (.agg #[.bool ny,.slice Ay ky cy,.bool false,.slice A'y k'y c'y]) (d):=qm.mk hby yy zy;go_wp2_with (go_at_call 54; refine q_o ?_);refine (kQ hRy HSd.out).mono ?_;rw [<-hsg.out];rintro e w11 ⟨rfl,e11⟩;clear y0 y1 y2 y3 By hby yy zy hRy;replace hBL:=hBL.ext e11;replace hBH:=hBH.ext e11;replace HBX:=q_h (HBX.out.ext e11);have hC11:=hC10.trans (e11.chg gl (gl+2));have hs11:=e11.size;clear e11 HBS hC10;obtain⟨nx,Ax,kx,cx,A'x,k'x,c'x,Bx,hbx,yx,zx⟩:=HBX.out;obtain⟨x0,x1,x2,x3,-⟩:=cells4 Bx;have hRx:qm N w11 (.agg #[.bool nx,.slice Ax kx cx,.bool false,.slice A'x k'x c'x]) (s):=qm.mk hbx yx zx;obtain⟨nl,Al,kl,cl,A'l,k'l,c'l,Bl,hbl,yl,zl⟩:=hBH;obtain⟨l0,l1,l2,l3,-⟩:=cells4 Bl;have hRl:qm N w11 (.agg #[.bool nl,.slice Al kl cl,.bool false,.slice A'l k'l c'l]) (high):=qm.mk hbl yl zl;obtain⟨sc,hsc⟩:=qf (s - high).num.sign;go_wp2_with (go_at_call 57; refine q_o ?_);refine (zJ hRx hRl HSs.out (HKH.out.sz (by omega)) ((HKs.out.sub HKH.out).sz (by omega))).mono ?_;rw [<-hsc.out];rintro e w12 ⟨rfl,e12⟩;have hs12:=e12.size;have Bl12:=e12.block Bl
  have hBX12:=HBX.out.ext e12;replace hBL:=hBL.ext e12;have hBH12:jL N w12 (gl+1) high:=jL.mk Bl12 hbl (yl.ext e12) (zl.ext e12);have hC12:=hC11.trans (e12.chg gl (gl+2));clear x0 x1 x2 x3 Bx hbx yx zx hRx l0 l1 l2 l3 Bl hbl yl zl hRl t5 e12 hC11
  by_cases hls:s < high
  ·have t3:decide (sc < 0)=true:=q_t (by rw [hsc.out]; exact jB.2 (by grind))
   have HCN:Hid (xg p q (k+1) low s):=by
    have h:=q0P HCL.out hu.out hv.out hd.out hs.out HDN.out;rw [if_pos hls] at h;exact h
   clear hls;obtain⟨nx,Ax,kx,cx,A'x,k'x,c'x,Bx,hbx,yx,zx⟩:=hBX12;obtain⟨x0,x1,x2,x3,-⟩:=cells4 Bx;have hRx:qm N w12 (.agg #[.bool nx,.slice Ax kx cx,.bool false,.slice A'x k'x c'x]) (s):=qm.mk hbx yx zx;obtain⟨l0,l1,l2,l3,l4,l5,l6,l7⟩:=cells4 Bl12;go_upto_region 15 with (fail);obtain⟨w13,E13,hBH13,K13,hs13⟩:=zU (q:=s) Bl12 (by omega) hbx yx zx;rw [E13];have hBL13:=hBL.chg K13 (by omega) (by omega);have hC13:=hC12.trans (K13.wide (by omega) (q_r));clear t3 x0 x1 x2 x3 Bx hbx yx zx hRx l0 l1 l2 l3 l4 l5 l6 l7 Bl12 E13 K13 hs13 hBH12 hBL;go_wp2;go_roundw
   case rel=>exact⟨k+1,by omega,by go_num,⟨low,s,hBL13,hBH13,HCN.out,HKL.out,HKs.out⟩,hC13⟩
   case measure=>simp [intOf]; omega
  ·have t3:decide (sc < 0)=false:=q_f (by rw [hsc.out]; exact mt jB.1 (by grind))
   have HCN:Hid (xg p q (k+1) low high):=by
    have h:=q0P HCL.out hu.out hv.out hd.out hs.out HDN.out;rw [if_neg hls] at h;exact h
   clear hls;go_wp2;go_roundw
   case rel=>exact⟨k+1,by omega,by go_num,⟨low,high,hBL,hBH12,HCN.out,HKL.out,HKH.out⟩,hC12⟩
   case measure=>simp [intOf]; omega
def kL (x:Rat) (n:Int):Int:=if 0<=flo (x / 64)/\flo (x / 64) < n then flo (x / 64) else -1
theorem cel_k {k:Int}:(((64*k:Int):Rat)<=x/\x < ((64*k+64:Int):Rat))↔flo (x / 64)=k:=by
 have e1:((64*k:Int):Rat)=64*(k:Rat):=by rw [Rat.intCast_mul]; rfl
 have e2:((64*k+64:Int):Rat)=64*(k:Rat)+64:=by rw [Rat.intCast_add,Rat.intCast_mul]; rfl
 rw [e1,e2]
 constructor
 ·rintro⟨h0,h1⟩;exact q3h (by grind) (by grind)
 ·rintro rfl;have h0:=q3i (x / 64);have h1:=q33 (x / 64)
  constructor <;> grind
theorem YQ {n:Int} (hx:qm N w v x) (hk:Ht K x) (hK:K<=100000) (hn0:0<=n) (hn:n<=64) :
  Calls Tryz.prog 143 #[v,.int .i64 n] w (zX w (.int .i64 (kL x n))):=by
 have hN:=hx.le;obtain⟨m1,X1,i1,d1,X2,i2,d2,rfl,-,-,-⟩:=hx.parts;have HX:=q_h hx;have HK:=q_h hk;have HSX:Hid (Sz x):=hk.sz (by omega);obtain⟨r,hr⟩:=qf (kL x n);rw [<-hr.out];obtain⟨f,hf⟩:=qf (flo (x / 64));clear hx hk;go_enter Tryz.func143,Tryz.ntmps143;go_upto_region 1 with (fail);refine ql ?_;intro W hE hsz B0;have HB0:=q_h B0;clear B0;go_wp2
 go_loopw [7] (fun iv wr=>∃ k:Nat,(k:Int)<=n/\iv=.int .i64 k/\Hid (∀ j:Nat,j < k->f≠(j:Int))/\Ext W wr) (fun iv _=>n.toNat - (intOf iv).toNat)
 case atStart=>exact⟨0,by omega,rfl,fun j hj=>absurd hj (by omega),Ext.refl _⟩
 case round =>
  obtain⟨k,hk,rfl,hA,hEr⟩:=hrel
  by_cases hkn:(k:Int) < n
  case neg =>
   have HR:Hid (r = -1):=by
    rw [Hid,hr.out];unfold kL;rw [<-hf.out,if_neg];rintro⟨h0,h1⟩;exact hA.out f.toNat (by omega) (by omega)
   have hq:decide ((k:Int) < n)=false:=q_f hkn;clear hkn;go_wp2;go_ret;rw [HR.out];exact⟨rfl,hE.trans hEr⟩
  have hq:decide ((k:Int) < n)=true:=q_t hkn;have hNr:N<=wr.heap.size:=by have:=hE.size; have:=hEr.size; omega
  obtain⟨p0,p1,p2,p3,-⟩:=cells4 (hEr.block HB0.out);have hRp:=HX.out.ext (hE.trans hEr);obtain⟨s1,hs1⟩:=qf (x - ((64*(k:Int):Int):Rat)).num.sign;obtain⟨s2,hs2⟩:=qf (x - ((64*(k:Int)+64:Int):Rat)).num.sign
  have HSK:Hid (Sz ((64*(k:Int):Int):Rat)/\Sz ((64*(k:Int)+64:Int):Rat)/\Sz (x - ((64*(k:Int):Int):Rat))/\Sz (x - ((64*(k:Int)+64:Int):Rat))):=by
   have h1:=qp (k:=64*(k:Int)) (m:=14) (by omega) (by omega);have h2:=qp (k:=64*(k:Int)+64) (m:=14) (by omega) (by omega);exact⟨h1.sz (by omega),h2.sz (by omega),(HK.out.sub h1).sz (by omega),(HK.out.sub h2).sz (by omega)⟩
  have HCK:Hid ((((64*(k:Int):Int):Rat)<=x/\x < ((64*(k:Int)+64:Int):Rat))↔f=(k:Int)):=by rw [Hid,hf.out]; exact cel_k
  have hk64:(k:Int) < 64:=by omega
  have hw1:IntKind.i64.wrap (64*(k:Int))=64*(k:Int):=zM (by omega) (by omega);have hw2:IntKind.i64.wrap (64*(k:Int)+64)=64*(k:Int)+64:=zM (by omega) (by omega);go_upto_region 4 with (fail)
  by_cases h1:((64*(k:Int):Int):Rat)<=x
  case neg =>
   have d1:decide (0<=s1)=false:=q_f (by rw [hs1.out,yY]; grind)
   have HA2:Hid (∀ j:Nat,j < k+1->f≠(j:Int)):=fun j hj=>by
    by_cases hjk:j=k
    ·rw [hjk]; exact fun h=>h1 (HCK.out.2 h).1
    ·exact hA.out j (by omega)
   clear h1;refine xe [Mn.rat N (x),Mn.i (k:Int),Mn.i (64*(k:Int)),Mn.rat N ((64*(k:Int):Int):Rat),Mn.i s1,Mn.t false,Mn.t false,Mn.eq undef,Mn.eq undef,Mn.eq undef,Mn.eq undef,Mn.eq undef,Mn.eq undef,Mn.eq undef,Mn.t false] (sM [10,11,12,13,14,15,16,17,18,19,20,21,22,23,24]) [] (rQ 15 0) 0 (by kernel_rfl) ?_ ?_
   ·show ∀ i,i < 15->_
    iterate 15 refine fs ?_ ?_
    ·exact fz
    all_goals intro hl; clear hl; refine stp rfl ?_; intro ac wi eI hB hA K hK
    have o2:=oOf (hB 2) rfl;clear hB hA;have cc0:=eI.cell p0;have cc1:=eI.cell p1;have cc2:=eI.cell p2;have cc3:=eI.cell p3
    ·go_simp;exact q_k hK (hRp.ext eI)
    have o5:=oOf (hB 5) rfl
    rotate_left
    obtain⟨_,s11,rfl⟩:=hA 1 11
    rotate_left
    obtain⟨_,s12,rfl⟩:=hA 2 12;clear hB hA
    ·go_simp;refine (qB (q_l hNr eI.size) (64*(k:Int)) (by omega) (by omega)).mono ?_;rintro e wj ⟨vj,rfl,hj,ej⟩;go_wp2_with fail;exact hK.out _ _ ej hj
    obtain⟨x10,s10,j10⟩:=hA 0 10;replace j10:Mn.p (Mn.rat N (x)) x10 wi:=j10;obtain⟨x13,s13,j13⟩:=hA 3 13;replace j13:Mn.p (Mn.rat N ((64*(k:Int):Int):Rat)) x13 wi:=j13;clear hB hA
    ·go_simp;refine (zJ j10 j13 HSX.out HSK.out.1 HSK.out.2.2.1).mono ?_;rw [<-hs1.out];rintro e wj ⟨rfl,ej⟩;go_wp2_with fail;exact hK.out _ _ ej rfl
    obtain⟨_,s14,rfl⟩:=hA 4 14
    rotate_left
    obtain⟨_,s15,rfl⟩:=hA 5 15
    rotate_left
    iterate 7 (obtain⟨_,s16,rfl⟩:=hA 6 16; clear hB hA; rw [if_neg (by simp [Region.wanted,yielded,s16,undef])]; exact q_k hK rfl)
    obtain⟨_,s16,rfl⟩:=hA 6 16;obtain⟨_,s23,rfl⟩:=hA 13 23
    rotate_left
    all_goals clear hB hA; go_simp; exact q_k hK rfl
   intro vals wz eZ hJ;have J24:vals 14=_:=hJ 14 (by decide) (by decide);clear hJ;simp only [pr,Nat.reduceAdd,J24];clear J24;refine qg (by kernel_rfl) ?_ _;clear p0 p1 p2 p3 hRp d1;go_wp2;go_roundw
   case rel=>exact⟨k+1,by omega,by go_num,HA2.out,hEr.trans eZ⟩
   case measure=>simp [intOf]; omega
  have d1:decide (0<=s1)=true:=q_t (by rw [hs1.out,yY]; grind)
  by_cases h2:x < ((64*(k:Int)+64:Int):Rat)
  case neg =>
   have d2:decide (s2 < 0)=false:=q_f (by rw [hs2.out]; exact mt jB.1 (by grind))
   have HA2:Hid (∀ j:Nat,j < k+1->f≠(j:Int)):=fun j hj=>by
    by_cases hjk:j=k
    ·rw [hjk]; exact fun h=>h2 (HCK.out.2 h).2
    ·exact hA.out j (by omega)
   clear h1 h2;refine xe [Mn.rat N (x),Mn.i (k:Int),Mn.i (64*(k:Int)),Mn.rat N ((64*(k:Int):Int):Rat),Mn.i s1,Mn.t true,Mn.t true,Mn.rat N (x),Mn.i (k:Int),Mn.i (64*(k:Int)),Mn.i (64*(k:Int)+64),Mn.rat N ((64*(k:Int)+64:Int):Rat),Mn.i s2,Mn.t false,Mn.t false] (sM [10,11,12,13,14,15,16,17,18,19,20,21,22,23,24]) [] (rQ 15 0) 0 (by kernel_rfl) ?_ ?_
   ·show ∀ i,i < 15->_
    iterate 15 refine fs ?_ ?_
    ·exact fz
    all_goals intro hl; clear hl; refine stp rfl ?_; intro ac wi eI hB hA K hK
    have o2:=oOf (hB 2) rfl;clear hB hA;have cc0:=eI.cell p0;have cc1:=eI.cell p1;have cc2:=eI.cell p2;have cc3:=eI.cell p3
    ·go_simp;exact q_k hK (hRp.ext eI)
    have o5:=oOf (hB 5) rfl
    rotate_left
    obtain⟨_,s11,rfl⟩:=hA 1 11
    rotate_left
    obtain⟨_,s12,rfl⟩:=hA 2 12;clear hB hA
    ·go_simp;refine (qB (q_l hNr eI.size) (64*(k:Int)) (by omega) (by omega)).mono ?_;rintro e wj ⟨vj,rfl,hj,ej⟩;go_wp2_with fail;exact hK.out _ _ ej hj
    obtain⟨x10,s10,j10⟩:=hA 0 10;replace j10:Mn.p (Mn.rat N (x)) x10 wi:=j10;obtain⟨x13,s13,j13⟩:=hA 3 13;replace j13:Mn.p (Mn.rat N ((64*(k:Int):Int):Rat)) x13 wi:=j13;clear hB hA
    ·go_simp;refine (zJ j10 j13 HSX.out HSK.out.1 HSK.out.2.2.1).mono ?_;rw [<-hs1.out];rintro e wj ⟨rfl,ej⟩;go_wp2_with fail;exact hK.out _ _ ej rfl
    obtain⟨_,s14,rfl⟩:=hA 4 14
    rotate_left
    obtain⟨_,s15,rfl⟩:=hA 5 15
    rotate_left
    obtain⟨_,s16,rfl⟩:=hA 6 16;have o2:=oOf (hB 2) rfl;clear hB hA;rw [if_pos (by simp [Region.wanted,yielded,s16])];have cc0:=eI.cell p0;have cc1:=eI.cell p1;have cc2:=eI.cell p2;have cc3:=eI.cell p3
    ·go_simp;exact q_k hK (hRp.ext eI)
    obtain⟨_,s16,rfl⟩:=hA 6 16;have o5:=oOf (hB 5) rfl;rw [if_pos (by simp [Region.wanted,yielded,s16])]
    rotate_left
    obtain⟨_,s16,rfl⟩:=hA 6 16;obtain⟨_,s18,rfl⟩:=hA 8 18;rw [if_pos (by simp [Region.wanted,yielded,s16])]
    rotate_left
    obtain⟨_,s16,rfl⟩:=hA 6 16;obtain⟨_,s19,rfl⟩:=hA 9 19;rw [if_pos (by simp [Region.wanted,yielded,s16])]
    rotate_left
    obtain⟨_,s16,rfl⟩:=hA 6 16;obtain⟨_,s20,rfl⟩:=hA 10 20;clear hB hA;rw [if_pos (by simp [Region.wanted,yielded,s16])]
    ·go_simp;refine (qB (q_l hNr eI.size) (64*(k:Int)+64) (by omega) (by omega)).mono ?_;rintro e wj ⟨vj,rfl,hj,ej⟩;go_wp2_with fail;exact hK.out _ _ ej hj
    obtain⟨_,s16,rfl⟩:=hA 6 16;obtain⟨x17,s17,j17⟩:=hA 7 17;replace j17:Mn.p (Mn.rat N (x)) x17 wi:=j17;obtain⟨x21,s21,j21⟩:=hA 11 21;replace j21:Mn.p (Mn.rat N ((64*(k:Int)+64:Int):Rat)) x21 wi:=j21;clear hB hA;rw [if_pos (by simp [Region.wanted,yielded,s16])]
    ·go_simp;refine (zJ j17 j21 HSX.out HSK.out.2.1 HSK.out.2.2.2).mono ?_;rw [<-hs2.out];rintro e wj ⟨rfl,ej⟩;go_wp2_with fail;exact hK.out _ _ ej rfl
    obtain⟨_,s16,rfl⟩:=hA 6 16;obtain⟨_,s22,rfl⟩:=hA 12 22;rw [if_pos (by simp [Region.wanted,yielded,s16])]
    rotate_left
    obtain⟨_,s16,rfl⟩:=hA 6 16;obtain⟨_,s23,rfl⟩:=hA 13 23
    rotate_left
    all_goals clear hB hA; go_simp; exact q_k hK rfl
   intro vals wz eZ hJ;have J24:vals 14=_:=hJ 14 (by decide) (by decide);clear hJ;simp only [pr,Nat.reduceAdd,J24];clear J24;refine qg (by kernel_rfl) ?_ _;clear p0 p1 p2 p3 hRp d1 d2;go_wp2;go_roundw
   case rel=>exact⟨k+1,by omega,by go_num,HA2.out,hEr.trans eZ⟩
   case measure=>simp [intOf]; omega
  have d2:decide (s2 < 0)=true:=q_t (by rw [hs2.out]; exact jB.2 (by grind))
  have HR:Hid (r=(k:Int)):=by
   have h9:=HCK.out.1 ⟨h1,h2⟩;rw [Hid,hr.out];unfold kL;rw [<-hf.out,h9,if_pos ⟨by omega,hkn⟩]
  clear h1 h2;refine xe [Mn.rat N (x),Mn.i (k:Int),Mn.i (64*(k:Int)),Mn.rat N ((64*(k:Int):Int):Rat),Mn.i s1,Mn.t true,Mn.t true,Mn.rat N (x),Mn.i (k:Int),Mn.i (64*(k:Int)),Mn.i (64*(k:Int)+64),Mn.rat N ((64*(k:Int)+64:Int):Rat),Mn.i s2,Mn.t true,Mn.t true] (sM [10,11,12,13,14,15,16,17,18,19,20,21,22,23,24]) [] (rQ 15 0) 0 (by kernel_rfl) ?_ ?_
  ·show ∀ i,i < 15->_
   iterate 15 refine fs ?_ ?_
   ·exact fz
   all_goals intro hl; clear hl; refine stp rfl ?_; intro ac wi eI hB hA K hK
   have o2:=oOf (hB 2) rfl;clear hB hA;have cc0:=eI.cell p0;have cc1:=eI.cell p1;have cc2:=eI.cell p2;have cc3:=eI.cell p3
   ·go_simp;exact q_k hK (hRp.ext eI)
   have o5:=oOf (hB 5) rfl
   rotate_left
   obtain⟨_,s11,rfl⟩:=hA 1 11
   rotate_left
   obtain⟨_,s12,rfl⟩:=hA 2 12;clear hB hA
   ·go_simp;refine (qB (q_l hNr eI.size) (64*(k:Int)) (by omega) (by omega)).mono ?_;rintro e wj ⟨vj,rfl,hj,ej⟩;go_wp2_with fail;exact hK.out _ _ ej hj
   obtain⟨x10,s10,j10⟩:=hA 0 10;replace j10:Mn.p (Mn.rat N (x)) x10 wi:=j10;obtain⟨x13,s13,j13⟩:=hA 3 13;replace j13:Mn.p (Mn.rat N ((64*(k:Int):Int):Rat)) x13 wi:=j13;clear hB hA
   ·go_simp;refine (zJ j10 j13 HSX.out HSK.out.1 HSK.out.2.2.1).mono ?_;rw [<-hs1.out];rintro e wj ⟨rfl,ej⟩;go_wp2_with fail;exact hK.out _ _ ej rfl
   obtain⟨_,s14,rfl⟩:=hA 4 14
   rotate_left
   obtain⟨_,s15,rfl⟩:=hA 5 15
   rotate_left
   obtain⟨_,s16,rfl⟩:=hA 6 16;have o2:=oOf (hB 2) rfl;clear hB hA;rw [if_pos (by simp [Region.wanted,yielded,s16])];have cc0:=eI.cell p0;have cc1:=eI.cell p1;have cc2:=eI.cell p2;have cc3:=eI.cell p3
   ·go_simp;exact q_k hK (hRp.ext eI)
   obtain⟨_,s16,rfl⟩:=hA 6 16;have o5:=oOf (hB 5) rfl;rw [if_pos (by simp [Region.wanted,yielded,s16])]
   rotate_left
   obtain⟨_,s16,rfl⟩:=hA 6 16;obtain⟨_,s18,rfl⟩:=hA 8 18;rw [if_pos (by simp [Region.wanted,yielded,s16])]
   rotate_left
   obtain⟨_,s16,rfl⟩:=hA 6 16;obtain⟨_,s19,rfl⟩:=hA 9 19;rw [if_pos (by simp [Region.wanted,yielded,s16])]
   rotate_left
   obtain⟨_,s16,rfl⟩:=hA 6 16;obtain⟨_,s20,rfl⟩:=hA 10 20;clear hB hA;rw [if_pos (by simp [Region.wanted,yielded,s16])]
   ·go_simp;refine (qB (q_l hNr eI.size) (64*(k:Int)+64) (by omega) (by omega)).mono ?_;rintro e wj ⟨vj,rfl,hj,ej⟩;go_wp2_with fail;exact hK.out _ _ ej hj
   obtain⟨_,s16,rfl⟩:=hA 6 16;obtain⟨x17,s17,j17⟩:=hA 7 17;replace j17:Mn.p (Mn.rat N (x)) x17 wi:=j17;obtain⟨x21,s21,j21⟩:=hA 11 21;replace j21:Mn.p (Mn.rat N ((64*(k:Int)+64:Int):Rat)) x21 wi:=j21;clear hB hA;rw [if_pos (by simp [Region.wanted,yielded,s16])]
   ·go_simp;refine (zJ j17 j21 HSX.out HSK.out.2.1 HSK.out.2.2.2).mono ?_;rw [<-hs2.out];rintro e wj ⟨rfl,ej⟩;go_wp2_with fail;exact hK.out _ _ ej rfl
   obtain⟨_,s16,rfl⟩:=hA 6 16;obtain⟨_,s22,rfl⟩:=hA 12 22;rw [if_pos (by simp [Region.wanted,yielded,s16])]
   rotate_left
   obtain⟨_,s16,rfl⟩:=hA 6 16;obtain⟨_,s23,rfl⟩:=hA 13 23
   rotate_left
   all_goals clear hB hA; go_simp; exact q_k hK rfl
  intro vals wz eZ hJ;have J24:vals 14=_:=hJ 14 (by decide) (by decide);clear hJ;simp only [pr,Nat.reduceAdd,J24];clear J24;refine qg (by kernel_rfl) ?_ _;go_wp2;go_ret;rw [HR.out];exact⟨rfl,(hE.trans hEr).trans eZ⟩
end Go.Proofs.YtphpkhoeplcedaaGreat
