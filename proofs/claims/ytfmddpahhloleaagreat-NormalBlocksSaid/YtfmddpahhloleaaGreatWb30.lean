import Derived.Test.YtfmddpahhloleaaGreatWb29
set_option linter.all false
set_option maxHeartbeats 8000000
set_option maxRecDepth 100000
namespace Go.Proofs.YtfmddpahhloleaaGreat
open Go.RowKit
variable {w w':World} {N n lo hi k g i m c b j:Nat} {v:Value} {x:Rat} {R:Raw} {A:Option Addr}
theorem q0D {v':Value} {y:Rat} (h:qY N w v x) (h':qY N w v' y) (hz:Sz x) (hz':Sz y) :
  Calls Tryz.prog 169 #[v,v'] w (zL w (.int .i64 (x.num*y.den - y.num*x.den).sign)):=by
 obtain⟨s,hs⟩:=qc (x.num*y.den - y.num*x.den).sign;rw [<-hs.out];have hI:=h;have hI':=h';have hN:=h.le;obtain⟨m1,X1,i1,d1,X2,i2,d2,rfl,hm1,gx1,gx2⟩:=h.parts;obtain⟨m2,Y1,i3,d3,Y2,i4,d4,rfl,hm2,gy1,gy2⟩:=h'.parts;have HZ:=q_h hz;have HZ':=q_h hz';clear hz hz' h h' gx1 gx2 gy1 gy2;go_enter Tryz.func169,Tryz.ntmps169;go_wp2;refine kG ?_;intro W hE hsz B0 B1;obtain⟨a0,a1,a2,a3,-⟩:=cells4 B0;obtain⟨b0,b1,b2,b3,-⟩:=cells4 B1
 go_cut [] (fun wx=>∃ n1 A1 k1 c1 A2 k2 c2 n2 A3 k3 c3 A4 k4 c4,Ext w wx/\w.heap.size+2<=wx.heap.size/\wx.heap[w.heap.size]?=some (.cells #[.bool n1,.slice A1 k1 c1,.bool false,.slice A2 k2 c2] 58 (0,0))/\wx.heap[w.heap.size+1]?=some (.cells #[.bool n2,.slice A3 k3 c3,.bool false,.slice A4 k4 c4] 58 (0,0))/\Hid (n1=decide (x.num < 0))/\Hid (n2=decide (y.num < 0))/\Gs N wx (.slice A1 k1 c1) (dg x.num.natAbs)/\Gs N wx (.slice A2 k2 c2) (dg x.den)/\Gs N wx (.slice A3 k3 c3) (dg y.num.natAbs)/\Gs N wx (.slice A4 k4 c4) (dg y.den)/\w.heap.size+2<=wx.heap.size)
 case first =>
  have eC:=(Ext.refl W).drew
  go_region_with (first
   | (go_at_call_of 171 X1; refine (xI (by exact hI.ext (hE.trans eC)) HZ.out).mono ?_; intro e w1 hh; obtain⟨n1,A1,k1,c1,A2,k2,c2,rfl,hb1,g1,g2,e1⟩:=hh.form; replace eC:=eC.trans e1; have C0:=eC.block B0; have C1:=eC.block B1; obtain⟨p0,p1,p2,p3,p4,p5,p6,p7⟩:=cells4 C0; obtain⟨q0,q1,q2,q3,q4,q5,q6,q7⟩:=cells4 C1)
   | (go_at_call_of 171 Y1; refine (xI (by exact hI'.ext (hE.trans eC)) HZ'.out).mono ?_; intro e w2 hh; obtain⟨n2,A3,k3,c3,A4,k4,c4,rfl,hb2,g3,g4,e2⟩:=hh.form; replace eC:=eC.trans e2; have C0:=eC.block B0; have C1:=eC.block B1; obtain⟨p0,p1,p2,p3,p4,p5,p6,p7⟩:=cells4 C0; obtain⟨q0,q1,q2,q3,q4,q5,q6,q7⟩:=cells4 C1))
  all_goals
   go_wp2_with fail
   go_meet
   obtain⟨w3,E3,D0,U⟩:=ex4 C0 (.bool n1) (.slice A1 k1 c1) (.bool false) (.slice A2 k2 c2);rw [E3];obtain⟨w4,E4,D1,U'⟩:=ex4 (U.blk C1 (by omega)) (.bool n2) (.slice A3 k3 c3) (.bool false) (.slice A4 k4 c4);rw [E4];have hT0:=NoU.mk C0 (by decide);have hT1:=NoU.mk (U.blk C1 (by omega)) (by decide);refine⟨n1,A1,k1,c1,A2,k2,c2,n2,A3,k3,c3,A4,k4,c4,U'.ext (U.ext (hE.trans eC) (q_r)) (by omega),?_,U'.blk D0 (by omega),D1,hb1,hb2,((g1.ext e2).upd U (by omega) hT0).upd U' (by omega) hT1,((g2.ext e2).upd U (by omega) hT0).upd U' (by omega) hT1,(g3.upd U (by omega) hT0).upd U' (by omega) hT1,(g4.upd U (by omega) hT0).upd U' (by omega) hT1,(by rw [U'.size,U.size]; have:=eC.size; omega)⟩;rw [U'.size,U.size]; have:=eC.size; omega
 case rest =>
  clear a0 a1 a2 a3 b0 b1 b2 b3 B0 B1 hE hsz hI hI';obtain⟨n1,A1,k1,c1,A2,k2,c2,n2,A3,k3,c3,A4,k4,c4,hE,-,B0,B1,hb1,hb2,g1,g2,g3,g4,hsz⟩:=hcut;obtain⟨a0,a1,a2,a3,-⟩:=cells4 B0;obtain⟨b0,b1,b2,b3,-⟩:=cells4 B1;have eC:=(Ext.refl wc).drew;go_wp2
  go_region_held3 (fun w'=>(w'.cell? ⟨w.heap.size,0,none⟩=some (.bool n1)/\w'.cell? ⟨w.heap.size,1,none⟩=some (.slice A1 k1 c1)/\w'.cell? ⟨w.heap.size,2,none⟩=some (.bool false)/\w'.cell? ⟨w.heap.size,3,none⟩=some (.slice A2 k2 c2))/\(w'.cell? ⟨w.heap.size+1,0,none⟩=some (.bool n2)/\w'.cell? ⟨w.heap.size+1,1,none⟩=some (.slice A3 k3 c3)/\w'.cell? ⟨w.heap.size+1,2,none⟩=some (.bool false)/\w'.cell? ⟨w.heap.size+1,3,none⟩=some (.slice A4 k4 c4)))
   ((repeat' apply And.intro) <;> repeat with_reducible first | assumption | exact eC.cell (by assumption) | refine cell_far _ ?_ (by omega))
   (first
    | (go_at_call_of 174 A1; refine (KP (by exact zD hb1 (g1.ext eC)) (by exact zK (g4.ext eC)) (by have:=HZ.out.1; omega) (by rw [Int.natAbs_natCast]; have:=HZ'.out.2; omega)).mono ?_; rintro e w5 ⟨v5,rfl,h5,e5⟩; replace eC:=eC.trans e5)
    | (go_at_call_of 174 A3; refine (KP (by exact zD hb2 (g3.ext eC)) (by exact zK (g2.ext eC)) (by have:=HZ'.out.1; omega) (by rw [Int.natAbs_natCast]; have:=HZ.out.2; omega)).mono ?_; rintro e w6 ⟨v6,rfl,h6,e6⟩; replace eC:=eC.trans e6)
    | (go_at_call 211; refine (q5l (by exact h5.ext e6) (by exact h6)).mono ?_; rintro e w7 ⟨rfl,e7⟩; rw [<-hs.out]; replace eC:=eC.trans e7))
  go_wp2;go_ret;exact⟨rfl,hE.trans eC⟩
theorem ZF {y:Rat}:(x.num*y.den - y.num*x.den).sign=0↔x=y:=by
 rw [Int.sign_eq_zero_iff_zero]
 constructor
 ·intro h;have h1:x.num*(y.den:Int)=y.num*(x.den:Int):=by omega
  have h2:Rat.divInt x.num x.den=Rat.divInt y.num y.den:=(Rat.divInt_eq_divInt_iff (by have:=x.den_nz; omega) (by have:=y.den_nz; omega)).2 h1;rw [Rat.num_divInt_den,Rat.num_divInt_den] at h2;exact h2
 ·rintro rfl; omega
theorem QX {R:Nat->Raw} (h:LsR N lo hi w v n R) (hs:∀ i,i < n->xW (R i)) :
  Calls Tryz.prog 104 #[v] w (zL w (.bool (allB n (fun i=>okR (R i))))):=by
 obtain⟨r,hr⟩:=qc (allB n (fun i=>okR (R i)));rw [<-hr.out];obtain⟨A,c,rfl,hnc,hcm⟩:=h.form;unfold maxLen at hcm;have HI:=q_h h;have HS:=q_h hs;clear hs h;go_enter Tryz.func104,Tryz.ntmps104;go_wp2_with fail
 go_loopw [7] (fun i wr=>∃ k:Nat,k<=n/\i=.int .i64 k/\Hid (∀ j,j < k->okR (R j)=true)/\Ext w wr) (fun i _=>n - (intOf i).toNat)
 case atStart=>exact⟨0,Nat.zero_le _,rfl,fun j hj=>absurd hj (by omega),Ext.refl w⟩
 case round =>
  obtain⟨k,hk,rfl,HA,hE⟩:=hrel
  by_cases hlt:k < n
  case neg =>
   have t1:decide ((k:Int) < (n:Int))=false:=q_f (by omega);have HF:Hid (r=true):=by rw [Hid,hr.out]; exact qg.2 (fun j hj=>HA.out j (by omega))
   go_wp2;go_ret;exact⟨qw HF.out.symm,hE⟩
  have t1:decide ((k:Int) < (n:Int))=true:=q_t (by omega);have t2:(k:Int) < (n:Int):=by omega
  obtain⟨b,off,rfl,-,-,hx⟩:=(HI.out.ext hE).addr (by omega);obtain⟨A1,n1,c1,A2,n2,c2,p0,p1,p2,p3,hv⟩:=(hx k hlt).val;have HV:=q_h hv;clear hx hv;go_upto_region 4 with (fail);refine qo ?_;intro w3 e3 hsz3 B3;clear p0 p1 p2 p3;obtain⟨q0,q1,q2,q3,-⟩:=cells4 B3;go_wp2_with (go_at_call 168; refine q_o ?_);refine (KX (HV.out.ext e3) (HS.out k hlt).1 (HS.out k hlt).2).mono ?_;rintro e w4 ⟨rfl,e4⟩;have hE4:=hE.trans (e3.trans e4);obtain⟨o,ho⟩:=qc (okR (R k));rw [<-ho.out];clear q0 q1 q2 q3 B3 e3 e4;cases o with
  | true =>
   go_wp2;go_roundw
   case rel=>exact⟨k+1,by omega,by go_num,zF HA.out ho.out.symm,hE4⟩
   case measure=>simp [intOf]; omega
  | false =>
   have HF:Hid (r=false):=by rw [Hid,hr.out]; exact qL hlt ho.out.symm
   go_wp2;go_ret;exact⟨qw HF.out.symm,hE4⟩
theorem Ku {L:Nat->Nat} {R:Nat->Nat->Raw} (h:MtR N lo hi w (.slice A m c) m L R) (hi':i < m):∃ b off A' c',A=some ⟨b,off,none⟩/\w.cell? ⟨b,off+i,none⟩=some (.slice A' (L i) c')/\LsR N lo hi w (.slice A' (L i) c') (L i) (R i)/\L i<=9223372036854775807:=by
 obtain⟨-,-,A9,c9,hv,-,-,hx⟩:=h;injection hv with e1 e2 e3
 subst e1;obtain⟨b,off,hA,-,-,hc⟩:=hx (by omega);obtain⟨u,h1,h2⟩:=hc i hi';obtain⟨A',c',rfl,h3,h4⟩:=h2.form;unfold maxLen at h4;exact⟨b,off,A',c',hA,h1,h2,by omega⟩
theorem q3O {z:Nat->Int} {B:Bkk} (hi:i < B.m) (h:¬ (B.L i:Int)=z B.c.toNat):Zd z B=false:=by
 unfold Zd;rw [qL hi (q_f h),Bool.false_and,Bool.and_false]
theorem q3N {z:Nat->Int} {B:Bkk} (hi:i < B.m) (hj:j < i) (h0:B.r=B.c) (h:¬ zX (B.A i j)=zX (B.A j i)):Zd z B=false:=by
 unfold Zd symB;rw [show allB B.m (fun i=>allB i (fun j=>decide (zX (B.A i j)=zX (B.A j i))))=false from qL hi (qL hj (q_f h)),q_t h0]
 simp
theorem Ye {z:Nat->Int} {B:Bkk} (h1:(B.m:Int)=z B.r.toNat) (h2:∀ i,i < B.m->(B.L i:Int)=z B.c.toNat) (h3:B.r=B.c->∀ i,i < B.m->∀ j,j < i->zX (B.A i j)=zX (B.A j i)):Zd z B=true:=by
 unfold Zd symB;rw [q_t h1,qg.2 (fun i hi=>q_t (h2 i hi)),Bool.true_and,Bool.true_and]
 by_cases h0:B.r=B.c
 ·rw [qg.2 (fun i hi=>qg.2 fun j hj=>q_t (h3 h0 i hi j hj)),Bool.or_true]
 ·rw [q_f h0]; rfl
theorem q2J {lo' hi':Nat} {Z:Sys} (h:VL N lo hi w v Z) {B:Bkk} {cA:Nat} (hb:MtR N lo' hi' w (.slice A B.m cA) B.m B.L B.A) (h0:0<=B.c) (h1:B.c<=B.r) (h2:B.r < (Z.ns:Int)) (hcan:q2C B=true) (hsz:∀ i,i < B.m->∀ j,j < B.L i->Sz (zX (B.A i j))) :
  Calls Tryz.prog 106 #[v,.agg #[.int .i64 B.r,.int .i64 B.c,.slice A B.m cA]] w (zL w (.bool (Zd Z.z B))):=by
 obtain⟨A1,c1,A2,c2,A3,c3,rfl,s1,s2,s3,k1,-⟩:=h.parts;obtain⟨r,hr⟩:=qc (Zd Z.z B);rw [<-hr.out];have HI:=q_h s1;have HB:=q_h hb;have HCAN:=q_h hcan;have HSZ:=q_h hsz;obtain⟨br,hbr⟩:∃ br:Nat,B.r=(br:Int):=⟨B.r.toNat,by omega⟩
 obtain⟨bc,hbc⟩:∃ bc:Nat,B.c=(bc:Int):=⟨B.c.toNat,by omega⟩
 have hbrn:br < Z.ns:=by omega
 have hbcn:bc < Z.ns:=by omega
 have HT:Hid (B.r.toNat=br/\B.c.toNat=bc):=⟨by omega,by omega⟩
 obtain⟨-,-,A9,c9,hv9,hmc,hmm,-⟩:=hb;obtain⟨-,-,rfl⟩:A=A9/\B.m=B.m/\cA=c9:=by simpa using hv9
 clear hv9;unfold maxLen at hmm;have HRC:Hid (B.r=B.c↔br=bc):=by rw [Hid]; omega
 rw [hbr,hbc];clear h s1 s2 s3 hcan hsz h0 h1 h2 hbr hbc;obtain⟨n,hn⟩:=qc Z.ns;rw [<-hn.out] at HI k1 hbrn hbcn;obtain⟨z,hz⟩:=qc Z.z;rw [<-hz.out] at HI hr;clear hz;obtain⟨ur,hur⟩:=qc (z br);obtain⟨uc,huc⟩:=qc (z bc);obtain⟨m,hm⟩:=qc B.m;rw [<-hm.out] at HB hmc;have hbr':(br:Int) < (n:Int):=by omega
 have hbc':(bc:Int) < (n:Int):=by omega
 obtain⟨bz,oz,rfl,hx⟩:=HI.out.addr (by omega);have p0:=hx br hbrn;have p1:=hx bc hbcn;rw [<-hur.out] at p0;rw [<-huc.out] at p1;have HP:=q_h (And.intro p0 p1);clear hx p0 p1;go_enter Tryz.func106,Tryz.ntmps106;go_upto_region 1 with (fail);refine kG ?_;intro w1 hE hsz B2 B3;rw [<-hn.out] at B2;obtain⟨g2,hg2⟩:=qc w.heap.size;rw [<-hg2.out] at B2 B3 ⊢;clear hg2 hsz;obtain⟨a0,a1,a2,-⟩:=cells3 B2;obtain⟨b0,b1,b2,-⟩:=cells3 B3;rw [<-hm.out] at b2;have p0:=hE.cell HP.out.1;refine Je [Mn.q (g2+1) 2,Mn.eq (.slice A m cA),Mn.i (m:Int),Mn.q g2 0,Mn.eq (.slice (some ⟨bz,oz,none⟩) n c1),Mn.q (g2+1) 0,Mn.i (br:Int),Mn.q bz (oz+br),Mn.i ur,Mn.t ((m:Int) != ur)] (sM [10,11,12,13,14,15,16,17,18,19]) [] (rQ 10 0) 0 (by kernel_rfl) ?_ ?_
 ·show ∀ i,i < 10->_
  iterate 10 refine fs ?_ ?_
  ·exact fz
  all_goals intro hl; clear hl; refine stp rfl ?_; intro ac wi eI hB hA K hK
  have o3:=oOf (hB 3) rfl
  rotate_left
  obtain⟨_,s10,rfl⟩:=hA 0 10;have cc0:=eI.cell b2
  rotate_left
  obtain⟨_,s11,rfl⟩:=hA 1 11
  rotate_left
  have o2:=oOf (hB 2) rfl
  rotate_left
  obtain⟨_,s13,rfl⟩:=hA 3 13;have cc0:=eI.cell a0
  rotate_left
  have o3:=oOf (hB 3) rfl
  rotate_left
  obtain⟨_,s15,rfl⟩:=hA 5 15;have cc0:=eI.cell b0
  rotate_left
  obtain⟨_,s14,rfl⟩:=hA 4 14;obtain⟨_,s16,rfl⟩:=hA 6 16
  rotate_left
  obtain⟨_,s17,rfl⟩:=hA 7 17;have cc0:=eI.cell p0
  rotate_left
  obtain⟨_,s12,rfl⟩:=hA 2 12;obtain⟨_,s18,rfl⟩:=hA 8 18
  rotate_left
  all_goals clear hB hA; go_simp; exact q_k hK rfl
 intro vals wz eZ hJ;have J19:vals 9=_:=hJ 9 (by decide) (by decide);clear hJ;simp only [pr,Nat.reduceAdd,J19];clear J19;refine qh (by kernel_rfl) ?_ _;have hE1:=hE.trans eZ;replace B2:=eZ.block B2;replace B3:=eZ.block B3;clear a0 a1 a2 b0 b1 b2 p0 eZ hE;obtain⟨wA,hwA⟩:∃ wA,wA=wz:=⟨_,rfl⟩
 subst hwA;obtain⟨a0,a1,a2,-⟩:=cells3 B2;obtain⟨b0,b1,b2,-⟩:=cells3 B3;rw [<-hm.out] at b2
 by_cases h1:(m:Int)=ur
 case neg =>
  have t1:((m:Int) != ur)=true:=by simpa using h1
  have HF:Hid (r=false):=by
   rw [Hid,hr.out];unfold Zd;rw [HT.out.1,<-hm.out,<-hur.out,q_f h1,Bool.false_and]
  clear h1;go_wp2;go_ret;exact⟨qw HF.out.symm,hE1⟩
 have t1:((m:Int) != ur)=false:=by simpa using h1
 have HM1:=q_h h1;clear h1;go_wp2_with fail
 go_loopw [23] (fun iv wr=>∃ i:Nat,i<=m/\iv=.int .i64 (i:Int)/\Ext wA wr/\Hid (∀ j,j < i->(B.L j:Int)=uc)) (fun iv _=>m - (intOf iv).toNat)
 case atStart=>exact⟨0,Nat.zero_le _,rfl,Ext.refl _,fun j hj=>absurd hj (Nat.not_lt_zero j)⟩
 case round =>
  obtain⟨i,hi,rfl,hE2,HL⟩:=hrel;clear a0 a1 a2 b0 b1 b2;obtain⟨a0,a1,a2,-⟩:=cells3 (hE2.block B2);obtain⟨b0,b1,b2,-⟩:=cells3 (hE2.block B3);rw [<-hm.out] at b2;have p1:=(hE1.trans hE2).cell HP.out.2
  by_cases hlt:i < m
  case pos =>
   have t2:decide ((i:Int) < (m:Int))=true:=q_t (by omega);have t3:(i:Int) < (m:Int):=by omega
   obtain⟨bb,ob,A',c',rfl,q0,-,hLi⟩:=Ku (HB.out.ext (hE1.trans hE2)) hlt;obtain⟨li,hli⟩:=qc (B.L i);rw [<-hli.out] at q0 hLi
   by_cases h2:(li:Int)=uc
   case neg =>
    have t4:((li:Int) != uc)=true:=by simpa using h2
    have HF:Hid (r=false):=by
     rw [Hid,hr.out];exact q3O (i:=i) (by rw [<-hm.out]; exact hlt) (by rw [HT.out.2,<-huc.out,<-hli.out]; exact h2)
    clear h2;go_wp2;go_ret;exact⟨qw HF.out.symm,hE1.trans hE2⟩
   have t4:((li:Int) != uc)=false:=by simpa using h2
   have HL2:Hid (∀ j,j < i+1->(B.L j:Int)=uc):=fun j hj=>by
    by_cases hji:j=i
    ·rw [hji,<-hli.out]; exact h2
    ·exact HL.out j (by omega)
   clear h2;go_wp2;go_roundw
   case rel=>exact⟨i+1,by omega,by go_num,hE2,HL2⟩
   case measure=>simp [intOf]; omega
  have t2:decide ((i:Int) < (m:Int))=false:=q_f (by omega);have HLA:Hid (∀ j,j < m->(B.L j:Int)=uc):=fun j hj=>HL.out j (by omega)
  clear HL p1;obtain⟨wB,hwB⟩:∃ wB,wB=wr:=⟨_,rfl⟩
  subst hwB
  by_cases hrc:br=bc
  case neg =>
   have t5:((br:Int) != (bc:Int))=true:=by simp; omega
   have HF:Hid (r=true):=by
    rw [Hid,hr.out];exact Ye (by rw [HT.out.1,<-hm.out,<-hur.out]; exact HM1.out) (fun j hj=>by rw [HT.out.2,<-huc.out]; exact HLA.out j (by rw [hm.out]; exact hj)) (fun h9=>absurd (HRC.out.1 h9) hrc)
   clear hrc;go_wp2;go_ret;exact⟨qw HF.out.symm,hE1.trans hE2⟩
  have t5:((br:Int) != (bc:Int))=false:=by simp [hrc]
  have HLM:Hid (∀ j,j < m->B.L j=m):=fun j hj=>by
   have h1:=HLA.out j hj;rw [huc.out,<-hrc,<-hur.out,<-HM1.out] at h1;omega
  have HE12:=q_h (hE1.trans hE2);have HB2:=q_h (hE2.block B2);have HB3:=q_h (hE2.block B3)
  have HCR:Hid (∀ i,i < m->∀ j,j < m->B.A i j=raw (zX (B.A i j))):=fun i hi j hj=>by
   have h1:=qg.1 HCAN.out i (by rw [<-hm.out]; exact hi);exact zY (qg.1 h1 j (by rw [HLM.out i hi]; exact hj))
  have HSR:Hid (∀ i,i < m->∀ j,j < m->Sz (zX (B.A i j))):=fun i hi j hj=>HSZ.out i (by rw [<-hm.out]; exact hi) j (by rw [HLM.out i hi]; exact hj)
  have HRR:=q_h (HRC.out.2 hrc);clear hE1 hE2 B2 B3 HLA hrc hi;go_wp2_with fail
  go_loopw [45] (fun iv wr=>∃ i:Nat,i<=m/\iv=.int .i64 (i:Int)/\Ext wB wr/\Hid (∀ a,a < i->∀ b,b < a->zX (B.A a b)=zX (B.A b a))) (fun iv _=>m - (intOf iv).toNat)
  case atStart=>exact⟨0,Nat.zero_le _,rfl,Ext.refl _,fun j hj=>absurd hj (Nat.not_lt_zero j)⟩
  case round =>
   obtain⟨i,hi,rfl,hE3,HA⟩:=hrel;clear a0 a1 a2 b0 b1 b2 t2;obtain⟨b0,b1,b2,-⟩:=cells3 (hE3.block HB3.out);rw [<-hm.out] at b2
   by_cases hlt:i < m
   case neg =>
    have t2:decide ((i:Int) < (m:Int))=false:=q_f (by omega)
    have HF:Hid (r=true):=by
     rw [Hid,hr.out]
     exact Ye (by rw [HT.out.1,<-hm.out,<-hur.out]; exact HM1.out) (fun j hj=>by
      have h1:=HLM.out j (by rw [hm.out]; exact hj);have h2:(m:Int)=ur:=HM1.out;have h3:br=bc:=HRC.out.1 HRR.out
      rw [h1,h2,hur.out,HT.out.2,h3]) (fun _ a ha b hb=>HA.out a (by rw [<-hm.out] at ha; omega) b hb)
    go_wp2;go_ret;exact⟨qw HF.out.symm,HE12.out.trans hE3⟩
   have t2:decide ((i:Int) < (m:Int))=true:=q_t (by omega);have t3:(i:Int) < (m:Int):=by omega
   obtain⟨bb,ob,Ai,ci,rfl,q0,hrow,-⟩:=Ku (HB.out.ext (HE12.out.trans hE3)) hlt;rw [HLM.out i hlt] at q0 hrow;have HROW:=q_h hrow;obtain⟨wq,hwq⟩:∃ wq,wq=wr:=⟨_,rfl⟩
   subst hwq;clear hrow;go_wp2_with fail
   go_loopw [51] (fun jv wr=>∃ j:Nat,j<=i/\jv=.int .i64 (j:Int)/\Ext wq wr/\Hid (∀ b,b < j->zX (B.A i b)=zX (B.A b i))) (fun jv _=>i - (intOf jv).toNat)
   case atStart=>exact⟨0,Nat.zero_le _,rfl,Ext.refl _,fun j hj=>absurd hj (Nat.not_lt_zero j)⟩
   case round =>
    obtain⟨j,hj,rfl,hE4,HJ⟩:=hrel;clear b0 b1 b2 q0;obtain⟨b0,b1,b2,-⟩:=cells3 ((hE3.trans hE4).block HB3.out);rw [<-hm.out] at b2
    by_cases hlt2:j < i
    case neg =>
     have t6:decide ((j:Int) < (i:Int))=false:=q_f (by omega)
     have HA2:Hid (∀ a,a < i+1->∀ b,b < a->zX (B.A a b)=zX (B.A b a)):=fun a ha b hb=>by
      by_cases hai:a=i
      ·rw [hai]; exact HJ.out b (by omega)
      ·exact HA.out a (by omega) b hb
     go_wp2;go_roundw
     case rel=>exact⟨i+1,by omega,by go_num,hE3.trans hE4,HA2⟩
     case measure=>simp [intOf]; omega
    have t6:decide ((j:Int) < (i:Int))=true:=q_t (by omega);have t7:(j:Int) < (m:Int):=by omega
    have hjm:j < m:=by omega
    obtain⟨bb',ob',Aj,cj,hbb,q1,hrow2,-⟩:=Ku (HB.out.ext (HE12.out.trans (hE3.trans hE4))) hjm;simp only [Option.some.injEq,Addr.mk.injEq,and_true] at hbb;obtain⟨rfl,rfl⟩:=hbb;rw [HLM.out j hjm] at q1 hrow2;obtain⟨b1',o1',rfl,-,-,hx1⟩:=(HROW.out.ext hE4).addr (by omega);obtain⟨b2',o2',rfl,-,-,hx2⟩:=hrow2.addr (by omega);have h1:=hx1 j hjm;have h2:=hx2 i hlt;rw [HCR.out i hlt j hjm] at h1;rw [HCR.out j hjm i hlt] at h2;obtain⟨x,hx⟩:=qc (zX (B.A i j));obtain⟨y,hy⟩:=qc (zX (B.A j i));rw [<-hx.out] at h1;rw [<-hy.out] at h2;obtain⟨nx,A3,k3,c3',A4,k4,c4,p0,p1,p2,p3,hb1,g1,g3⟩:=h1.open;obtain⟨ny,A5,k5,c5,A6,k6,c6,r0,r1,r2,r3,hb2,g4,g5⟩:=h2.open;have hRp:qY N wr (.agg #[.bool nx,.slice A3 k3 c3',.bool false,.slice A4 k4 c4]) x:=qY.mk hb1 g1 g3;have hRr:qY N wr (.agg #[.bool ny,.slice A5 k5 c5,.bool false,.slice A6 k6 c6]) y:=qY.mk hb2 g4 g5;have HSX:Hid (Sz x/\Sz y):=⟨by rw [hx.out]; exact HSR.out i hlt j hjm,by rw [hy.out]; exact HSR.out j hjm i hlt⟩
    obtain⟨s,hs⟩:=qc (x.num*y.den - y.num*x.den).sign;obtain⟨wx,hwx⟩:∃ wx,wx=wr:=⟨_,rfl⟩
    subst hwx;clear hx1 hx2 h1 h2 hb1 hb2 g1 g3 g4 g5 hrow2;go_upto_region 17 with (fail);refine Je [Mn.eq (.slice (some ⟨b1',o1',none⟩) m ci),Mn.i (j:Int),Mn.q (b1') (o1'+j*4),Mn.rat N (x),Mn.q (g2+1) 2,Mn.eq (.slice (some ⟨bb,ob,none⟩) m cA),Mn.i (j:Int),Mn.q bb (ob+j),Mn.eq (.slice (some ⟨b2',o2',none⟩) m cj),Mn.i (i:Int),Mn.q (b2') (o2'+i*4),Mn.rat N (y),Mn.i s,Mn.t (s != 0)] (sM [54,55,56,57,58,59,60,61,62,63,64,65,66,67]) [] (rQ 14 0) 0 (by kernel_rfl) ?_ ?_
    ·show ∀ i,i < 14->_
     iterate 14 refine fs ?_ ?_
     ·exact fz
     all_goals intro hl; clear hl; refine stp rfl ?_; intro ac wi eI hB hA K hK
     have o8:=oOf (hB 8) rfl
     rotate_left
     have o9:=oOf (hB 9) rfl
     rotate_left
     obtain⟨_,s54,rfl⟩:=hA 0 54;obtain⟨_,s55,rfl⟩:=hA 1 55
     rotate_left
     obtain⟨_,s56,rfl⟩:=hA 2 56;clear hB hA;have cc0:=eI.cell p0;have cc1:=eI.cell p1;have cc2:=eI.cell p2;have cc3:=eI.cell p3
     ·go_simp;exact q_k hK (hRp.ext eI)
     have o3:=oOf (hB 3) rfl
     rotate_left
     obtain⟨_,s58,rfl⟩:=hA 4 58;have cc0:=eI.cell b2
     rotate_left
     have o9:=oOf (hB 9) rfl
     rotate_left
     obtain⟨_,s59,rfl⟩:=hA 5 59;obtain⟨_,s60,rfl⟩:=hA 6 60
     rotate_left
     obtain⟨_,s61,rfl⟩:=hA 7 61;have cc0:=eI.cell q1
     rotate_left
     have o7:=oOf (hB 7) rfl
     rotate_left
     obtain⟨_,s62,rfl⟩:=hA 8 62;obtain⟨_,s63,rfl⟩:=hA 9 63
     rotate_left
     obtain⟨_,s64,rfl⟩:=hA 10 64;clear hB hA;have cc0:=eI.cell r0;have cc1:=eI.cell r1;have cc2:=eI.cell r2;have cc3:=eI.cell r3
     ·go_simp;exact q_k hK (hRr.ext eI)
     obtain⟨x57,s57,j57⟩:=hA 3 57;replace j57:Mn.p (Mn.rat N (x)) x57 wi:=j57;obtain⟨x65,s65,j65⟩:=hA 11 65;replace j65:Mn.p (Mn.rat N (y)) x65 wi:=j65;clear hB hA
     ·go_simp;refine (q0D j57 j65 HSX.out.1 HSX.out.2).mono ?_;rw [<-hs.out];rintro e wj ⟨rfl,ej⟩;go_wp2_with fail;exact hK.out _ _ ej rfl
     obtain⟨_,s66,rfl⟩:=hA 12 66
     rotate_left
     all_goals clear hB hA; go_simp; exact q_k hK rfl
    intro vals wz eZ hJ;have J67:vals 13=_:=hJ 13 (by decide) (by decide);clear hJ;simp only [pr,Nat.reduceAdd,J67];clear J67;refine qh (by kernel_rfl) ?_ _;have hE5:=hE4.trans eZ;clear p0 p1 p2 p3 r0 r1 r2 r3 hRp hRr q1 b0 b1 b2 eZ
    by_cases h3:s=0
    case neg =>
     have t8:(s != 0)=true:=by simpa using h3
     have HF:Hid (r=false):=by
      rw [Hid,hr.out];exact q3N (i:=i) (j:=j) (by rw [<-hm.out]; exact hlt) hlt2 HRR.out (fun h9=>h3 (by rw [hs.out]; exact ZF.2 (by rw [hx.out,hy.out]; exact h9)))
     clear h3;go_wp2;go_ret;exact⟨qw HF.out.symm,HE12.out.trans (hE3.trans hE5)⟩
    have t8:(s != 0)=false:=by simpa using h3
    have HJ2:Hid (∀ b,b < j+1->zX (B.A i b)=zX (B.A b i)):=fun b hb=>by
     by_cases hbj:b=j
     ·rw [hbj,<-hx.out,<-hy.out]; exact ZF.1 (by rw [<-hs.out]; exact h3)
     ·exact HJ.out b (by omega)
    clear h3;go_wp2;go_roundw
    case rel=>exact⟨j+1,by omega,by go_num,hE5,HJ2⟩
    case measure=>simp [intOf]; omega
def q0l (a b c d:Int):Int:=if vK a c≠0 then vK a c else vK b d
theorem q5h {a b c d:Int}:q0l a b c d<=0↔¬ (c < a\/(c=a/\d < b)):=by
 unfold q0l vK
 rcases Int.lt_trichotomy a c with h | h | h
 ·simp only [if_pos h]
  simp
  omega
 ·subst h;simp only [if_neg (show ¬ a < a by omega),if_true]
  rcases Int.lt_trichotomy b d with h | h | h
  ·simp [if_pos h]; omega
  ·subst h
   simp
  ·simp [if_neg (show ¬ b < d by omega),if_neg (show ¬ b=d by omega)]
   omega
 ·simp only [if_neg (show ¬ a < c by omega),if_neg (show ¬ a=c by omega)]
  simp
  omega
theorem q3K {g':Nat} {a b c d:Int} (p0:w.cell? ⟨g,0,none⟩=some (.int .i64 a)) (p1:w.cell? ⟨g,1,none⟩=some (.int .i64 b)) (q0:w.cell? ⟨g',0,none⟩=some (.int .i64 c)) (q1:w.cell? ⟨g',1,none⟩=some (.int .i64 d)) :
  Calls Tryz.prog 95 #[.slice (some ⟨g,0,none⟩) 2 2,.slice (some ⟨g',0,none⟩) 2 2] w (zL w (.int .i64 (q0l a b c d))):=by
 obtain⟨s,hs⟩:=qc (vK a c);obtain⟨t,ht⟩:=qc (vK b d);obtain⟨r,hr⟩:=qc (q0l a b c d);rw [<-hr.out];have H1:Hid (s≠0->r=s):=fun h=>by rw [hr.out]; unfold q0l; rw [if_pos (by rw [<-hs.out]; exact h),hs.out]
 have H2:Hid (s=0->r=t):=fun h=>by rw [hr.out]; unfold q0l; rw [if_neg (by rw [<-hs.out]; omega),ht.out]
 clear hr;go_enter Tryz.func95,Tryz.ntmps95;go_wp2_with fail
 go_loopw [11] (fun iv wr=>∃ i:Nat,i<=2/\iv=.int .i64 (i:Int)/\Hid (1<=i->s=0)/\Hid (i=2->t=0)/\Hid (w=wr)) (fun iv _=>2 - (intOf iv).toNat)
 case atStart=>exact⟨0,Nat.zero_le _,rfl,fun h=>by omega,fun h=>by omega,rfl⟩
 case round =>
  obtain⟨i,hi,rfl,HS,HT,HW⟩:=hrel;have hw:=HW.out;subst hw;clear HW
  rcases (by omega:i=0\/i=1\/i=2) with rfl | rfl | rfl
  ·by_cases h:s=0
   ·have t1:(s != 0)=false:=by simpa using h
    have HS2:Hid (s=0):=h;clear h HS HT;go_wp2_with (go_at_call 163; refine (wL _ _ _).mono ?_; rw [<-hs.out]; rintro e w' ⟨rfl,rfl⟩);go_roundw
    case rel=>exact⟨1,by omega,by go_num,fun _=>HS2.out,fun h=>by omega,by first | rfl | trivial⟩
    case measure=>simp [intOf]
   ·have t1:(s != 0)=true:=by simpa using h
    obtain rfl:r=s:=H1.out h;clear h HS HT;go_wp2_with (go_at_call 163; refine (wL _ _ _).mono ?_; rw [<-hs.out]; rintro e w' ⟨rfl,rfl⟩);go_ret;exact⟨rfl,Ext.refl _⟩
  ·obtain rfl:r=t:=H2.out (HS.out (q_r))
   by_cases h:r=0
   ·have t1:(r != 0)=false:=by simpa using h
    have HT2:Hid (r=0):=h;have HS2:Hid (s=0):=HS.out (by omega);clear h HS HT;go_wp2_with (go_at_call 163; refine (wL _ _ _).mono ?_; rw [<-ht.out]; rintro e w' ⟨rfl,rfl⟩);go_roundw
    case rel=>exact⟨2,by omega,by go_num,fun _=>HS2.out,fun _=>HT2.out,by first | rfl | trivial⟩
    case measure=>simp [intOf]
   ·have t1:(r != 0)=true:=by simpa using h
    clear h HS HT;go_wp2_with (go_at_call 163; refine (wL _ _ _).mono ?_; rw [<-ht.out]; rintro e w' ⟨rfl,rfl⟩);go_ret;exact⟨rfl,Ext.refl _⟩
  ·obtain rfl:r=t:=H2.out (HS.out (by omega));obtain rfl:r=0:=HT.out rfl;go_wp2;go_ret;exact⟨rfl,Ext.refl _⟩
def BkSz (B:Bkk):Prop:=∀ a,a < B.m->∀ c,c < B.L a->xW (B.A a c)/\Sz (zX (B.A a c))
theorem q4M.box {o:Nat} {B:Bkk} (h:q4M N lo hi w b o B):∃ (A:Option Addr) (c:Nat),w.cell? ⟨b,o,none⟩=some (.int .i64 B.r)/\w.cell? ⟨b,o+1,none⟩=some (.int .i64 B.c)/\w.cell? ⟨b,o+2,none⟩=some (.slice A B.m c)/\MtR N lo hi w (.slice A B.m c) B.m B.L B.A/\B.m<=9223372036854775807:=by
 obtain⟨h0,h1,A,c,h2,h3⟩:=h;refine⟨A,c,h0,h1,h2,h3,?_⟩;obtain⟨-,-,A9,c9,hv,h4,h5,-⟩:=h3;simp only [Value.slice.injEq] at hv;unfold maxLen at h5;omega
theorem q5M {Z:Sys} (h:(Z.b i).c < 0\/(Z.b i).r < (Z.b i).c\/(Z.ns:Int)<=(Z.b i).r):bkC Z i=2:=by
 unfold bkC;rw [if_pos h]
theorem q5L {Z:Sys} (h:¬ ((Z.b i).c < 0\/(Z.b i).r < (Z.b i).c\/(Z.ns:Int)<=(Z.b i).r)) (h':Zd Z.z (Z.b i)=false):bkC Z i=4:=by
 unfold bkC;rw [if_neg h,if_pos h']
theorem XZ {B C:Bkk}:q1o B C=false↔¬ (B.r < C.r\/(B.r=C.r/\B.c < C.c)):=by
 unfold q1o;rw [Bool.or_eq_false_iff,Bool.and_eq_false_iff,decide_eq_false_iff_not,decide_eq_false_iff_not,decide_eq_false_iff_not];omega
theorem q3l {Z:Sys} {lr lc:Int} (h:¬ ((Z.b i).c < 0\/(Z.b i).r < (Z.b i).c\/(Z.ns:Int)<=(Z.b i).r)) (h':Zd Z.z (Z.b i)=true) (h0:i=0->lr = -1/\lc = -1) (h1:0 < i->lr=(Z.b (i - 1)).r/\lc=(Z.b (i - 1)).c) :
  (q0l (Z.b i).r (Z.b i).c lr lc<=0->bkC Z i=5)/\(¬ q0l (Z.b i).r (Z.b i).c lr lc<=0->bkC Z i=0):=by
 unfold bkC;rw [if_neg h,if_neg (by rw [h']; decide),q5h]
 rcases Nat.eq_zero_or_pos i with hi | hi
 ·obtain⟨rfl,rfl⟩:=h0 hi;subst hi
  constructor
  ·intro h9; exact absurd (by omega) h9
  ·intro h9; rw [if_neg (by omega)]
 ·obtain⟨rfl,rfl⟩:=h1 hi
  constructor
  ·intro h9; rw [if_pos ⟨hi,XZ.2 h9⟩]
  ·intro h9; rw [if_neg (fun h8=>h9 (XZ.1 h8.2))]
theorem q0Z {Z:Sys} (h:VL N lo hi w v Z) (hB:∀ i,i < Z.nb->BkSz (Z.b i)) (hK:∀ i,i < Z.k->xW (Z.R i)) :
  Calls Tryz.prog 41 #[v] w (zL w (.int .i64 (VP Z))):=by
 have HS:=q_h h;have HSZ:=q_h hB;have HKZ:=q_h hK;obtain⟨A1,c1,A2,c2,A3,c3,rfl,s1,s2,s3,k1,k2,k3⟩:=h.parts;have HI:=q_h s1;have HB:=q_h s2;have HL:=q_h s3;obtain⟨r,hr⟩:=qc (VP Z);rw [<-hr.out];have F1:Hid (YR Z=false->r=1):=fun h=>by rw [hr.out]; unfold VP; rw [if_pos h]
 have F3:Hid (YR Z=true->Jd Z=false->r=3):=fun h h'=>by rw [hr.out]; unfold VP; rw [if_neg (by rw [h]; decide),if_pos h']
 have F2:Hid (YR Z=true->Jd Z=true->∀ i,i < Z.nb->(∀ j,j < i->bkC Z j=0)->bkC Z i≠0->r=bkC Z i):=fun h h' i hi hj h0=>by
  have e:=q0w hi hj h0;rw [hr.out]; unfold VP; rw [if_neg (by rw [h]; decide),if_neg (by rw [h']; decide),if_pos (by rw [e]; exact h0),e]
 have F0:Hid (YR Z=true->Jd Z=true->(∀ i,i < Z.nb->bkC Z i=0)->r=if (Z.k:Int)=jX Z.z Z.ns then 0 else 4):=fun h h' hi=>by
  rw [hr.out]; unfold VP; rw [if_neg (by rw [h]; decide),if_neg (by rw [h']; decide),if_neg (by rw [XV hi]; decide)]
 clear h s1 s2 s3 hr hB hK;obtain⟨n,hn⟩:=qc Z.nb;rw [<-hn.out] at k2;obtain⟨ns,hns⟩:=qc Z.ns;obtain⟨kk,hkk⟩:=qc Z.k;rw [<-hkk.out] at k3;go_enter Tryz.func41,Tryz.ntmps41;go_upto_region 1 with (fail);refine qo ?_;intro w1 hE hsz B0;rw [<-hn.out,<-hns.out,<-hkk.out] at B0;obtain⟨g1,hg1⟩:=qc w.heap.size;have hg1':w.heap.size<=g1:=by rw [hg1.out]; exact q_r
 have hg1s:g1 < w1.heap.size:=by rw [hg1.out]; omega
 rw [<-hg1.out] at B0 ⊢;clear hg1 hsz;obtain⟨a0,a1,a2,-⟩:=cells3 B0;go_wp2_with fail
 go_loopw [15] (fun iv wr=>∃ i:Nat,i<=n/\iv=.int .i64 (i:Int)/\Ext w1 wr/\Hid (∀ j,j < i->q2C (Z.b j)=true)) (fun iv _=>n - (intOf iv).toNat)
 case atStart=>exact⟨0,Nat.zero_le _,rfl,Ext.refl _,fun j hj=>absurd hj (Nat.not_lt_zero j)⟩
 case round =>
  obtain⟨i,hi,rfl,hE1,HC⟩:=hrel;clear a0 a1 a2;obtain⟨a0,a1,a2,-⟩:=cells3 (hE1.block B0)
  by_cases hlt:i < n
  case pos =>
   have t1:decide ((i:Int) < (n:Int))=true:=q_t (by omega);have t2:(i:Int) < (n:Int):=by omega
   have HBi:=(HB.out.ext (hE.trans hE1))
   rw [<-hn.out] at HBi;obtain⟨b,off,rfl,hx⟩:=HBi.addr (by omega);obtain⟨Ab,cb,p0,p1,p2,hM,hm9⟩:=(hx i hlt).box;have HM:=q_h hM;obtain⟨m,hm⟩:=qc (Z.b i).m;rw [<-hm.out] at p2 hm9 HM;obtain⟨br,hbr⟩:=qc (Z.b i).r;obtain⟨bc,hbc⟩:=qc (Z.b i).c;rw [<-hbr.out] at p0;rw [<-hbc.out] at p1;clear hx hM HBi;go_upto_region 4 with (fail);refine qo ?_;intro w3 e3 hsz3 B3;clear p0 p1 p2 a0 a1 a2;obtain⟨b0,b1,b2,-⟩:=cells3 B3;have hE3:=hE1.trans e3;obtain⟨ws,hws⟩:∃ ws,ws=w3:=⟨_,rfl⟩
   subst hws;go_wp2_with fail
   go_loopw [22] (fun jv wr=>∃ j:Nat,j<=m/\jv=.int .i64 (j:Int)/\Ext ws wr/\Hid (∀ q,q < j->allB ((Z.b i).L q) (fun c=>okR ((Z.b i).A q c))=true)) (fun jv _=>m - (intOf jv).toNat)
   case atStart=>exact⟨0,Nat.zero_le _,rfl,Ext.refl _,fun j hj=>absurd hj (Nat.not_lt_zero j)⟩
   case round =>
    obtain⟨j,hj,rfl,hE4,HQ⟩:=hrel;clear b0 b1 b2
    by_cases hlt2:j < m
    case neg =>
     have t3:decide ((j:Int) < (m:Int))=false:=q_f (by omega)
     have HC2:Hid (∀ j,j < i+1->q2C (Z.b j)=true):=fun q hq=>by
      by_cases hqi:q=i
      ·subst hqi;unfold q2C;rw [qg];intro a ha;exact HQ.out a (by have:=hm.out; omega)
      ·exact HC.out q (by omega)
     have hE5:=hE3.trans hE4;go_wp2;go_roundw
     case rel=>exact⟨i+1,by omega,by go_num,hE5,HC2⟩
     case measure=>simp [intOf]; omega
    have t3:decide ((j:Int) < (m:Int))=true:=q_t (by omega);have t4:(j:Int) < (m:Int):=by omega
    obtain⟨bb,ob,A',c',rfl,q0,hrow,hLj⟩:=Ku (HM.out.ext (e3.trans hE4)) hlt2;have HROW:=q_h hrow;have HRZ:Hid (∀ c,c < (Z.b i).L j->xW ((Z.b i).A j c)):=fun c hc=>(HSZ.out i (by rw [<-hn.out]; exact hlt) j (by rw [<-hm.out]; exact hlt2) c hc).1
    have HCAN:=q_h (QX hrow HRZ.out);obtain⟨lj,hlj⟩:=qc ((Z.b i).L j);obtain⟨o,ho⟩:=qc (allB ((Z.b i).L j) (fun c=>okR ((Z.b i).A j c)));rw [<-ho.out,<-hlj.out] at HCAN;rw [<-hlj.out] at q0 hLj;clear hrow;go_wp2_with (go_at_call 104; refine q_o ?_);refine (HCAN.out).mono ?_;rintro e w6 ⟨rfl,e6⟩;cases o with
    | true =>
     have HQ2:Hid (∀ q,q < j+1->allB ((Z.b i).L q) (fun c=>okR ((Z.b i).A q c))=true):=fun q hq=>by
      by_cases hqj:q=j
      ·rw [hqj]; exact ho.out.symm
      ·exact HQ.out q (by omega)
     have hE6:=hE4.trans e6;clear q0;go_wp2;go_roundw
     case rel=>exact⟨j+1,by omega,by go_num,hE6,HQ2⟩
     case measure=>simp [intOf]; omega
    | false =>
     have HR:Hid (r=1):=F1.out (by
      unfold YR;have:q2C (Z.b i)=false:=qL (i:=j) (by rw [<-hm.out]; exact hlt2) ho.out.symm
      rw [qL (i:=i) (by rw [<-hn.out]; exact hlt) this,Bool.false_and])
     have hE6:=(hE.trans hE3).trans (hE4.trans e6);clear q0;go_wp2;go_ret;exact⟨qB HR.out.symm,hE6⟩
  have t1:decide ((i:Int) < (n:Int))=false:=q_f (by omega);have hE2:=hE.trans hE1;have HCB:Hid (∀ j,j < n->q2C (Z.b j)=true):=fun j hj=>HC.out j (by omega)
  replace B0:=hE1.block B0;have hgs:=Nat.lt_of_lt_of_le hg1s hE1.size;obtain⟨wA,hwA⟩:∃ wA,wA=wr:=⟨_,rfl⟩
  subst hwA;have HCR:=q_h (QX (HL.out.ext hE2) HKZ.out);obtain⟨o,ho⟩:=qc (allB Z.k (fun i=>okR (Z.R i)));rw [<-ho.out,<-hkk.out] at HCR
  have HCS:Hid (YR Z=o):=by
   rw [Hid,ho.out];unfold YR;rw [qg.2 (fun j hj=>HCB.out j (by rw [hn.out]; exact hj)),Bool.true_and]
  clear HC hE hE1;go_wp2_with (go_at_call 104; refine q_o ?_);refine (HCR.out).mono ?_;rintro e w6 ⟨rfl,e6⟩;have hE6:=hE2.trans e6;cases o with
  | false =>
   have HR:Hid (r=1):=F1.out HCS.out;go_wp2;go_ret;exact⟨qB HR.out.symm,hE6⟩
  | true =>
  clear a0 a1 a2 HCR;replace B0:=e6.block B0;replace hgs:=Nat.lt_of_lt_of_le hgs e6.size;obtain⟨a0,a1,a2,-⟩:=cells3 B0;have HZS:=q_h (q4C (HS.out.ext hE6));rw [<-hns.out,<-hn.out,<-hkk.out] at HZS;obtain⟨sb,hsb⟩:=qc (Jd Z);rw [<-hsb.out] at HZS;obtain⟨q,hq⟩:=qc (if sb=true then (0:Int) else 3);rw [<-hq.out] at HZS;go_wp2_with (go_at_call 105; refine q_o ?_);refine (HZS.out).mono ?_;rintro e w7 ⟨rfl,e7⟩;replace hE6:=hE6.trans e7;replace B0:=e7.block B0;replace hgs:=Nat.lt_of_lt_of_le hgs e7.size;clear a0 a1 a2 HZS;cases sb with
  | false =>
   obtain rfl:q=3:=hq.out;have HR:Hid (r=3):=F3.out HCS.out hsb.out.symm;go_wp2;go_ret;exact⟨qB HR.out.symm,hE6⟩
  | true =>
  obtain rfl:q=0:=hq.out;clear hq;go_upto_region 17 with (fail);refine qo ?_;intro w8 e8 hsz8 B8;obtain⟨g8,hg8⟩:=qc w7.heap.size;have hg8':w.heap.size<=g8:=by have:=hE6.size; rw [hg8.out]; omega
  have hg81:g1 < g8:=by rw [hg8.out]; exact hgs
  have hg8s:g8 < w8.heap.size:=by rw [hg8.out]; omega
  rw [<-hg8.out] at B8 ⊢;replace hE6:=hE6.trans e8;replace B0:=e8.block B0;clear hg8 hsz8 hgs e8 e7 e6 hE2 hg1s;obtain⟨a0,a1,a2,-⟩:=cells3 B0;go_wp2_with fail
  go_loopw [44] (fun iv wr=>∃ (i:Nat) (lr lc:Int),i<=n/\iv=.int .i64 (i:Int)/\Ext w wr/\Hid (wr.heap[g1]?=some (.cells #[.slice A1 ns c1,.slice A2 n c2,.slice A3 kk c3] 34 (0,0)))/\Hid (wr.heap[g8]?=some (.cells #[.int .i64 lr,.int .i64 lc] 76 (0,0)))/\g8 < wr.heap.size/\Hid (i=0->lr = -1/\lc = -1)/\Hid (0 < i->lr=(Z.b (i - 1)).r/\lc=(Z.b (i - 1)).c)/\Hid (∀ j,j < i->bkC Z j=0)) (fun iv _=>n - (intOf iv).toNat)
  case atStart=>exact⟨0,-1,-1,Nat.zero_le _,rfl,hE6,B0,B8,hg8s,fun _=>⟨rfl,rfl⟩,fun h=>absurd h (by omega),fun j hj=>absurd hj (Nat.not_lt_zero j)⟩
  case round =>
   clear a0 a1 a2 B0 B8 hg8s hE6 hi hlt t1;obtain⟨i,lr,lc,hi,rfl,hE1,HB0,HB8,hg8s,HL0,HL1,HC⟩:=hrel
   by_cases hlt:i < n
   case neg =>
    have t1:decide ((i:Int) < (n:Int))=false:=q_f (by omega);have HR:=q_h (F0.out HCS.out hsb.out.symm (fun j hj=>HC.out j (by have:=hn.out; omega)));have B0:=HB0.out;obtain⟨a0,a1,a2,-⟩:=cells3 B0;obtain⟨T,hT⟩:=qc (jX Z.z Z.ns)
    have HSZB:Hid (Z.ns<=12/\∀ i,i < Z.ns->sz1 (Z.z i)=true):=by
     have h9:=hsb.out.symm;unfold Jd at h9;simp only [Bool.and_eq_true,decide_eq_true_eq] at h9;exact⟨h9.1.2,qg.1 h9.2.1⟩
    rw [<-hT.out,<-hkk.out] at HR
    have HTT:Hid (∀ w',Ext wr w'->Calls Tryz.prog 107 #[.agg #[.slice A1 ns c1,.slice A2 n c2,.slice A3 kk c3]] w' (zL w' (.int .i64 T))):=fun w' e=>by
     rw [hns.out,hn.out,hkk.out,hT.out];exact q0Y (HS.out.ext (hE1.trans e)) HSZB.out.1 HSZB.out.2
    obtain⟨wx,hwx⟩:∃ wx,wx=wr:=⟨_,rfl⟩
    subst hwx;clear B0;go_upto_region 29 with (fail);refine Je [Mn.q g1 2,Mn.eq (.slice A3 kk c3),Mn.i (kk:Int),Mn.eq (.agg #[.slice A1 ns c1,.slice A2 n c2,.slice A3 kk c3]),Mn.i T,Mn.t ((kk:Int) != T)] (sM [84,85,86,87,88,89]) [] (rQ 6 0) 0 (by kernel_rfl) ?_ ?_
    ·show ∀ i,i < 6->_
     iterate 6 refine fs ?_ ?_
     ·exact fz
     all_goals intro hl; clear hl; refine stp rfl ?_; intro ac wi eI hB hA K hK
     have o1:=oOf (hB 1) rfl
     rotate_left
     obtain⟨_,s84,rfl⟩:=hA 0 84;have cc0:=eI.cell a2
     rotate_left
     obtain⟨_,s85,rfl⟩:=hA 1 85
     rotate_left
     have o1:=oOf (hB 1) rfl;have cc0:=eI.cell a0;have cc1:=eI.cell a1;have cc2:=eI.cell a2
     rotate_left
     obtain⟨_,s87,rfl⟩:=hA 3 87;clear hB hA
     ·go_simp;refine (HTT.out _ eI).mono ?_;rintro e wj ⟨rfl,ej⟩;go_wp2_with fail;exact hK.out _ _ ej rfl
     obtain⟨_,s86,rfl⟩:=hA 2 86;obtain⟨_,s88,rfl⟩:=hA 4 88
     rotate_left
     all_goals clear hB hA; go_simp; exact q_k hK rfl
    intro vals wz eZ hJ;have J89:vals 5=_:=hJ 5 (by decide) (by decide);clear hJ;simp only [pr,Nat.reduceAdd,J89];clear J89;refine qh (by kernel_rfl) ?_ _;have hE2:=hE1.trans eZ;clear a0 a1 a2 eZ
    by_cases h:(kk:Int)=T
    ·have t2:((kk:Int) != T)=false:=by simpa using h
     obtain rfl:r=0:=by rw [HR.out,if_pos h]
     clear h;go_wp2;go_ret;exact⟨rfl,hE2⟩
    ·have t2:((kk:Int) != T)=true:=by simpa using h
     obtain rfl:r=4:=by rw [HR.out,if_neg h]
     clear h;go_wp2;go_ret;exact⟨rfl,hE2⟩
   have t1:decide ((i:Int) < (n:Int))=true:=q_t (by omega);have t2:(i:Int) < (n:Int):=by omega
   have HBi:=HB.out.ext hE1;rw [<-hn.out] at HBi;obtain⟨b,off,rfl,hx⟩:=HBi.addr (by omega);obtain⟨Ab,cb,p0,p1,p2,hM,hm9⟩:=(hx i hlt).box;have HM:=q_h hM;obtain⟨m,hm⟩:=qc (Z.b i).m;rw [<-hm.out] at p2 hm9;obtain⟨br,hbr⟩:=qc (Z.b i).r;obtain⟨bc,hbc⟩:=qc (Z.b i).c;rw [<-hbr.out] at p0;rw [<-hbc.out] at p1;have F2i:Hid (bkC Z i≠0->r=bkC Z i):=fun h=>F2.out HCS.out hsb.out.symm i (by rw [<-hn.out]; exact hlt) HC.out h
   have F5:Hid (bc < 0\/br < bc\/(ns:Int)<=br->r=2):=fun h=>by
    have e:=q5M (Z:=Z) (i:=i) (by rw [<-hbr.out,<-hbc.out,<-hns.out]; exact h);rw [F2i.out (by rw [e]; decide),e]
   have F6:Hid (¬ (bc < 0\/br < bc\/(ns:Int)<=br)->Zd Z.z (Z.b i)=false->r=4):=fun h h'=>by
    have e:=q5L (Z:=Z) (i:=i) (by rw [<-hbr.out,<-hbc.out,<-hns.out]; exact h) h';rw [F2i.out (by rw [e]; decide),e]
   have F7:Hid (¬ (bc < 0\/br < bc\/(ns:Int)<=br)->Zd Z.z (Z.b i)=true->q0l br bc lr lc<=0->r=5):=fun h h' h9=>by
    have e:=(q3l (Z:=Z) (i:=i) (lr:=lr) (lc:=lc) (by rw [<-hbr.out,<-hbc.out,<-hns.out]; exact h) h' HL0.out HL1.out).1 (by rw [<-hbr.out,<-hbc.out]; exact h9);rw [F2i.out (by rw [e]; decide),e]
   have F8:Hid (¬ (bc < 0\/br < bc\/(ns:Int)<=br)->Zd Z.z (Z.b i)=true->¬ q0l br bc lr lc<=0->bkC Z i=0):=fun h h' h9 =>
    (q3l (Z:=Z) (i:=i) (lr:=lr) (lc:=lc) (by rw [<-hbr.out,<-hbc.out,<-hns.out]; exact h) h' HL0.out HL1.out).2 (by rw [<-hbr.out,<-hbc.out]; exact h9)
   clear hx hM HBi;go_upto_region 20 with (fail);refine qo ?_;intro w3 e3 hsz3 B3;obtain⟨g3,hg3⟩:=qc wr.heap.size;rw [<-hg3.out] at B3 ⊢;have hg83:g8 < g3:=by rw [hg3.out]; exact hg8s
   clear p0 p1 p2;obtain⟨b0,b1,b2,-⟩:=cells3 B3;have hs3:g3 < w3.heap.size:=by rw [hg3.out]; omega
   go_upto_region 21 with (fail);refine qo ?_;intro w4 e4 hsz4 B4;obtain⟨g4,hg4⟩:=qc w3.heap.size;rw [<-hg4.out] at B4 ⊢;have hg84:g8 < g4:=by rw [hg4.out]; omega
   clear b0 b1 b2;obtain⟨b0,b1,b2,-⟩:=cells3 (e4.block B3);replace e3:=e3.trans e4;have hE3:=hE1.trans e3;clear hg3 hg4 hsz3 hsz4 hs3 B3
   by_cases c0:bc < 0
   ·have t3:decide (bc < 0)=true:=decide_eq_true c0;have HR:Hid (r=2):=F5.out (.inl c0);clear c0;go_wp2;go_ret;exact⟨qB HR.out.symm,hE3⟩
   have t3:decide (bc < 0)=false:=decide_eq_false c0
   by_cases c1:br < bc
   ·have t4:decide (br < bc)=true:=decide_eq_true c1;have HR:Hid (r=2):=F5.out (.inr (.inl c1));clear c0 c1;go_wp2;go_ret;exact⟨qB HR.out.symm,hE3⟩
   have t4:decide (br < bc)=false:=decide_eq_false c1;have B0:=e3.block HB0.out;obtain⟨a0,a1,a2,-⟩:=cells3 B0
   by_cases c2:(ns:Int)<=br
   ·have t5:decide ((ns:Int)<=br)=true:=decide_eq_true c2;have HR:Hid (r=2):=F5.out (.inr (.inr c2));clear c0 c1 c2;go_wp2;go_ret;exact⟨qB HR.out.symm,hE3⟩
   have t5:decide ((ns:Int)<=br)=false:=decide_eq_false c2;have HNB:Hid (¬ (bc < 0\/br < bc\/(ns:Int)<=br)):=by rw [Hid]; omega
   have HIN:Hid (0<=(Z.b i).c/\(Z.b i).c<=(Z.b i).r/\(Z.b i).r < (Z.ns:Int)):=by rw [Hid,<-hbr.out,<-hbc.out,<-hns.out]; omega
   have HIB:Hid (i < Z.nb):=by rw [Hid,<-hn.out]; exact hlt
   have HSH:=q_h (q2J (HS.out.ext hE3) (HM.out.ext e3) HIN.out.1 HIN.out.2.1 HIN.out.2.2 (HCB.out i hlt) (fun a ha c hc=>(HSZ.out i HIB.out a ha c hc).2));rw [<-hns.out,<-hn.out,<-hkk.out,<-hm.out,<-hbr.out,<-hbc.out] at HSH;obtain⟨o,ho⟩:=qc (Zd Z.z (Z.b i));rw [<-ho.out] at HSH;clear c0 c1 c2;go_upto_region 23 with (fail);go_wp2_with (go_at_call 106; refine q_o ?_);refine (HSH.out).mono ?_;rintro e w5 ⟨rfl,e5⟩;have hE5:=hE3.trans e5;cases o with
   | false =>
    have HR:Hid (r=4):=F6.out HNB.out ho.out.symm;go_wp2;go_ret;exact⟨qB HR.out.symm,hE5⟩
   | true =>
   clear HSH a0 a1 a2 b0 b1 b2;replace e3:=e3.trans e5;have B0:=e3.block HB0.out;have B8:=e3.block HB8.out;replace B4:=e5.block B4;have hs5:=e3.size;go_upto_region 25 with (fail);obtain⟨q0,q1,q2,q3⟩:=cells2 B8;obtain⟨p0,p1,-⟩:=cells2 B4;obtain⟨s,hs⟩:=qc (q0l br bc lr lc);obtain⟨wx,hwx⟩:∃ wx,wx=w5:=⟨_,rfl⟩
   subst hwx;refine Je [Mn.eq (.slice (some ⟨g4,0,none⟩) 2 2),Mn.eq (.slice (some ⟨g8,0,none⟩) 2 2),Mn.i s,Mn.t (decide (s<=0)),Mn.t (decide (s<=0))] (sM [78,79,80,81,77]) [] (rQ 5 0) 0 (by kernel_rfl) ?_ ?_
   ·show ∀ i,i < 5->_
    iterate 5 refine fs ?_ ?_
    ·exact fz
    all_goals intro hl; clear hl; refine stp rfl ?_; intro ac wi eI hB hA K hK
    have o11:=oOf (hB 11) rfl
    rotate_left
    have o8:=oOf (hB 8) rfl
    rotate_left
    obtain⟨_,s78,rfl⟩:=hA 0 78;obtain⟨_,s79,rfl⟩:=hA 1 79;clear hB hA
    ·go_simp;refine (q3K (eI.cell p0) (eI.cell p1) (eI.cell q0) (eI.cell q1)).mono ?_;rw [<-hs.out];rintro e wj ⟨rfl,ej⟩;go_wp2_with fail;exact hK.out _ _ ej rfl
    obtain⟨_,s80,rfl⟩:=hA 2 80
    rotate_left
    obtain⟨_,s81,rfl⟩:=hA 3 81
    rotate_left
    all_goals clear hB hA; go_simp; exact q_k hK rfl
   intro vals wz eZ hJ;have J77:vals 4=_:=hJ 4 (by decide) (by decide);clear hJ;simp only [pr,Nat.reduceAdd,J77];clear J77;refine qh (by kernel_rfl) ?_ _;have hE6:=hE5.trans eZ
   by_cases h5:s<=0
   ·rw [q_t h5];have HR:Hid (r=5):=F7.out HNB.out ho.out.symm (by rw [<-hs.out]; exact h5);clear h5;go_wp2;go_ret;exact⟨qB HR.out.symm,hE6⟩
   rw [q_f h5];have HZ0:Hid (bkC Z i=0):=F8.out HNB.out ho.out.symm (by rw [<-hs.out]; omega)
   have HCN:Hid (∀ j,j < i+1->bkC Z j=0):=fun j hj=>by
    by_cases hji:j=i
    ·rw [hji]; exact HZ0.out
    ·exact HC.out j (by omega)
   clear h5 p0 p1 q0 q1 q2 q3;replace B0:=eZ.block B0;replace B8:=eZ.block B8;obtain⟨p0,p1,-⟩:=cells2 (eZ.block B4);obtain⟨q0,q1,q2,q3⟩:=cells2 B8;have hsz9:wr.heap.size<=wz.heap.size:=(e3.trans eZ).size;go_upto_region 28 with (fail);refine upd2 B8 ?_;intro w9 B9 U9;have hE9:=U9.ext hE6 hg8';have B09:=U9.blk B0 (by omega);have hs9:=U9.size;have HL8:Hid (0 < i+1->br=(Z.b (i+1 - 1)).r/\bc=(Z.b (i+1 - 1)).c):=fun _=>⟨hbr.out,hbc.out⟩
   clear p0 p1 q0 q1 q2 q3 B8 B0 B4 U9;go_wp2;go_roundw
   case rel=>exact⟨i+1,br,bc,by omega,by go_num,hE9,B09,B9,by omega,fun h=>by omega,HL8.out,HCN⟩
   case measure=>simp [intOf]; omega
theorem q3Z:One 23 (.slice none 0 0) 24:=⟨by kernel_rfl,rfl,by omega,by decide⟩
theorem q56:23≠179:=by decide
theorem q45:58≠179:=by decide
theorem StM.far {B0 B1 l u:Nat} {bz oz gm gr:Nat} {z:Nat->Nat} {F:Nat->Nat->Nat->Nat->Rat} {R:Nat->Nat->Rat} (h:StM N B0 B1 w bz oz gm gr m z F R) (C:Chg l u w w') (hl:B0<=l) (hu:u<=B1) (h1:gm < l\/u<=gm) (h2:gr < l\/u<=gr):StM N B0 B1 w' bz oz gm gr m z F R:=by
 obtain⟨⟨s1,s2⟩,⟨l',h3,h4⟩,⟨cs,h5,h6⟩,h7,h8,h9,h10⟩:=h;refine⟨⟨s1,fun a ha=>C.cell (s2 a ha) (by show bz < l\/u<=bz; omega)⟩,⟨l',?_,fun r c hc hr=>(h4 r c hc hr).chg C (by omega) hl hu⟩,⟨cs,C.blk h5 h2,fun i hi=>?_⟩,h7,h8,h9,q_l h10 C.size⟩
 ·obtain⟨es,q,h11,h12⟩:=h3;exact⟨es,q,C.blk h11 h1,h12⟩
 ·obtain⟨v,h11,h12⟩:=h6 i hi;exact⟨v,h11,h12.chg C (by omega) hl hu⟩
def VU (N:Nat) (w:World) (g n:Nat) (S:Nat->Prop) (x:Nat->Rat):Prop :=
 N<=g/\(∃ cs,w.heap[g]?=some (.cells cs 58 (0,0))/\cs.size=n*4)/\∀ i,i < n->S i->At4 N w g (i*4) (raw (x i))
theorem VU.lt {S:Nat->Prop} {x:Nat->Rat} (h:VU N w g n S x):g < w.heap.size:=by
 obtain⟨-,⟨cs,h1,-⟩,-⟩:=h; exact qG h1
theorem At4.ext' {o:Nat} (h:At4 N w b o R) (e:Ext w w'):At4 N w' b o R:=by
 obtain⟨s',t',d0,d1,d2,d3,g1,g2⟩:=h;exact⟨s',t',e.cell d0,e.cell d1,e.cell d2,e.cell d3,g1.ext e,g2.ext e⟩
theorem VU.ext {S:Nat->Prop} {x:Nat->Rat} (h:VU N w g n S x) (e:Ext w w'):VU N w' g n S x:=by
 obtain⟨h0,⟨cs,h1,h2⟩,h3⟩:=h;exact⟨h0,⟨cs,e.block h1,h2⟩,fun i hi hs=>(h3 i hi hs).ext' e⟩
theorem VU.part {S:Nat->Prop} {x:Nat->Rat} (h:VU N w g n S x) {l s:Nat} (hs:l+s<=n) (hS:∀ i,i < s->S (l+i)) (hc:s<=c) (hm:c<=maxLen) :
  LsV N g (g+1) w (.slice (some ⟨g,l*4,none⟩) s c) s (fun i=>x (l+i)):=by
 have hl:=h.lt;have hN:=h.1;refine⟨by omega,by omega,_,c,rfl,hc,hm,fun _=>⟨g,l*4,rfl,q_r,by omega,fun i hi=>?_⟩⟩;have h9:=h.2.2 (l+i) (by omega) (hS i hi);rw [show (l+i)*4=l*4+i*4 by omega] at h9;exact h9
theorem Xm (t ty:TypeId) (ht:Tryz.prog.underlying t=some (.slice 58)) {S:Nat->Prop} {x:Nat->Rat} (h:VU N w g n S x) {u:Value} {s l:Nat} {y:Nat->Rat} (hy:LsV N lo hi w u s y) (hsn:l+s<=n) (hyx:∀ j,j < s->y j=x (l+j)) (h0:0 < s) {dc:Nat} :
  ∃ w',(Builtin.copy_ #[t,t] ty #[.slice (some ⟨g,l*4,none⟩) (n - l) dc,u]).run Tryz.prog w=.ok (.int .i64 ((s:Nat):Int)) w'/\VU N w' g n (fun i=>S i\/(l<=i/\i < l+s)) x/\Chg g (g+1) w w'/\w'.heap.size=w.heap.size:=by
 obtain⟨A,sc,rfl,-,-⟩:=LsR.form hy;obtain⟨b,so,rfl,-,-,hs⟩:=LsV.addr hy h0;obtain⟨i0,hi0,hz0,hz1,hz2⟩:=info_parts xw;have hn:Nat.min s (n - l)=s:=Nat.min_eq_left (by omega);have hN:=h.1;obtain⟨cs0,ha3,ha3'⟩:=h.2.1
 have hone:∀ j,j < s*4->∃ v,w.cell? ⟨b,so+j,none⟩=some v/\v.oneCell'=true:=by
  intro j hj;have:=(hs (j / 4) (by omega)).one (r:=j % 4) (by omega)
  rwa [show so+j / 4*4+j % 4=so+j by omega] at this
 obtain⟨cs,hcs⟩:∃ cs,cs=(List.range (s*4)).map (fun j=>(w.cell? ⟨b,so+j,none⟩).getD undef):=⟨_,rfl⟩
 have hlen:cs.length=s*4:=by rw [hcs]; simp
 have hat:∀ j v,cs[j]?=some v->w.cell? ⟨b,so+j,none⟩=some v:=by
  intro j v hv;have hj:j < cs.length:=(List.getElem?_eq_some_iff.1 hv).1;rw [hlen] at hj;obtain⟨u,hu,-⟩:=hone j hj;rw [hcs] at hv;simp [hj,hu] at hv
  rw [hu,hv]
 have h1:∀ v∈cs,v.oneCell'=true:=by
  intro v hv;obtain⟨j,hj,hjv⟩:=List.getElem_of_mem hv;have hj2:=hat j v (by rw [<-hjv]; exact List.getElem?_eq_getElem hj);rw [hlen] at hj;obtain⟨u,hu,ho⟩:=hone j hj;rw [hu] at hj2; have h7:=Option.some.inj hj2; rw [<-h7]; exact ho
 have hl:=run_loadCells_list (P:=Tryz.prog) w ⟨b,so,none⟩ cs (fun j v hv=>by rw [xy]; exact hat j v hv)
 have hc:∀ j,j < cs.length->(w.cell? ⟨g,l*4+j,none⟩).isSome=true:=by
  intro j hj;rw [qx ha3,Array.getElem?_eq_getElem (by omega)]; rfl
 have hf:∀ j,j < cs.length->w.frozen? ⟨g,l*4+j,none⟩=false:=fun j _=>zq ha3 _
 have hst:=run_storeCells_cells (P:=Tryz.prog) g (l*4) cs 0 w (by simpa using hc) (by simpa using hf) h1;have hT:=NoU.mk ha3 q45;have U:=Xc g cs (l*4) w w (Upd.refl g w);have hC:=U.chg hT;have hin:=World.cell?_setCells_in g cs (l*4) w hc;refine⟨w.setCells g (l*4) cs,?_,?_,hC,U.size⟩
 ·rw [hlen] at hl;simp [Builtin.copy_,run_underlying ht,Builtin.lenOf,Builtin.firstCells,sizeOf,typeInfo,hi0,hz1,hn,hl,hst,goInt]
 ·refine⟨hN,?_,fun i hi hS=>?_⟩
  ·obtain⟨cs',b1,b2⟩:=XY g _ _ cs (l*4) cs0 w ha3;exact⟨cs',b1,by omega⟩
  ·by_cases hic:l<=i/\i < l+s
   ·obtain⟨j,rfl⟩:∃ j,i=l+j:=⟨i - l,by omega⟩
    rw [<-hyx j (by omega)];obtain⟨s',t',d0,d1,d2,d3,g1,g2⟩:=hs j (by omega)
    have hget:∀ r v,r < 4->w.cell? ⟨b,so+j*4+r,none⟩=some v->(w.setCells g (l*4) cs).cell? ⟨g,(l+j)*4+r,none⟩=some v:=by
     intro r v hr hv;have h9:=hin (j*4+r) (by omega);rw [show l*4+(j*4+r)=(l+j)*4+r by omega] at h9;rw [h9];have h8:=hat (j*4+r) _ (List.getElem?_eq_getElem (by omega));rw [show so+(j*4+r)=so+j*4+r by omega,hv] at h8;exact h8.symm
    exact⟨s',t',hget 0 _ (by omega) d0,hget 1 _ (by omega) d1,hget 2 _ (by omega) d2,hget 3 _ (by omega) d3,g1.chg hC hN,g2.chg hC hN⟩
   ·obtain⟨s',t',d0,d1,d2,d3,g1,g2⟩:=h.2.2 i hi (hS.resolve_right hic);refine⟨s',t',?_,?_,?_,?_,g1.chg hC hN,g2.chg hC hN⟩ <;> rw [World.cell?_setCells_out g cs (l*4) w _ (fun _ _=>by simp only; omega)] <;> assumption
end Go.Proofs.YtfmddpahhloleaaGreat
namespace Go.Proofs.YtfmddpahhloleaaGreat
variable {w w':World} {N n lo hi k g i m c b j:Nat} {v:Value} {x:Rat} {R:Raw} {A:Option Addr}
structure Lft (n:Nat) (M:Nat->Nat->Rat) (E:Nat->Bool) (S:Nat->Nat->Rat):Prop where
 reg:VO n M E
 fil:Fil n M E
 sch:q1i n M E S
 row:∀ i j,i < n->j < n->E i=true->S i j=0
 col:∀ i j,i < n->j < n->E j=true->S i j=0
theorem Lft.start (n:Nat) (M:Nat->Nat->Rat):Lft n M (fun _=>false) M:=by
 refine⟨fun x hx _ i hi=>hx i hi rfl,fun y=>⟨y,fun _ _=>rfl,fun _ _ h=>(by cases h)⟩,fun x _ i _ _=>?_,fun _ _ _ _ h=>(by cases h),fun _ _ _ _ h=>(by cases h)⟩;exact qf fun j _=>by simp
theorem Lft.sum {M S:Nat->Nat->Rat} {E:Nat->Bool} (h:Lft n M E S) {x:Nat->Rat} (hx:∀ i,i < n->E i=true->av n M x i=0) (hi:i < n) (hE:E i=false):av n M x i=av n S x i:=by
 rw [h.sch x hx i hi hE]
 exact qf fun j hj=>by
  cases hEj:E j with
  | true=>rw [if_pos rfl,h.col i j hi hj hEj]; grind
  | false=>simp
theorem q1B {S:Nat->Nat->Rat} {E:Nat->Bool} {e:Nat->Nat} (he:Enm n k E e) (hr:Reg k (xB S e)) (hi:i < n) (hE:E i=true):Xj k S e i j=0:=by
 obtain⟨a,ha,rfl⟩:=he.onto i hi hE;have h1:=(jg hr).1;unfold Xj VQ
 have h2:sum k (fun c=>S (e a) (e c)*sum k (fun b=>kD k (xB S e) c b*S (e b) j))=S (e a) j:=by
  have h3:sum k (fun c=>S (e a) (e c)*sum k (fun b=>kD k (xB S e) c b*S (e b) j))=sum k (fun b=>mm k (xB S e) (kD k (xB S e)) a b*S (e b) j):=by
   have h4:sum k (fun c=>S (e a) (e c)*sum k (fun b=>kD k (xB S e) c b*S (e b) j))=sum k (fun c=>sum k (fun b=>xB S e a c*kD k (xB S e) c b*S (e b) j)):=qf fun c _=>by
    rw [<-qI]; exact qf fun b _=>by unfold xB; grind
   rw [h4,qN];exact qf fun b _=>by unfold mm; rw [<-qA]
  rw [h3];have h5:sum k (fun b=>mm k (xB S e) (kD k (xB S e)) a b*S (e b) j)=sum k (fun b=>dlt a b*S (e b) j):=qf fun b hb=>by rw [h1 a ha b hb]
  rw [h5,qR ha (fun b=>S (e b) j)]
 rw [h2]; grind
theorem q1C {S:Nat->Nat->Rat} {E:Nat->Bool} {e:Nat->Nat} (he:Enm n k E e) (hr:Reg k (xB S e)) (hj:j < n) (hE:E j=true):Xj k S e i j=0:=by
 obtain⟨b,hb,rfl⟩:=he.onto j hj hE;have h1:=(jg hr).2;unfold Xj VQ
 have h2:sum k (fun a=>S i (e a)*sum k (fun c=>kD k (xB S e) a c*S (e c) (e b)))=S i (e b):=by
  have h3:sum k (fun a=>S i (e a)*sum k (fun c=>kD k (xB S e) a c*S (e c) (e b)))=sum k (fun a=>S i (e a)*dlt a b):=qf fun a ha=>by
   congr 1
   exact h1 a ha b hb
  rw [h3,jP hb (fun a=>S i (e a))]
 rw [h2]; grind
theorem WE {S:Nat->Nat->Rat} {e:Nat->Nat} (h:∀ a,a < k->S i (e a)=0) (j:Nat):Xj k S e i j=S i j:=by
 unfold Xj VQ;rw [qp fun a ha=>by rw [h a ha]; grind]; grind
theorem WF {S:Nat->Nat->Rat} {e:Nat->Nat} (h:∀ b,b < k->S (e b) j=0) (i:Nat):Xj k S e i j=S i j:=by
 unfold Xj VQ
 rw [qp fun a _=>by
  have:sum k (fun b=>kD k (xB S e) a b*S (e b) j)=0:=qp fun b hb=>by rw [h b hb]; grind
  rw [this]; grind]
 grind
theorem Lft.reg_iff {M S:Nat->Nat->Rat} {E E2:Nat->Bool} {e:Nat->Nat} (h:Lft n M E S) (he:Enm n k E2 e) (hd:∀ i,E2 i=true->E i=false):Reg k (xB S e)↔VO n M (both E E2) :=
 ⟨fun hr=>WJ h.reg h.sch (WI he hr) hd,fun hr=>q36 he (Vf h.fil h.sch hr hd)⟩
theorem Lft.step {M S:Nat->Nat->Rat} {E E2:Nat->Bool} {e:Nat->Nat} (h:Lft n M E S) (he:Enm n k E2 e) (hd:∀ i,E2 i=true->E i=false) (hr:Reg k (xB S e)):Lft n M (both E E2) (Xj k S e):=by
 have hR:=WI he hr;obtain⟨hf2,hs2⟩:=q3P he hR
 have hcol:∀ i j,i < n->j < n->both E E2 j=true->Xj k S e i j=0:=fun i j hi hj hb=>by
  cases h1:E j with
  | true=>rw [WF (fun b hb=>h.col _ _ (he.low b hb) hj h1),h.col i j hi hj h1]
  | false=>exact q1C he hr hj (by unfold both at hb; rw [h1] at hb; simpa using hb)
 refine⟨(h.reg_iff he hd).1 hr,fun y=>?_,fun x hx i hi hb=>?_,fun i j hi hj hb=>?_,hcol⟩
 ·obtain⟨u,hu,hu0⟩:=hf2 (fun i=>if E i=true then 0 else y i);obtain⟨x,hx,hx0⟩:=h.fil u;refine⟨x,fun i hi=>?_,fun i hi hb=>?_⟩
  ·obtain⟨a1,a2⟩:=X5 hi;rw [hx i a1,hu i a2,a1]; simp
  ·cases h1:E i with
   | true=>exact hx0 i hi h1
   | false =>
    have h2:E2 i=true:=by unfold both at hb; rw [h1] at hb; simpa using hb
    rw [h.sum hx0 hi h1];refine Eq.trans (qf fun j hj=>?_) (hu0 i hi h2);cases h3:E j with
    | true=>rw [h.col i j hi hj h3]; grind
    | false=>rw [hx j h3]
 ·obtain⟨a1,a2⟩:=X5 hb;have hx1:∀ i,i < n->E i=true->av n M x i=0:=fun i hi h=>hx i hi (YS h)
  rw [h.sum hx1 hi a1,hs2 x (fun u hu h2=>by rw [<-h.sum hx1 hu (hd u h2)]; exact hx u hu (q0S h2)) i hi a2]
  exact qf fun j hj=>by
   unfold both;cases h1:E j with
   | true =>
    have h2:E2 j=false:=by
     cases h5:E2 j with
     | false=>rfl
     | true=>have:=hd j h5; rw [h1] at this; cases this
    rw [h2,hcol i j hi hj (YS h1)]; simp
   | false=>rfl
 ·cases h1:E i with
  | true=>rw [WE (fun a ha=>h.row _ _ hi (he.low a ha) h1),h.row i j hi hj h1]
  | false=>exact q1B he hr hi (by unfold both at hb; rw [h1] at hb; simpa using hb)
def qC (z:Nat->Nat):Nat->Nat
 | 0=>0
 | k+1=>qC z k+z k
theorem zV (z:Nat->Nat) {a:Nat} (h:a<=b):qC z a<=qC z b:=by
 induction h with
 | refl=>exact q_r
 | step _ ih=>exact q_l ih (Nat.le_add_right _ _)
def q0V (z:Nat->Nat):Nat->Nat->Nat
 | 0,_=>0
 | k+1,i=>if qC z k<=i then k else q0V z k i
theorem q0U {z:Nat->Nat}:∀ {m k i:Nat},k < m->qC z k<=i->i < qC z (k+1)->q0V z m i=k
 | 0,_,_,h,_,_=>by omega
 | m+1,k,i,h,h1,h2=>by
  unfold q0V
  by_cases h3:qC z m<=i
  ·rw [if_pos h3]
   rcases Nat.lt_or_ge k m with h4 | h4
   ·have:=zV z (show k+1<=m by omega); omega
   ·omega
  ·rw [if_neg h3];have:k≠m:=fun e=>h3 (by rw [<-e]; exact h1)
   exact q0U (by omega) h1 h2
theorem YT {z:Nat->Nat}:∀ {m i:Nat},i < qC z m->q0V z m i < m/\qC z (q0V z m i)<=i/\i < qC z (q0V z m i+1)
 | 0,i,h=>by unfold qC at h; omega
 | m+1,i,h=>by
  unfold q0V
  by_cases h3:qC z m<=i
  ·rw [if_pos h3]; exact⟨by omega,h3,h⟩
  ·rw [if_neg h3];obtain⟨a,b,c⟩:=YT (z:=z) (m:=m) (i:=i) (by omega);exact⟨by omega,b,c⟩
def XP (z:Nat->Nat) (m k i:Nat):Bool:=q0V z m i == k
theorem JW {z:Nat->Nat} (hk:k < m):Enm (qC z m) (z k) (XP z m k) (fun a=>qC z k+a):=by
 have hle:qC z k+z k<=qC z m:=zV z (show k+1<=m by omega);refine⟨fun a ha=>by omega,fun a ha=>?_,fun a b _ _ h=>by omega,fun i hi hE=>?_⟩
 ·unfold XP;rw [q0U hk (by omega) (by show qC z k+a < qC z k+z k; omega)]
  simp
 ·obtain⟨-,h1,h2⟩:=YT hi;have h3:q0V z m i=k:=by unfold XP at hE; simpa using hE
  rw [h3] at h1 h2;unfold qC at h2;exact⟨i - qC z k,by omega,by omega⟩
theorem q4E (n k:Nat) (M X:Nat->Nat->Rat) (e:Nat->Nat) (x:Nat->Rat) (i:Nat) :
  av n (VQ k M e X) x i=av n M x i - sum k (fun a=>M i (e a)*sum k (fun b=>X a b*av n M x (e b))):=by
 have h1:∀ a,sum n (fun j=>sum k (fun b=>X a b*M (e b) j)*x j)=sum k (fun b=>X a b*av n M x (e b)):=fun a=>by
  have h2:sum n (fun j=>sum k (fun b=>X a b*M (e b) j)*x j)=sum n (fun j=>sum k (fun b=>X a b*M (e b) j*x j)):=qf fun j _=>(qA k (x j) _).symm
  rw [h2,qN];refine qf fun b _=>?_
  unfold av;rw [<-qI];exact qf fun j _=>by grind
 have h3:sum n (fun j=>sum k (fun a=>M i (e a)*sum k (fun b=>X a b*M (e b) j))*x j)=sum k (fun a=>M i (e a)*sum k (fun b=>X a b*av n M x (e b))):=by
  have h4:sum n (fun j=>sum k (fun a=>M i (e a)*sum k (fun b=>X a b*M (e b) j))*x j)=sum n (fun j=>sum k (fun a=>M i (e a)*sum k (fun b=>X a b*M (e b) j)*x j)):=qf fun j _=>(qA k (x j) _).symm
  rw [h4,qN];refine qf fun a _=>?_
  rw [<-h1 a,<-qI];exact qf fun j _=>by grind
 rw [<-h3];unfold av VQ;rw [<-xA];exact qf fun j _=>by grind
def Rs (n:Nat) (M:Nat->Nat->Rat) (y:Nat->Rat) (E:Nat->Bool) (S:Nat->Nat->Rat) (r:Nat->Rat):Prop :=
 ∀ x:Nat->Rat,(∀ i,i < n->E i=true->av n M x i=y i)->∀ i,i < n->E i=false->av n M x i - y i=av n S x i - r i
def q4V (k:Nat) (S:Nat->Nat->Rat) (e:Nat->Nat) (X:Nat->Nat->Rat) (r:Nat->Rat) (i:Nat):Rat:=r i - sum k (fun a=>S i (e a)*sum k (fun b=>X a b*r (e b)))
theorem Rs.start (n:Nat) (M:Nat->Nat->Rat) (y:Nat->Rat):Rs n M y (fun _=>false) M y:=fun _ _ _ _ _=>rfl
theorem Rs.step {M S:Nat->Nat->Rat} {y r:Nat->Rat} {E E2:Nat->Bool} {e:Nat->Nat} (h:Rs n M y E S r) (he:Enm n k E2 e) (hd:∀ i,E2 i=true->E i=false) (X:Nat->Nat->Rat):Rs n M y (both E E2) (VQ k S e X) (q4V k S e X r):=by
 intro x hx i hi hE;have hE1:=X5 hE;have hx1:∀ j,j < n->E j=true->av n M x j=y j:=fun j hj hj'=>hx j hj (YS hj')
 have h0:=h x hx1 i hi hE1.1
 have h1:∀ b,b < k->av n S x (e b)=r (e b):=fun b hb=>by
  have h2:=h x hx1 (e b) (he.low b hb) (hd _ (he.mem b hb));have h3:=hx (e b) (he.low b hb) (q0S (he.mem b hb));rw [h3] at h2
  grind
 rw [h0,q4E];unfold q4V
 have h4:sum k (fun a=>S i (e a)*sum k (fun b=>X a b*av n S x (e b)))=sum k (fun a=>S i (e a)*sum k (fun b=>X a b*r (e b))):=qf fun a _=>by
  rw [qf (fun b hb=>by rw [h1 b hb])]
 rw [h4]
 grind
section
variable (z:Nat->Nat) (o:Nat->Nat)
def blE (t:Nat) (a:Nat):Nat:=qC z (o t)+a
noncomputable def elS (M:Nat->Nat->Rat):Nat->Nat->Nat->Rat
 | 0=>M
 | t+1=>Xj (z (o t)) (elS M t) (blE z o t)
noncomputable def elX (M:Nat->Nat->Rat) (t:Nat):Nat->Nat->Rat:=kD (z (o t)) (xB (elS z o M t) (blE z o t))
noncomputable def elR (M:Nat->Nat->Rat) (y:Nat->Rat):Nat->Nat->Rat
 | 0=>y
 | t+1=>q4V (z (o t)) (elS z o M t) (blE z o t) (elX z o M t) (elR M y t)
def elE (m:Nat):Nat->Nat->Bool
 | 0,_=>false
 | t+1,i=>elE m t i || XP z m (o t) i
def VT (M:Nat->Nat->Rat) (t:Nat):Prop:=Reg (z (o t)) (xB (elS z o M t) (blE z o t))
end
variable {z:Nat->Nat} {o:Nat->Nat} {m:Nat} {M:Nat->Nat->Rat} {y:Nat->Rat}
theorem KZ {t:Nat}:elE z o m t i=true↔∃ s,s < t/\q0V z m i=o s:=by
 induction t with
 | zero=>exact⟨fun h=>(by cases h),fun ⟨s,h,_⟩=>absurd h (Nat.not_lt_zero s)⟩
 | succ t ih =>
  unfold elE XP;rw [Bool.or_eq_true,ih,beq_iff_eq]
  constructor
  ·rintro (⟨s,h1,h2⟩ | h)
   ·exact⟨s,by omega,h2⟩
   ·exact⟨t,by omega,h⟩
  ·rintro⟨s,h1,h2⟩
   by_cases hs:s=t
   ·exact .inr (by rw [<-hs]; exact h2)
   ·exact .inl ⟨s,by omega,h2⟩
theorem q0E (hinj:∀ a b,a < m->b < m->o a=o b->a=b) {t:Nat} (ht:t < m) (h:XP z m (o t) i=true):elE z o m t i=false:=by
 cases h9:elE z o m t i with
 | false=>rfl
 | true =>
  obtain⟨s,h1,h2⟩:=KZ.1 h9;unfold XP at h;rw [beq_iff_eq] at h;have:=hinj s t (by omega) ht (by rw [<-h2,h]);omega
theorem Qn (hlow:∀ a,a < m->o a < m) (hinj:∀ a b,a < m->b < m->o a=o b->a=b):∀ t,t<=m->(∀ s,s < t->VT z o M s)->Lft (qC z m) M (elE z o m t) (elS z o M t)/\Rs (qC z m) M y (elE z o m t) (elS z o M t) (elR z o M y t)
 | 0,_,_=>⟨Lft.start _ _,Rs.start _ _ _⟩
 | t+1,ht,hp=>by
  obtain⟨h1,h2⟩:=Qn hlow hinj t (by omega) (fun s hs=>hp s (by omega));have he:=JW (z:=z) (hlow t (by omega));have hd:∀ i,XP z m (o t) i=true->elE z o m t i=false:=fun i hi=>q0E hinj (by omega) hi
  exact⟨h1.step he hd (hp t (by omega)),h2.step he hd _⟩
theorem q5F (hlow:∀ a,a < m->o a < m) (hinj:∀ a b,a < m->b < m->o a=o b->a=b) {t:Nat} (ht:t < m) (hp:∀ s,s < t->VT z o M s):VT z o M t↔VO (qC z m) M (elE z o m (t+1)) :=
 (Qn (y:=fun _=>0) hlow hinj t (by omega) hp).1.reg_iff (JW (z:=z) (hlow t ht)) (fun i hi=>q0E hinj ht hi)
end Go.Proofs.YtfmddpahhloleaaGreat
namespace Go.Proofs.YtfmddpahhloleaaGreat
open Go.RowKit
variable {w w':World} {N n lo hi k g i m c b j:Nat} {v:Value} {x:Rat} {R:Raw} {A:Option Addr}
theorem yV:∀ {m:Nat} {o:Nat->Nat},(∀ t,t < m->o t < m)->(∀ a b,a < m->b < m->o a=o b->a=b)->∀ i,i < m->∃ a,a < m/\o a=i
 | 0,_,_,_,i,hi=>absurd hi (Nat.not_lt_zero i)
 | m+1,o,hl,hi,i,h=>by
  have hm:=hl m (by omega)
  have ih:=yV (m:=m) (o:=fun a=>if o a=m then o m else o a) (fun a ha=>by
   have h1:=hl a (by omega);have h2:o a≠o m:=fun e=>by have:=hi a m (by omega) (by omega) e; omega
   show (if o a=m then o m else o a) < m
   split <;> omega) (fun a b ha hb e=>by
   have h2:o a≠o m:=fun e=>by have:=hi a m (by omega) (by omega) e; omega
   have h3:o b≠o m:=fun e=>by have:=hi b m (by omega) (by omega) e; omega
   have e':(if o a=m then o m else o a)=(if o b=m then o m else o b):=e;refine hi a b (by omega) (by omega) ?_
   split at e' <;> split at e' <;> omega)
  by_cases him:i=m
  ·by_cases hp:o m=m
   ·exact⟨m,by omega,by omega⟩
   ·obtain⟨a,ha,h1⟩:=ih (o m) (by omega);have h1':(if o a=m then o m else o a)=o m:=h1;have h2:o a≠o m:=fun e=>by have:=hi a m (by omega) (by omega) e; omega
    split at h1'
    ·exact⟨a,by omega,by omega⟩
    ·omega
  ·obtain⟨a,ha,h1⟩:=ih i (by omega);have h1':(if o a=m then o m else o a)=i:=h1
   split at h1'
   ·exact⟨m,by omega,h1'⟩
   ·exact⟨a,by omega,h1'⟩
theorem q1O {o:Nat->Nat} (hl:∀ t,t < m->o t < m) (hi:∀ a b,a < m->b < m->o a=o b->a=b):Enm m m (fun _=>true) o :=
 ⟨hl,fun _ _=>rfl,hi,fun i h _=>yV hl hi i h⟩
theorem Yj {o:Nat->Nat} (hl:∀ t,t < m->o t < m) (hi:∀ a b,a < m->b < m->o a=o b->a=b) (g:Nat->Rat):sum m g=sum m (fun s=>g (o s)):=by
 have h:=(q1O hl hi).sum g;simpa using h
theorem Zl (z:Nat->Nat) (f:Nat->Rat):∀ m,sum (qC z m) f=sum m (fun c=>sum (z c) (fun b=>f (qC z c+b)))
 | 0=>rfl
 | m+1=>by
  rw [show qC z (m+1)=qC z m+z m from rfl,Qs,Zl z f m]
  rfl
theorem Vx {K K':Nat->Nat->Rat} (h:∀ a,a < k->∀ b,b < k->K a b=K' a b) (hr:Reg k K) (hr':Reg k K') {a:Nat} (ha:a < k) (hb:b < k):kD k K a b=kD k K' a b:=by
 have h1:=(jg hr).2;have h2:=(jg hr').1
 have h3:mm k (mm k (kD k K) K) (kD k K') a b=kD k K' a b:=by
  rw [kE (a':=dlt) (b':=kD k K') (fun c hc=>h1 a ha c hc) (fun _ _=>rfl)];exact Yl _ ha
 have h4:mm k (kD k K) (mm k K (kD k K')) a b=kD k K a b:=by
  rw [kE (a':=kD k K) (b':=dlt) (fun _ _=>rfl) (fun c hc=>by
   rw [kE (a':=K') (b':=kD k K') (fun d hd=>h c hc d hd) (fun _ _=>rfl)]
   exact h2 c hc b hb)]
  exact q3e _ hb
 rw [<-h4,<-jT,h3]
theorem Xt {K K':Nat->Nat->Rat} (h:∀ a,a < k->∀ b,b < k->K a b=K' a b) (hr:Reg k K):Reg k K':=fun x hx=>hr x fun a ha=>by
 rw [<-hx a ha];exact qf fun b hb=>by rw [h a ha b hb]
section
variable {z o:Nat->Nat} {m:Nat} {F:Nat->Nat->Nat->Nat->Rat} {R:Nat->Nat->Rat} {M:Nat->Nat->Rat} {y:Nat->Rat}
theorem YO (hs:∀ i j,M i j=M j i):∀ t,(∀ s,s < t->VT z o M s)->∀ i j,elS z o M t i j=elS z o M t j i
 | 0,_=>hs
 | t+1,hp=>fun i j=>WC (YO hs t (fun s h=>hp s (by omega))) (hp t (by omega)) i j
def NoT (o:Nat->Nat) (t r:Nat):Prop:=∀ s,s < t->o s≠r
theorem Jz (hl:∀ t,t < m->o t < m) (hi:∀ a b,a < m->b < m->o a=o b->a=b) {t r:Nat} (hr:r < m) (h:NoT o (t+1) r):kP (VR o t) (m - (t+1)) r=true:=by
 obtain⟨a,ha,h1⟩:=yV hl hi r hr;have h2:¬ a < t+1:=fun h9=>h a h9 h1
 exact jU.2 ⟨a - (t+1),by omega,by unfold VR; rw [show t+1+(a - (t+1))=a by omega]; exact h1⟩
theorem q1W (hi:∀ a b,a < m->b < m->o a=o b->a=b) {t s:Nat} (h:t<=s) (hs:s < m):NoT o t (o s):=fun a ha e=>by
 have:=hi a s (by omega) hs e;omega
structure BlM (z o:Nat->Nat) (m:Nat) (F:Nat->Nat->Nat->Nat->Rat) (R:Nat->Nat->Rat) (M:Nat->Nat->Rat) (y:Nat->Rat):Prop where
 low:∀ t,t < m->o t < m
 inj:∀ a b,a < m->b < m->o a=o b->a=b
 sym:∀ i j,M i j=M j i
 F1:∀ r c,c<=r->r < m->∀ a,a < z r->∀ b,b < z c->F r c a b=M (qC z r+a) (qC z c+b)
 R1:∀ r,r < m->∀ a,a < z r->R r a=y (qC z r+a)
theorem q31 {t:Nat} (ht:t < m) (hst:∀ a,a < z (o t)->∀ b,b < z (o t)->Fsy (fsS z o m F t) (o t) (o t) a b=elS z o M t (qC z (o t)+a) (qC z (o t)+b)):PvF z o m F t↔VT z o M t:=by
 have h1:∀ a,a < z (o t)->∀ b,b < z (o t)->fsS z o m F t (o t) (o t) a b=xB (elS z o M t) (blE z o t) a b:=fun a ha b hb=>by
  have h2:=hst a ha b hb;unfold Fsy at h2;rw [if_pos (q_r)] at h2;exact h2
 exact⟨fun h=>Xt h1 h,fun h=>Xt (fun a ha b hb=>(h1 a ha b hb).symm) h⟩
theorem q3G (H:BlM z o m F R M y):∀ t,t<=m->(∀ s,s < t->VT z o M s)->(∀ r c,r < m->c < m->NoT o t r->NoT o t c->∀ a,a < z r->∀ b,b < z c->Fsy (fsS z o m F t) r c a b=elS z o M t (qC z r+a) (qC z c+b))/\∀ r,r < m->NoT o t r->∀ a,a < z r->rsS z o m F R t r a=elR z o M y t (qC z r+a)
 | 0,_,_=>⟨fun r c hr hc _ _ a ha b hb=>by
   unfold Fsy
   split
   ·exact H.F1 r c ‹_› hr a ha b hb
   ·show F c r b a=M _ _
    rw [H.F1 c r (by omega) hc b hb a ha]
    exact H.sym _ _,fun r hr _ a ha=>H.R1 r hr a ha⟩
 | t+1,ht,hp=>by
  obtain⟨ih1,ih2⟩:=q3G H t (by omega) (fun s h=>hp s (by omega));have hkn:NoT o t (o t):=q1W H.inj (Nat.le_refl t) (by omega);have hkm:=H.low t (by omega);have hpv:=(q31 (F:=F) (by omega) (ih1 (o t) (o t) hkm hkm hkn hkn)).2 (hp t (by omega));have hpr:=hp t (by omega)
  have hX:∀ a,a < z (o t)->∀ b,b < z (o t)->kD (z (o t)) (fsS z o m F t (o t) (o t)) a b=elX z o M t a b:=fun a ha b hb =>
   Vx (fun a ha b hb=>by
    have h2:=ih1 (o t) (o t) hkm hkm hkn hkn a ha b hb;unfold Fsy at h2;rw [if_pos (q_r)] at h2
    exact h2) hpv hpr ha hb
  have hmono:∀ {r},NoT o (t+1) r->NoT o t r:=fun h s hs=>h s (by omega)
  have hlo:∀ r c,c<=r->r < m->NoT o (t+1) r->NoT o (t+1) c->∀ a,a < z r->∀ b,b < z c->fsS z o m F (t+1) r c a b=elS z o M (t+1) (qC z r+a) (qC z c+b):=fun r c hcr hr hnr hnc a ha b hb=>by
   have h1:pA (VR o t) (m - (t+1)) (m - (t+1)) r c=true:=by
    unfold pA;rw [Jz H.low H.inj hr hnr,Jz H.low H.inj (by omega) hnc]
    rfl
   have h2:=ih1 r c hr (by omega) (hmono hnr) (hmono hnc) a ha b hb;unfold Fsy at h2;rw [if_pos hcr] at h2
   show Fel _ _ _ _ _ r c a b=Xj _ _ _ _ _
   unfold Fel Xj VQ;rw [if_pos h1,h2]
   congr 1
   unfold Gx Fct;rw [jT];unfold mm;refine qf fun i hi=>?_
   rw [ih1 r (o t) hr hkm (hmono hnr) hkn a ha i hi]
   congr 1
   refine qf fun j hj=>?_
   rw [ih1 (o t) c hkm (by omega) hkn (hmono hnc) j hj b hb,hX i hi j hj]
   rfl
  refine⟨fun r c hr hc hnr hnc a ha b hb=>?_,fun r hr hnr a ha=>?_⟩
  ·unfold Fsy
   split
   ·exact hlo r c ‹_› hr hnr hnc a ha b hb
   ·rw [hlo c r (by omega) hc hnc hnr b hb a ha];exact YO H.sym (t+1) hp _ _
  ·show Rel _ _ _ _ _ _ r a=q4V _ _ _ _ _ _
   unfold Rel q4V;rw [if_pos (Jz H.low H.inj hr hnr),ih2 r hr (hmono hnr) a ha]
   congr 1
   have h3:av (z (o t)) (Fct (o t) (z (o t)) (fsS z o m F t) (kD (z (o t)) (fsS z o m F t (o t) (o t))) r) (rsS z o m F R t (o t)) a=mm (z (o t)) (Fct (o t) (z (o t)) (fsS z o m F t) (kD (z (o t)) (fsS z o m F t (o t) (o t))) r) (fun b _=>rsS z o m F R t (o t) b) a 0:=rfl;rw [h3];unfold Fct;rw [jT];unfold mm;refine qf fun i hi=>?_
   rw [ih1 r (o t) hr hkm (hmono hnr) hkn a ha i hi]
   congr 1
   refine qf fun j hj=>?_
   show _*rsS z o m F R t (o t) j=_
   rw [ih2 (o t) hkm hkn j hj,hX i hi j hj]
   rfl
theorem WS (H:BlM z o m F R M y) {t:Nat} (ht:t < m) (hp:∀ s,s < t->VT z o M s):PvF z o m F t↔VT z o M t :=
 have hkn:NoT o t (o t):=q1W H.inj (Nat.le_refl t) ht
 q31 ht ((q3G H t (Nat.le_of_lt ht) hp).1 (o t) (o t) (H.low t ht) (H.low t ht) hkn hkn)
theorem WT (H:BlM z o m F R M y):∀ t,t<=m->(∀ s,s < t->PvF z o m F s)->∀ s,s < t->VT z o M s
 | 0,_,_,s,hs=>absurd hs (Nat.not_lt_zero s)
 | t+1,ht,h,s,hs=>by
  have ih:=WT H t (by omega) (fun s h9=>h s (by omega))
  by_cases hst:s=t
  ·rw [hst]; exact (WS H (by omega) ih).1 (h t (by omega))
  ·exact ih s (by omega)
theorem q52 (H:BlM z o m F R M y) (h:∀ t,t < m->PvF z o m F t):Reg (qC z m) M:=by
 have hp:=WT H m (Nat.le_refl m) h;have h1:=(Qn (y:=y) H.low H.inj m (Nat.le_refl m) hp).1.reg;refine q3T.2 fun x hx h0 i hi=>h1 x (fun j hj hE=>?_) (fun j hj _=>h0 j hj rfl) i hi
 exfalso
 obtain⟨h3,-,-⟩:=YT hj;obtain⟨s,hs,h4⟩:=yV H.low H.inj _ h3;have h5:elE z o m m j=true:=KZ.2 ⟨s,hs,h4.symm⟩;rw [hE] at h5;cases h5
theorem pdef_pv (H:BlM z o m F R M y) (h:PDef (qC z m) M):∀ t,t < m->PvF z o m F t:=by
 have h1:∀ t,t<=m->∀ s,s < t->VT z o M s:=fun t=>by
  induction t with
  | zero=>exact fun _ s hs=>absurd hs (Nat.not_lt_zero s)
  | succ t ih =>
   intro ht s hs;have ih':=ih (by omega)
   by_cases hst:s=t
   ·rw [hst]; exact (q5F H.low H.inj (by omega) ih').2 (WW h _)
   ·exact ih' s (by omega)
 exact fun t ht=>(WS H ht (h1 t (by omega))).2 (h1 (t+1) (by omega) t (by omega))
theorem x_st (H:BlM z o m F R M y) {x:Nat->Rat} (hx:∀ i,i < qC z m->av (qC z m) M x i=y i) (hp:∀ s,s < m->VT z o M s) {t:Nat} (ht:t < m) {a:Nat} (ha:a < z (o t)):x (qC z (o t)+a)=xS z o m F R (fun r a=>x (qC z r+a)) t a:=by
 have hpt:∀ s,s < t->VT z o M s:=fun s h=>hp s (by omega)
 obtain⟨hL,hR⟩:=Qn (y:=y) H.low H.inj t (by omega) hpt;obtain⟨e1,e2⟩:=q3G H t (by omega) hpt;have hkm:=H.low t ht;have hkn:NoT o t (o t):=q1W H.inj (Nat.le_refl t) ht;have hbl:∀ {s c:Nat},s < m->c < z (o s)->qC z (o s)+c < qC z m:=fun {s c} hs hc=>(JW (z:=z) (H.low s hs)).low c hc
 have hat:∀ {s c:Nat},s < m->c < z (o s)->q0V z m (qC z (o s)+c)=o s:=fun {s c} hs hc=>q0U (H.low s hs) (by omega) (by show qC z (o s)+c < qC z (o s)+z (o s); omega)
 have hy:∀ c,c < z (o t)->yS z o m F R (fun r a=>x (qC z r+a)) t (m - (t+1)) c=sum (z (o t)) (fun b=>fsS z o m F t (o t) (o t) c b*x (qC z (o t)+b)):=fun c hc=>by
  have hno:elE z o m t (qC z (o t)+c)=false:=by
   cases h9:elE z o m t (qC z (o t)+c) with
   | false=>rfl
   | true =>
    obtain⟨s,h1,h2⟩:=KZ.1 h9;rw [hat ht hc] at h2;exact absurd h2.symm (hkn s h1)
  have h1:=hR x (fun i hi _=>hx i hi) _ (hbl ht hc) hno;rw [hx _ (hbl ht hc)] at h1;have h2:av (qC z m) (elS z o M t) x (qC z (o t)+c)=elR z o M y t (qC z (o t)+c):=by grind
  have hg:∀ j,t+1+j<=m->yS z o m F R (fun r a=>x (qC z r+a)) t j c=elR z o M y t (qC z (o t)+c) - sum j (fun s=>sum (z (o (t+1+s))) (fun b=>elS z o M t (qC z (o t)+c) (qC z (o (t+1+s))+b)*x (qC z (o (t+1+s))+b))):=fun j=>by
   induction j with
   | zero =>
    intro _
    show rsS z o m F R t (o t) c=_
    rw [e2 (o t) hkm hkn c hc,Xe]
    grind
   | succ j ih =>
    intro hj;have hs:=H.low (t+1+j) (by omega)
    show yS z o m F R _ t j c - av _ _ _ c=_
    rw [ih (by omega),qP]
    have h5:av (z (o (t+1+j))) (Fsy (fsS z o m F t) (o t) (o (t+1+j))) (fun a=>x (qC z (o (t+1+j))+a)) c=sum (z (o (t+1+j))) (fun b=>elS z o M t (qC z (o t)+c) (qC z (o (t+1+j))+b)*x (qC z (o (t+1+j))+b)):=by
     unfold av;exact qf fun b hb=>by rw [e1 (o t) _ hkm hs hkn (q1W H.inj (by omega) (by omega)) c hc b hb]
    rw [h5]
    grind
  rw [hg _ (by omega),<-h2];unfold av;rw [Zl,Yj H.low H.inj];have h6:m=t+(1+(m - (t+1))):=by omega
  have h7:=Qs t (1+(m - (t+1))) (fun s=>sum (z (o s)) (fun b=>elS z o M t (qC z (o t)+c) (qC z (o s)+b)*x (qC z (o s)+b)));rw [<-h6] at h7
  rw [h7,Qs,qp (n:=t) (fun s hs=>qp fun b hb=>by
   rw [hL.col _ _ (hbl ht hc) (hbl (by omega) hb) (KZ.2 ⟨s,hs,hat (by omega) hb⟩)]; grind)]
  have h8:sum 1 (fun j=>sum (z (o (t+j))) (fun b=>elS z o M t (qC z (o t)+c) (qC z (o (t+j))+b)*x (qC z (o (t+j))+b)))=sum (z (o t)) (fun b=>fsS z o m F t (o t) (o t) c b*x (qC z (o t)+b)):=by
   rw [qP,Xe];rw [show t+0=t by omega,qf (n:=z (o t)) (fun b hb=>by rw [<-e1 (o t) (o t) hkm hkm hkn hkn c hc b hb])];rw [show Fsy (fsS z o m F t) (o t) (o t)=fsS z o m F t (o t) (o t) by funext a b; unfold Fsy; rw [if_pos (q_r)]]
   grind
  rw [h8];have h9:sum (m - (t+1)) (fun j=>sum (z (o (t+(1+j)))) (fun b=>elS z o M t (qC z (o t)+c) (qC z (o (t+(1+j)))+b)*x (qC z (o (t+(1+j)))+b)))=sum (m - (t+1)) (fun s=>sum (z (o (t+1+s))) (fun b=>elS z o M t (qC z (o t)+c) (qC z (o (t+1+s))+b)*x (qC z (o (t+1+s))+b))):=qf fun j _=>by rw [Nat.add_assoc]
  rw [h9]
  grind
 have hpv:=(WS H ht hpt).2 (hp t ht);have h1:=(jg hpv).2;unfold xS av;rw [qf (fun c hc=>by rw [hy c hc])];have h2:sum (z (o t)) (fun c=>kD (z (o t)) (fsS z o m F t (o t) (o t)) a c*sum (z (o t)) (fun b=>fsS z o m F t (o t) (o t) c b*x (qC z (o t)+b)))=mm (z (o t)) (kD (z (o t)) (fsS z o m F t (o t) (o t))) (mm (z (o t)) (fsS z o m F t (o t) (o t)) (fun b _=>x (qC z (o t)+b))) a 0:=rfl;rw [h2,<-jT,kE (a':=dlt) (b':=fun b _=>x (qC z (o t)+b)) (fun c hc=>h1 a ha c hc) (fun _ _=>rfl),Yl _ ha]
end
theorem ZJ {ops:Array Oper} {o:Oper} {a:Act} {K:Act->World->Prop} {Q:Exit->Act->World->Prop} {E:Prop}
  (hg:o.guard=none) (d x:Operand) (dT sT:TypeId) (hop:o.op=Op.call { callee:=Callee.builtin Builtin.copy,args:=#[d,x],argTypes:=#[dT,sT] })
  (v u:Value) (hd:a.eval d=v) (hx:a.eval x=u) {v':Value} (hr:(Builtin.copy_ #[dT,sT] o.type #[v,u]).run Tryz.prog w=.ok v' w') (hK:K (a.put o.dst v') w') :
  if Region.wanted o (yielded ops a.tmps)=true then Oper.wp Tryz.prog o a w K Q else E:=by
 have hw:Region.wanted o (yielded ops a.tmps)=true:=by simp [Region.wanted,hg]
 rw [if_pos hw];unfold Oper.wp;simp [execOp,hop,resolve,invoke,builtin,hd,hx,hr,Result.andThen]
 exact hK
end Go.Proofs.YtfmddpahhloleaaGreat
