import Derived.Test.YtphpkhoeplcedaaGreatWsf01
set_option linter.all false
set_option maxHeartbeats 8000000
namespace Go.Proofs.YtphpkhoeplcedaaGreat
open Go.RowKit
variable {w:World} {N n lo hi m:Nat} {v:Value} {G:Grd}
theorem q6N {S:Nat->Sta} {I:Nat->Ras} (h:zh G≠0):q60 G S n m I=zh G:=if_pos h
theorem q6M {S:Nat->Sta} {I:Nat->Ras} (h:zh G=0) (h1:n<=3) (h2:n≠m):q60 G S n m I=4:=by unfold q60; rw [if_neg (by simpa using h),if_neg (by omega),if_pos h2]
theorem q6K {S:Nat->Sta} {I:Nat->Ras} (h:zh G=0) (h1:n<=3) (h2:n=m) (h3:q2Q S n≠0):q60 G S n m I=q2Q S n:=by unfold q60; rw [if_neg (by simpa using h),if_neg (by omega),if_neg (fun h=>h h2),if_pos h3]
theorem q6L {S:Nat->Sta} {I:Nat->Ras} (h:zh G=0) (h1:n<=3) (h2:n=m) (h3:q2Q S n=0):q60 G S n m I=if q6U m I=true then 1 else if q6T m I=true then 4 else 0:=by unfold q60; rw [if_neg (by simpa using h),if_neg (by omega),if_neg (fun h=>h h2),if_neg (by simpa using h3)]
set_option maxRecDepth 100000 in
theorem q6j {vg vs vi:Value} {S:Nat->Sta} {I:Nat->Ras} (h:yg N lo hi w vg G) (hs:StsV w vs n S) (him:ImV w vi m I) (hN:N<=w.heap.size) :
  Calls Tryz.prog 9 #[vg,vs,vi] w (zX w (.bool true)):=by
 obtain⟨A,c,rfl,-,-,-⟩:=h.parts;have HST:=q_h hs;obtain⟨As,cs,rfl,hsc,hscm,-⟩:=hs;have HIM:=q_h him;obtain⟨Ai,ci,rfl,hic,hicm,hig⟩:=him;have HIG:=q_h hig;unfold maxLen at hscm hicm;have HG:=q_h h;clear h hig;go_enter Tryz.func9,Tryz.ntmps9;go_upto_region 1 with (fail);refine kE ?_;intro W0 hE hsz B0 B1;obtain⟨gB,hgB⟩:∃ gB,gB=w.heap.size+1:=⟨_,rfl⟩
 rw [<-hgB] at B1 ⊢;go_wp2_with (go_at_call 10; refine q_o ?_);refine (q54).mono ?_;rintro e w1 ⟨rfl,e1⟩;replace hE:=hE.trans e1;replace B0:=e1.block B0;replace B1:=e1.block B1;have hN1:N<=w1.heap.size:=by have:=hE.size; omega
 clear e1 hgB hsz;obtain⟨a0,a1,a2,a3,a4,a5⟩:=qG B0;obtain⟨x0,-⟩:=zA B1;obtain⟨bl,hbl⟩:=qf (jw m (fun i=>decide (200 < (I i).n)));obtain⟨tf,htf⟩:=qf (decide (¬ G.n<=30\/3 < n\/5 < m\/bl=true));go_upto_region 3 with (fail)
 go_cut [32] (fun sv wx=>sv=.bool tf/\Ext w1 wx)
 case first =>
  go_wp2_with (go_at_call 11; refine q_o ?_);refine (l49_few (HG.out.ext hE) (q6u hN1 (fun _=>raw 0))).mono ?_;rw [q6x];obtain⟨fw,hfw⟩:=qf (decide (G.n<=30));rw [<-hfw.out];rintro e w2 ⟨rfl,e2⟩;replace B1:=e2.block B1;clear a0 a1 a2 a3 a4 a5 x0;obtain⟨x0,-⟩:=zA B1;cases fw with
  | false =>
   have HT:Hid (true=tf):=by rw [Hid,htf.out]; exact (q_t (.inl (of_decide_eq_false hfw.out.symm))).symm
   clear hfw;go_wp2_with fail
   go_meet
   exact⟨by rw [<-HT.out],e2⟩
  | true =>
  have HFW:Hid (G.n<=30):=by
   have h9:G.n<=30:=of_decide_eq_true hfw.out.symm;exact h9
  clear hfw
  by_cases hn3:3 < n
  ·have t3:decide (3 < (n:Int))=true:=q_t (by omega);have t3':(3:Int) < (n:Int):=by omega
   have HT:Hid (true=tf):=by rw [Hid,htf.out]; exact (q_t (.inr (.inl hn3))).symm
   go_wp2_with fail
   go_meet
   exact⟨by rw [<-HT.out],e2⟩
  have t3:decide (3 < (n:Int))=false:=q_f (by omega);have t3':¬ (3:Int) < (n:Int):=by omega
  by_cases hm5:5 < m
  ·have t4:decide (5 < (m:Int))=true:=q_t (by omega);have t4':(5:Int) < (m:Int):=by omega
   have HT:Hid (true=tf):=by rw [Hid,htf.out]; exact (q_t (.inr (.inr (.inl hm5)))).symm
   go_wp2_with fail
   go_meet
   exact⟨by rw [<-HT.out],e2⟩
  have t4:decide (5 < (m:Int))=false:=q_f (by omega);have t4':¬ (5:Int) < (m:Int):=by omega
  have HS:=q_h (q6p (N:=0) (lo:=0) (hi:=0) (⟨rfl,HIM.out.ext (hE.trans e2)⟩:ImW 0 0 0 w2 _ m I) (fun i=>decide (200 < (I i).n)) (fun i hi w' u e hu=>q6P hu));rw [<-hbl.out] at HS;go_wp2_with (go_at_call 39; refine q_o ?_);refine (HS.out).mono ?_;rintro e w3 ⟨rfl,e3⟩;replace e2:=e2.trans e3;clear HS x0 e3;cases bl with
  | true =>
   have HT:Hid (true=tf):=by rw [Hid,htf.out]; exact (q_t (.inr (.inr (.inr rfl)))).symm
   go_wp2_with fail
   go_meet
   exact⟨by rw [<-HT.out],e2⟩
  | false =>
   have HT:Hid (false=tf):=by
    rw [Hid,htf.out];refine (decide_eq_false ?_).symm;rintro (h | h | h | h)
    ·exact h HFW.out
    ·exact hn3 h
    ·exact hm5 h
    ·cases h
   go_wp2_with fail
   go_meet
   exact⟨by rw [<-HT.out],e2⟩
 obtain⟨rfl,e2⟩:=hcut;obtain⟨w3,hwx⟩:∃ w3,w3=wc:=⟨_,rfl⟩
 subst hwx;replace hE:=hE.trans e2;replace B0:=e2.block B0;replace B1:=e2.block B1;clear a0 a1 a2 a3 a4 a5 x0 e2 hN1;cases tf with
 | true =>
  clear htf B0 B1;go_wp2;go_ret;exact⟨rfl,hE⟩
 | false =>
 have hn3':n<=3:=by
  have h9:¬ (¬ G.n<=30\/3 < n\/5 < m\/bl=true):=of_decide_eq_false htf.out.symm;omega
 clear htf hbl;obtain⟨x0,-⟩:=zA B1;obtain⟨a0,a1,a2,a3,a4,a5⟩:=qG B0;obtain⟨r,hr⟩:=qf (q60 G S n m I);go_wp2_with (go_at_call 41; refine q_o ?_);refine (q6S (HG.out.ext hE) (HST.out.ext hE) (HIM.out.ext hE) (by have:=hE.size; omega)).mono ?_;rw [<-hr.out];rintro e w4 ⟨v4,rfl,hv0,hv1,e4⟩;have HV0:=q_h hv0;have HV1:=q_h hv1;replace hE:=hE.trans e4;replace B0:=e4.block B0;replace B1:=e4.block B1;clear x0 a0 a1 a2 a3 a4 a5 e4 hv0 hv1;obtain⟨x0,-⟩:=zA B1;obtain⟨a0,a1,a2,a3,a4,a5⟩:=qG B0;obtain⟨q,hq⟩:=qf (zh G);obtain⟨q2,hq2⟩:=qf (q2Q S n);go_wp2_with (go_at_call 13; refine q_o ?_);refine (l49_code (HG.out.ext hE) (q6u (N:=N) (by have:=hE.size; omega) (fun _=>raw 0)) (fun i hi=>absurd hi (by omega))).mono ?_;rw [q6k,<-hq.out];rintro e w5 ⟨rfl,e5⟩;replace hE:=hE.trans e5;replace B0:=e5.block B0;replace B1:=e5.block B1;have E35:=e5;clear x0 a0 a1 a2 a3 a4 a5 e5;obtain⟨x0,-⟩:=zA B1
 by_cases h0:q=0
 case neg =>
  obtain rfl:q=r:=by rw [hr.out,q6N (by rw [<-hq.out]; exact h0)]; exact hq.out
  obtain rfl:=HV0.out h0;have t0:(q == 0)=false:=by simpa using h0
  have t1:(q != 0)=true:=by simpa using h0
  have t2:(q == q)=true:=by simp
  clear h0 HV0 HV1 hq hr B0 B1;go_wp2;go_ret;exact⟨rfl,hE⟩
 have hgc:zh G=0:=by rw [<-hq.out]; exact h0
 have HGC:=q_h hgc;subst h0;clear hq hgc
 by_cases hnm:n=m
 case neg =>
  have t2:((m:Int) != (n:Int))=true:=by simp; omega
  obtain rfl:4=r:=by rw [hr.out,q6M HGC.out hn3' hnm]
  obtain rfl:=HV0.out (by decide);clear hnm HV0 HV1 hr B0 B1;go_wp2;go_ret;exact⟨rfl,hE⟩
 have t2:((m:Int) != (n:Int))=false:=by simp; omega
 have HNM:=q_h hnm;clear hnm;go_wp2_with (go_at_call 36; refine q_o ?_);refine (q36 (HST.out.ext hE)).mono ?_;rw [show stsL S n=q2 by unfold stsL; rw [if_neg (by omega),hq2.out]];rintro e w6 ⟨rfl,e6⟩;replace hE:=hE.trans e6;replace B0:=e6.block B0;replace B1:=e6.block B1;replace E35:=E35.trans e6;clear e6 t2 x0;obtain⟨x0,-⟩:=zA B1
 by_cases h2:q2=0
 case neg =>
  obtain rfl:q2=r:=by rw [hr.out,q6K HGC.out hn3' HNM.out (by rw [<-hq2.out]; exact h2)]; exact hq2.out
  obtain rfl:=HV0.out h2;have t0:(q2 == 0)=false:=by simpa using h2
  have t1:(q2 != 0)=true:=by simpa using h2
  have t2:(q2 == q2)=true:=by simp
  clear h2 HV0 HV1 hq2 hr B0 B1;go_wp2;go_ret;exact⟨rfl,hE⟩
 have hsc0:q2Q S n=0:=by rw [<-hq2.out]; exact h2
 have HOK:Hid (∀ i,i < n->ZK (S i)):=fun i hi=>q6V (q6d hsc0 i hi)
 obtain⟨bk,hbk⟩:=qf (q6U m I);obtain⟨bz,hbz⟩:=qf (q6T m I);have HRR:Hid (r=if bk=true then 1 else if bz=true then 4 else 0):=by rw [Hid,hr.out,q6L HGC.out hn3' HNM.out hsc0,hbk.out,hbz.out]
 subst h2;clear hq2 hsc0 hr;have HS:=q_h (q6i (N:=0) (lo:=0) (hi:=0) (⟨rfl,HIM.out.ext hE⟩:ImW 0 0 0 w6 _ m I) (fun i=>q5Z (I i) != 0) (fun i hi w' u e hu=>q6G hu));rw [show jw m (fun i=>q5Z (I i) != 0)=bk by rw [hbk.out]; rfl] at HS;go_wp2_with (go_at_call 39; refine q_o ?_);refine (HS.out).mono ?_;rintro e w7 ⟨rfl,e7⟩;replace hE:=hE.trans e7;replace B0:=e7.block B0;replace B1:=e7.block B1;replace E35:=E35.trans e7;clear HS e7 x0;obtain⟨x0,-⟩:=zA B1;cases bk with
 | true =>
  obtain rfl:1=r:=by rw [HRR.out]; rfl
  obtain rfl:=HV0.out (by decide);clear HRR HV0 HV1 hbk hbz B0 B1;go_wp2;go_ret;exact⟨rfl,hE⟩
 | false =>
 have HAA:Hid (∀ i,i < m->q5Z (I i)=0):=fun i hi=>by
  have h9:=hbk.out.symm;unfold q6U at h9;have h8:=kM.1 h9 i hi;simpa using h8
 have HS:=q_h (q6o (N:=0) (lo:=0) (hi:=0) (⟨rfl,HIM.out.ext hE⟩:ImW 0 0 0 w7 _ m I) gB (fun i=>q5X (imW m I) (imH m I) (I i)) (fun i hi w' u e hu=>by
  have h9:=q6O (gi:=gB) hu (e.cell x0) ((HIM.out.ext hE).ext e) (by omega);have e1:imW m I=(I 0).wd:=if_pos (by omega);have e2:imH m I=(I 0).ht:=if_pos (by omega);rw [e1,e2]
  exact h9))
 rw [show jw m (fun i=>q5X (imW m I) (imH m I) (I i))=bz by rw [hbz.out]; rfl] at HS;go_wp2_with (go_at_call 39; refine q_o ?_);refine (HS.out).mono ?_;rintro e w8 ⟨rfl,e8⟩;replace hE:=hE.trans e8;replace B0:=e8.block B0;replace B1:=e8.block B1;replace E35:=E35.trans e8;clear HS e8 x0;obtain⟨x0,-⟩:=zA B1;cases bz with
 | true =>
  obtain rfl:4=r:=by rw [HRR.out]; rfl
  obtain rfl:=HV0.out (by decide);clear HRR HV0 HV1 hbk hbz B0 B1;go_wp2;go_ret;exact⟨rfl,hE⟩
 | false =>
 obtain rfl:0=r:=by rw [HRR.out]; rfl
 obtain⟨A4,c4,rfl,hg4⟩:=HV1.out rfl;have HG4:=q_h (hg4.ext E35);have HGO:=q_h (q3c HGC.out);obtain⟨wd,hwd⟩:=qf (imW m I);obtain⟨ht,hht⟩:=qf (imH m I)
 have HSZ:Hid (∀ i,i < m->(I i).wd=wd/\(I i).ht=ht/\((I i).n:Int)=wd*ht):=fun i hi=>by
  have h9:=hbz.out.symm;unfold q6T at h9;rw [<-hwd.out,<-hht.out] at h9;have h7:=kM.1 h9 i hi;unfold q5X at h7;rw [Bool.or_eq_false_iff,bne_eq_false_iff_eq,bne_eq_false_iff_eq] at h7;have h8:=(q6e (HAA.out i hi)).2.2.2.2.2.2;exact⟨h7.1,h7.2,by rw [h8,h7.1,h7.2]⟩
 have HWH:Hid ((1<=wd/\wd<=64)/\(1<=ht/\ht<=64)):=by
  by_cases hm:0 < m
  ·obtain⟨a1,a2,-,a3,a4,-,-⟩:=q6e (HAA.out 0 hm);obtain⟨b1,b2,-⟩:=HSZ.out 0 hm;rw [b1] at a1 a3;rw [b2] at a2 a4;exact⟨⟨a1,a3⟩,⟨a2,a4⟩⟩
  ·have h1:wd=1:=by rw [hwd.out]; unfold imW; rw [if_neg hm]
   have h2:ht=1:=by rw [hht.out]; unfold imH; rw [if_neg hm]
   rw [h1,h2];exact⟨by decide,by decide⟩
 rw [<-hwd.out,<-hht.out] at HG4;clear HRR HV0 HV1 hg4 E35 hbk hbz HAA
 go_upto_if 80 with (fail)
 go_cut [10,11] (fun av bv wx=>av=.int .i64 wd/\bv=.int .i64 ht/\Ext w8 wx)
 case first =>
  by_cases hm:0 < m
  case neg =>
   have t4:decide ((0:Int) < (m:Int))=false:=q_f (by omega);have t4':¬ (0:Int) < (m:Int):=by omega
   have HW1:Hid (1=wd):=by rw [Hid,hwd.out]; unfold imW; rw [if_neg hm]
   have HH1:Hid (1=ht):=by rw [Hid,hht.out]; unfold imH; rw [if_neg hm]
   clear hm;go_wp2_with fail
   go_meet
   exact⟨by rw [<-HW1.out],by rw [<-HH1.out],Ext.refl _⟩
  have t4:decide ((0:Int) < (m:Int))=true:=q_t (by omega);have t4':(0:Int) < (m:Int):=by omega
  obtain⟨bi,oi,rfl,hia⟩:=HIG.out hm;obtain⟨Ap,cp,y0,y1,-,-,-⟩:=(hia 0 hm).ext hE;have HW1:Hid ((I 0).wd=wd):=by rw [Hid,hwd.out]; unfold imW; rw [if_pos hm]
  have HH1:Hid ((I 0).ht=ht):=by rw [Hid,hht.out]; unfold imH; rw [if_pos hm]
  rw [Nat.zero_mul,Nat.add_zero,HW1.out] at y0;rw [Nat.zero_mul,Nat.add_zero,HH1.out] at y1;clear hia hm HW1 HH1 HIG;go_upto_region 19 with (fail);refine xe [Mn.eq (.slice (some ⟨bi,oi,none⟩) m ci),Mn.q bi oi,Mn.q bi oi,Mn.i wd,Mn.eq (.slice (some ⟨bi,oi,none⟩) m ci),Mn.q bi oi,Mn.q bi (oi+1),Mn.i ht,Mn.i wd,Mn.i ht] (sM [81,82,83,84,85,86,87,88,10,11]) [] (rQ 10 0) 0 (by kernel_rfl) ?_ ?_
  ·show ∀ i,i < 10->_
   iterate 10 refine fs ?_ ?_
   ·exact fz
   all_goals intro hl; clear hl; refine stp rfl ?_; intro ac wi eI hB hA K hK
   have o5:=oOf (hB 5) rfl;have cc0:=eI.cell x0
   rotate_left
   obtain⟨_,s81,rfl⟩:=hA 0 81
   rotate_left
   obtain⟨_,s82,rfl⟩:=hA 1 82
   rotate_left
   obtain⟨_,s83,rfl⟩:=hA 2 83;have cc0:=eI.cell y0
   rotate_left
   have o5:=oOf (hB 5) rfl;have cc0:=eI.cell x0
   rotate_left
   obtain⟨_,s85,rfl⟩:=hA 4 85
   rotate_left
   obtain⟨_,s86,rfl⟩:=hA 5 86
   rotate_left
   obtain⟨_,s87,rfl⟩:=hA 6 87;have cc0:=eI.cell y1
   rotate_left
   obtain⟨_,s84,rfl⟩:=hA 3 84
   rotate_left
   obtain⟨_,s88,rfl⟩:=hA 7 88
   rotate_left
   all_goals clear hB hA; go_simp; exact q_k hK rfl
  intro vals wz eZ hJ;have J10:vals 8=_:=hJ 8 (by decide) (by decide);have J11:vals 9=_:=hJ 9 (by decide) (by decide);clear hJ;simp only [pr,Nat.reduceAdd,J10,J11];clear J10 J11;refine qg (by kernel_rfl) ?_ _;clear x0 y0 y1;go_wp2_with fail
  go_meet
  exact⟨rfl,rfl,eZ⟩
 obtain⟨rfl,rfl,e9⟩:=hcut;obtain⟨w9,hwx⟩:∃ w9,w9=wc:=⟨_,rfl⟩
 subst hwx;replace hE:=hE.trans e9;replace B0:=e9.block B0;replace B1:=e9.block B1;replace HG4:=q_h (HG4.out.ext e9);clear e9 x0;obtain⟨x0,-⟩:=zA B1;obtain⟨a0,a1,a2,a3,a4,a5⟩:=qG B0;go_wp2_with (go_at_call 37; refine q_o ?_);refine (q1f (HG.out.ext hE) HGO.out (HST.out.ext hE) HOK.out (HIM.out.ext hE) wd ht HSZ.out (by have:=HWH.out; omega) (by have:=HWH.out; omega) HWH.out.1.2 HWH.out.2.2 (by have:=hE.size; omega)).mono ?_;rintro e w10 ⟨A1,c1,A2,c2,rfl,htw,e10⟩;have HEQ:=q_h (sl_eqZ (w:=w10) (q6w (N:=0) (lo:=0) (hi:=0) (HG4.out.ext e10)) (q6w (N:=0) (lo:=0) (hi:=0) htw.2.1));replace hE:=hE.trans e10;clear a0 a1 a2 a3 a4 a5 x0 B0 B1 htw HG4 e10;go_wp2_with (go_at_call 38; refine q_o ?_);refine (HEQ.out).mono ?_;rintro e w11 ⟨rfl,e11⟩;replace hE:=hE.trans e11;clear HEQ e11;go_wp2;go_ret;exact⟨rfl,hE⟩
end Go.Proofs.YtphpkhoeplcedaaGreat
set_option maxRecDepth 100000
namespace Go.Proofs.YtphpkhoeplcedaaGreat
open Go.ChangeShapes Go.WideShapes Go.ChangeAt Go.RowKit Go.Joins
variable {w:World} {N n lo hi m:Nat} {v:Value} {G:Grd}
theorem q6l:Tryz.prog.cellsOf 63=3:=by kernel_rfl
theorem q6m:Tryz.prog.cellsOf 65=4:=by kernel_rfl
theorem q6B:Tryz.prog.cellsOf 67=2:=by kernel_rfl
theorem q6y:Tryz.prog.cellsOf 69=10:=by kernel_rfl
section
variable {H:Type} {enc:TypeId×Value->H} {w:World} {spare:Nat->Bool} {held:Bool}
theorem q62 {c0 c1 c2:Value} {x:DataW H×List MemPlace} (h:DataW.trod enc Tryz.prog w 0 spare held n 63 [c0,c1,c2]=some x):∃ a b c:Int,c0=.int .i64 a/\c1=.int .i64 b/\c2=.int .i64 c:=by
 obtain⟨xs,m,-,-,-,hlen,hq⟩:=DataW.trod_struct Tryz.underlying63 h
 match xs,hlen with
 | [y0,y1,y2],_ =>
  have h0:DataW.trod enc Tryz.prog w 0 spare held m 3 (List.take (Tryz.prog.cellsOf 3) (List.drop 0 [c0,c1,c2]))=some y0:=hq 0 _ rfl;have h1:DataW.trod enc Tryz.prog w 0 spare held m 3 (List.take (Tryz.prog.cellsOf 3) (List.drop 1 [c0,c1,c2]))=some y1:=hq 1 _ rfl;have h2:DataW.trod enc Tryz.prog w 0 spare held m 3 (List.take (Tryz.prog.cellsOf 3) (List.drop 2 [c0,c1,c2]))=some y2:=hq 2 _ rfl;simp only [Jb,List.drop_zero,List.take_succ_cons,List.take_zero,List.drop_succ_cons] at h0 h1 h2;obtain⟨z0,e0,-⟩:=DataW.trod_int Tryz.underlying3 h0;obtain⟨z1,e1,-⟩:=DataW.trod_int Tryz.underlying3 h1;obtain⟨z2,e2,-⟩:=DataW.trod_int Tryz.underlying3 h2;simp only [List.cons.injEq,and_true] at e0 e1 e2;exact⟨z0,z1,z2,e0,e1,e2⟩
theorem q63 {c0 c1 c2 c3:Value} {x:DataW H×List MemPlace} (h:DataW.trod enc Tryz.prog w 0 spare held n 65 [c0,c1,c2,c3]=some x):∃ a b c d:Int,c0=.int .i64 a/\c1=.int .i64 b/\c2=.int .i64 c/\c3=.int .i64 d:=by
 obtain⟨xs,m,-,-,-,hlen,hq⟩:=DataW.trod_struct Tryz.underlying65 h
 match xs,hlen with
 | [y0,y1,y2,y3],_ =>
  have h0:DataW.trod enc Tryz.prog w 0 spare held m 3 (List.take (Tryz.prog.cellsOf 3) (List.drop 0 [c0,c1,c2,c3]))=some y0:=hq 0 _ rfl;have h1:DataW.trod enc Tryz.prog w 0 spare held m 3 (List.take (Tryz.prog.cellsOf 3) (List.drop 1 [c0,c1,c2,c3]))=some y1:=hq 1 _ rfl;have h2:DataW.trod enc Tryz.prog w 0 spare held m 3 (List.take (Tryz.prog.cellsOf 3) (List.drop 2 [c0,c1,c2,c3]))=some y2:=hq 2 _ rfl;have h3:DataW.trod enc Tryz.prog w 0 spare held m 3 (List.take (Tryz.prog.cellsOf 3) (List.drop 3 [c0,c1,c2,c3]))=some y3:=hq 3 _ rfl;simp only [Jb,List.drop_zero,List.take_succ_cons,List.take_zero,List.drop_succ_cons] at h0 h1 h2 h3;obtain⟨z0,e0,-⟩:=DataW.trod_int Tryz.underlying3 h0;obtain⟨z1,e1,-⟩:=DataW.trod_int Tryz.underlying3 h1;obtain⟨z2,e2,-⟩:=DataW.trod_int Tryz.underlying3 h2;obtain⟨z3,e3,-⟩:=DataW.trod_int Tryz.underlying3 h3;simp only [List.cons.injEq,and_true] at e0 e1 e2 e3;exact⟨z0,z1,z2,z3,e0,e1,e2,e3⟩
theorem q6b {c0 c1:Value} {x:DataW H×List MemPlace} (h:DataW.trod enc Tryz.prog w 0 spare held n 67 [c0,c1]=some x):∃ a b:Int,c0=.int .i64 a/\c1=.int .i64 b:=by
 obtain⟨y0,y1,m,-,-,h0,h1⟩:=trod_struct2 Tryz.underlying67 h;simp only [Jb,List.drop_zero,List.take_succ_cons,List.take_zero,List.drop_succ_cons] at h0 h1;obtain⟨z0,e0,-⟩:=DataW.trod_int Tryz.underlying3 h0;obtain⟨z1,e1,-⟩:=DataW.trod_int Tryz.underlying3 h1;simp only [List.cons.injEq,and_true] at e0 e1;exact⟨z0,z1,e0,e1⟩
theorem q67 {c0 c1 c2 c3 c4 c5 c6 c7 c8 c9:Value} {x:DataW H×List MemPlace} (h:DataW.trod enc Tryz.prog w 0 spare held n 69 [c0,c1,c2,c3,c4,c5,c6,c7,c8,c9]=some x) :
  ∃ S:Sta,c0=.int .i64 S.ax/\c1=.int .i64 S.ay/\c2=.int .i64 S.az/\c3=.int .i64 S.qa/\c4=.int .i64 S.qb/\c5=.int .i64 S.qc/\c6=.int .i64 S.qd/\c7=.int .i64 S.f/\c8=.int .i64 S.cx/\c9=.int .i64 S.cy:=by
 obtain⟨xs,m,-,-,-,hlen,hq⟩:=DataW.trod_struct Tryz.underlying69 h
 match xs,hlen with
 | [y0,y1,y2,y3],_ =>
  have h0:DataW.trod enc Tryz.prog w 0 spare held m 63 (List.take (Tryz.prog.cellsOf 63) (List.drop 0 [c0,c1,c2,c3,c4,c5,c6,c7,c8,c9]))=some y0:=hq 0 _ rfl;have h1:DataW.trod enc Tryz.prog w 0 spare held m 65 (List.take (Tryz.prog.cellsOf 65) (List.drop 3 [c0,c1,c2,c3,c4,c5,c6,c7,c8,c9]))=some y1:=hq 1 _ rfl;have h2:DataW.trod enc Tryz.prog w 0 spare held m 3 (List.take (Tryz.prog.cellsOf 3) (List.drop 7 [c0,c1,c2,c3,c4,c5,c6,c7,c8,c9]))=some y2:=hq 2 _ rfl;have h3:DataW.trod enc Tryz.prog w 0 spare held m 67 (List.take (Tryz.prog.cellsOf 67) (List.drop 8 [c0,c1,c2,c3,c4,c5,c6,c7,c8,c9]))=some y3:=hq 3 _ rfl;simp only [Jb,q6l,q6m,q6B,List.drop_zero,List.take_succ_cons,List.take_zero,List.drop_succ_cons] at h0 h1 h2 h3;obtain⟨z0,z1,z2,e0,e1,e2⟩:=q62 h0;obtain⟨z3,z4,z5,z6,e3,e4,e5,e6⟩:=q63 h1;obtain⟨z7,e7,-⟩:=DataW.trod_int Tryz.underlying3 h2;obtain⟨z8,z9,e8,e9⟩:=q6b h3;simp only [List.cons.injEq,and_true] at e7;exact⟨⟨z0,z1,z2,z3,z4,z5,z6,z7,z8,z9⟩,e0,e1,e2,e3,e4,e5,e6,e7,e8,e9⟩
instance:Inhabited Sta:=⟨⟨0,0,0,0,0,0,0,0,0,0⟩⟩
theorem q66 {x:DataW H×List MemPlace} (h:DataW.trod enc Tryz.prog w 0 spare held n 74 [v]=some x):∃ k S,StsV w v k S:=by
 rcases Go.Deep.open_slice Tryz.underlying74 h with ⟨hcs,-⟩ | ⟨a,len,cap,m,n',D,Pl,hcs,-,hl,hm,hmm,-,hx⟩
 ·simp only [List.cons.injEq,and_true] at hcs;subst hcs;exact⟨0,fun _=>default,_,_,rfl,q_r,Nat.zero_le _,fun h0=>absurd h0 (by omega)⟩
 ·simp only [List.cons.injEq,and_true] at hcs;subst hcs;have hlm:len<=m:=by rw [hmm]; split <;> omega
  rw [q6y] at hx
  rcases Nat.eq_zero_or_pos len with hl0 | hl0
  ·subst hl0;exact⟨0,fun _=>default,_,_,rfl,hl,hm,fun h0=>absurd h0 (by omega)⟩
  obtain⟨B,O,rfl⟩:∃ B O,a=⟨B,O,none⟩:=by
   obtain⟨cs,h1,h2⟩:=hx 0 (by omega);obtain⟨-,hlen,hc⟩:=World.cells?_some h1;have k0:=hc 0 (by omega);have hz:(a.add (0*10)).add 0=a.add 0:=by rw [Go.Deep.add_add]
   rw [hz,List.getElem?_eq_getElem (by omega)] at k0;exact⟨_,_,WA a k0⟩
  have hv:∀ i,i < len->∃ S:Sta,StAt w B (O+i*10) S:=fun i hi=>by
   obtain⟨cs,h1,h2⟩:=hx i (by omega);obtain⟨-,hlen,hc⟩:=World.cells?_some h1
   match cs,hlen with
   | [c0,c1,c2,c3,c4,c5,c6,c7,c8,c9],_ =>
    obtain⟨S,e0,e1,e2,e3,e4,e5,e6,e7,e8,e9⟩:=q67 h2;have k0:=hc 0 (by omega);have k1:=hc 1 (by omega);have k2:=hc 2 (by omega);have k3:=hc 3 (by omega);have k4:=hc 4 (by omega);have k5:=hc 5 (by omega);have k6:=hc 6 (by omega);have k7:=hc 7 (by omega);have k8:=hc 8 (by omega);have k9:=hc 9 (by omega);rw [q2B,q2B] at k0 k1 k2 k3 k4 k5 k6 k7 k8 k9;refine⟨S,?_,?_,?_,?_,?_,?_,?_,?_,?_,?_⟩
    ·rw [<-e0]; exact k0
    ·rw [<-e1]; exact k1
    ·rw [<-e2]; exact k2
    ·rw [<-e3]; exact k3
    ·rw [<-e4]; exact k4
    ·rw [<-e5]; exact k5
    ·rw [<-e6]; exact k6
    ·rw [<-e7]; exact k7
    ·rw [<-e8]; exact k8
    ·rw [<-e9]; exact k9
  obtain⟨f,hf⟩:=Go.Deep.choose_lt (α:=Sta) hv;exact⟨len,f,_,cap,rfl,hl,hm,fun h0=>⟨B,O,rfl,fun i hi=>hf i hi⟩⟩
theorem q6C {d:DataW H} {p:List MemPlace} (h:DataW.Trod enc Tryz.prog w 0 spare held 74 v d p) (hv:∃ A k c,v=.slice A k c):∃ k S,StsV w v k S:=by
 obtain⟨A0,k0,c0,rfl⟩:=hv;obtain⟨fuel,hf⟩:=h;exact q66 hf
end
end Go.Proofs.YtphpkhoeplcedaaGreat
set_option maxRecDepth 100000
namespace Go.Proofs.YtphpkhoeplcedaaGreat
open Go.ChangeShapes Go.WideShapes Go.ChangeAt Go.RowKit Go.Joins
variable {w:World} {N n lo hi m:Nat} {v:Value} {G:Grd}
theorem q6A:Tryz.prog.cellsOf 98=4:=by kernel_rfl
section
variable {H:Type} {enc:TypeId×Value->H} {w:World} {spare:Nat->Bool} {held:Bool}
theorem q69 {c0 c1 c2 c3:Value} {x:DataW H×List MemPlace} (h:DataW.trod enc Tryz.prog w 0 spare held n 98 [c0,c1,c2,c3]=some x):∃ (R:Ras) (A:Option Addr) (c:Nat),c0=.int .i64 R.wd/\c1=.int .i64 R.ht/\c2=.int .i64 R.mx/\c3=.slice A R.n c/\IzV 0 0 0 w (.slice A R.n c) R.n R.px:=by
 obtain⟨xs,m,-,-,-,hlen,hq⟩:=DataW.trod_struct Tryz.underlying98 h
 match xs,hlen with
 | [y0,y1,y2,y3],_ =>
  have h0:DataW.trod enc Tryz.prog w 0 spare held m 3 (List.take (Tryz.prog.cellsOf 3) (List.drop 0 [c0,c1,c2,c3]))=some y0:=hq 0 _ rfl;have h1:DataW.trod enc Tryz.prog w 0 spare held m 3 (List.take (Tryz.prog.cellsOf 3) (List.drop 1 [c0,c1,c2,c3]))=some y1:=hq 1 _ rfl;have h2:DataW.trod enc Tryz.prog w 0 spare held m 3 (List.take (Tryz.prog.cellsOf 3) (List.drop 2 [c0,c1,c2,c3]))=some y2:=hq 2 _ rfl;have h3:DataW.trod enc Tryz.prog w 0 spare held m 22 (List.take (Tryz.prog.cellsOf 22) (List.drop 3 [c0,c1,c2,c3]))=some y3:=hq 3 _ rfl;simp only [Jb,VT,List.drop_zero,List.take_succ_cons,List.take_zero,List.drop_succ_cons] at h0 h1 h2 h3;obtain⟨z0,e0,-⟩:=DataW.trod_int Tryz.underlying3 h0;obtain⟨z1,e1,-⟩:=DataW.trod_int Tryz.underlying3 h1;obtain⟨z2,e2,-⟩:=DataW.trod_int Tryz.underlying3 h2;obtain⟨k,z,hz⟩:=VJ h3;simp only [List.cons.injEq,and_true] at e0 e1 e2;obtain⟨A,c,hv,-,-⟩:=hz.form;subst hv;exact⟨⟨z0,z1,z2,k,z⟩,A,c,e0,e1,e2,rfl,rfl,hz.2⟩
instance:Inhabited Ras:=⟨⟨0,0,0,0,fun _=>0⟩⟩
theorem q6c {x:DataW H×List MemPlace} (h:DataW.trod enc Tryz.prog w 0 spare held n 95 [v]=some x):∃ k I,ImV w v k I:=by
 rcases Go.Deep.open_slice Tryz.underlying95 h with ⟨hcs,-⟩ | ⟨a,len,cap,m,n',D,Pl,hcs,-,hl,hm,hmm,-,hx⟩
 ·simp only [List.cons.injEq,and_true] at hcs;subst hcs;exact⟨0,fun _=>default,_,_,rfl,q_r,Nat.zero_le _,fun h0=>absurd h0 (by omega)⟩
 ·simp only [List.cons.injEq,and_true] at hcs;subst hcs;have hlm:len<=m:=by rw [hmm]; split <;> omega
  rw [q6A] at hx
  rcases Nat.eq_zero_or_pos len with hl0 | hl0
  ·subst hl0;exact⟨0,fun _=>default,_,_,rfl,hl,hm,fun h0=>absurd h0 (by omega)⟩
  obtain⟨B,O,rfl⟩:∃ B O,a=⟨B,O,none⟩:=by
   obtain⟨cs,h1,h2⟩:=hx 0 (by omega);obtain⟨-,hlen,hc⟩:=World.cells?_some h1;have k0:=hc 0 (by omega);have hz:(a.add (0*4)).add 0=a.add 0:=by rw [Go.Deep.add_add]
   rw [hz,List.getElem?_eq_getElem (by omega)] at k0;exact⟨_,_,WA a k0⟩
  have hv:∀ i,i < len->∃ R:Ras,q2H w B (O+i*4) R:=fun i hi=>by
   obtain⟨cs,h1,h2⟩:=hx i (by omega);obtain⟨-,hlen,hc⟩:=World.cells?_some h1
   match cs,hlen with
   | [c0,c1,c2,c3],_ =>
    obtain⟨R,A,c,e0,e1,e2,e3,hz⟩:=q69 h2;have k0:=hc 0 (by omega);have k1:=hc 1 (by omega);have k2:=hc 2 (by omega);have k3:=hc 3 (by omega);rw [q2B,q2B] at k0 k1 k2 k3;refine⟨R,A,c,?_,?_,?_,?_,hz⟩
    ·rw [<-e0]; exact k0
    ·rw [<-e1]; exact k1
    ·rw [<-e2]; exact k2
    ·rw [<-e3]; exact k3
  obtain⟨f,hf⟩:=Go.Deep.choose_lt (α:=Ras) hv;exact⟨len,f,_,cap,rfl,hl,hm,fun h0=>⟨B,O,rfl,fun i hi=>hf i hi⟩⟩
theorem q6H {d:DataW H} {p:List MemPlace} (h:DataW.Trod enc Tryz.prog w 0 spare held 95 v d p) (hv:∃ A k c,v=.slice A k c):∃ k I,ImV w v k I:=by
 obtain⟨A0,k0,c0,rfl⟩:=hv;obtain⟨fuel,hf⟩:=h;exact q6c hf
end
end Go.Proofs.YtphpkhoeplcedaaGreat
