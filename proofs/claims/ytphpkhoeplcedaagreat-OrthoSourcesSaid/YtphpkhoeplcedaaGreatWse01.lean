import Derived.Test.YtphpkhoeplcedaaGreatWb24
set_option linter.all false
set_option maxHeartbeats 8000000
set_option maxRecDepth 100000
namespace Go.Proofs.YtphpkhoeplcedaaGreat
open Go.RowKit
variable {w w':World} {N n lo hi k m base c:Nat} {v:Value} {G:Grd} {z:Int} {S:Sta} {A:Option Addr}
theorem StsV.ext {S:Nat->Sta} (h:StsV w v n S) (e:Ext w w'):StsV w' v n S:=by
 obtain⟨A,c,hv,h1,h2,h3⟩:=h;refine⟨A,c,hv,h1,h2,fun h0=>?_⟩;obtain⟨b,off,hA,hc⟩:=h3 h0;exact⟨b,off,hA,fun i hi=>(hc i hi).ext e⟩
theorem zu {S:Nat->Sta} (h:q2Q S n=0):∀ i,i < n->zI (S i)=0:=by
 intro i hi
 induction i using Nat.strongRecOn with
 | _ i ih =>
  by_cases h0:zI (S i)=0
  ·exact h0
  ·rw [Wu hi (fun j hj=>ih j hj (by omega)) h0] at h;exact h
theorem qj (h:zB z=false) : -1048576<=z/\z<=1048576:=by
 unfold zB at h;rw [Bool.or_eq_false_iff,decide_eq_false_iff_not,decide_eq_false_iff_not] at h;omega
theorem yu (h:zI S=0):ZK S:=by
 unfold zI at h
 split at h
 ·cases h
 ·rename_i h1
  rw [Bool.or_eq_true,Bool.or_eq_true,decide_eq_true_eq,decide_eq_true_eq] at h1
  have h5:jw 5 (fun i=>zB (l5 S i))=false:=by
   cases e:jw 5 (fun i=>zB (l5 S i)) with
   | false=>rfl
   | true=>exact absurd (.inl (.inl e)) h1
  have h6:=kM.1 h5;unfold jb at h
  split at h
  ·cases h
  ·rename_i h2
   split at h
   ·cases h
   ·rename_i h3
    simp only [Bool.or_eq_true,not_or,Bool.not_eq_true] at h3;exact⟨qj (h6 0 (by omega)),qj (h6 1 (by omega)),qj (h6 2 (by omega)),qj (h6 3 (by omega)),qj (h6 4 (by omega)),⟨by omega,by omega⟩,qj h3.1.1.1,qj h3.1.1.2,qj h3.1.2,qj h3.2,h2⟩
def yl (G:Grd) (S:Nat->Sta) (n:Nat) (W H:Int):Int :=
 if zh G≠0 then zh G else if 64 < n then 3 else if q2Q S n≠0 then q2Q S n else if 1<=W/\1<=H/\W<=64/\H<=64 then 0 else 2
def wz (w:World) (c:Int) (n:Nat) (z:Nat->Int) (e:Ending) (w':World):Prop :=
 ∃ v,e=.returned (.tuple #[v,.int .i64 c])/\(c≠0->v=.slice none 0 0)/\(c=0->∃ A m,v=.slice A n m/\zY 3 w.heap.size w' v (izL z n))/\Ext w w'
theorem yx (G:Grd) (S:Nat->Sta) (n:Nat) (W H:Int) (h:k < m):(Yr G S n W H m)[k]?=some (q1t G S n W H k):=by
 unfold Yr; rw [List.getElem?_map,List.getElem?_range h]; rfl
theorem kz {vg vs:Value} {S:Nat->Sta} (h:yg N lo hi w vg G) (hs:StsV w vs n S) (W H:Int) (hN:N<=w.heap.size) :
  Calls Tryz.prog 35 #[vg,vs,.int .i64 W,.int .i64 H] w (wz w (yl G S n W H) G.n (q5x G S n W H)):=by
 obtain⟨r,hr⟩:=qf (yl G S n W H);rw [<-hr.out];obtain⟨A,c,rfl,-,-,-⟩:=h.parts;have HST:=q_h hs;obtain⟨As,cs,rfl,hsc,hscm,-⟩:=hs;unfold maxLen at hscm;have HG:=q_h h;obtain⟨q,hq⟩:=qf (zh G);obtain⟨q2,hq2⟩:=qf (q2Q S n);have HR0:Hid (r=if q≠0 then q else if 64 < n then 3 else if q2≠0 then q2 else if 1<=W/\1<=H/\W<=64/\H<=64 then 0 else 2):=by rw [Hid,hr.out,hq.out,hq2.out]; rfl
 clear h hr;go_enter Tryz.func35,Tryz.ntmps35;go_wp2_with (go_at_call 49; refine q_o ?_);refine qM ?_;intro W0 hE hsz B0;refine (Ym (HG.out.ext hE)).mono ?_;rw [<-hq.out];rintro e w1 ⟨rfl,e1⟩;replace hE:=hE.trans e1;replace B0:=e1.block B0
 by_cases h0:q=0
 case neg =>
  have t0:(q != 0)=true:=by simpa using h0
  have HR:Hid (q=r):=by rw [Hid,HR0.out,if_pos h0]
  have HNZ:Hid (q≠0):=h0;clear h0 hq B0;go_wp2;go_ret2;rw [<-HR.out];exact⟨_,rfl,fun _=>rfl,fun h=>absurd h HNZ.out,hE⟩
 have t0:(q != 0)=false:=by simpa using h0
 have HGC:Hid (zh G=0):=by rw [Hid,<-hq.out]; exact h0
 have HR1:Hid (r=if 64 < n then 3 else if q2≠0 then q2 else if 1<=W/\1<=H/\W<=64/\H<=64 then 0 else 2):=by rw [Hid,HR0.out,if_neg (by simpa using h0)]
 clear h0 hq HR0
 by_cases h1:64 < n
 case pos =>
  have t1:decide (64 < (n:Int))=true:=q_t (by omega);have HR:Hid (3=r):=by rw [Hid,HR1.out,if_pos h1]
  have HNZ:Hid ((3:Int)≠0):=by rw [Hid]; decide
  clear h1 HR1 B0;go_wp2;go_ret2;rw [<-HR.out];exact⟨_,rfl,fun _=>rfl,fun h=>absurd h HNZ.out,hE⟩
 have t1:decide (64 < (n:Int))=false:=q_f (by omega);have HR2:Hid (r=if q2≠0 then q2 else if 1<=W/\1<=H/\W<=64/\H<=64 then 0 else 2):=by rw [Hid,HR1.out,if_neg h1]
 have hn64:n<=64:=by omega
 clear h1 HR1;go_wp2_with (go_at_call 85; refine q_o ?_);refine (q1c (HST.out.ext hE)).mono ?_;rw [<-hq2.out];rintro e w2 ⟨rfl,e2⟩;replace hE:=hE.trans e2;replace B0:=e2.block B0
 by_cases h2:q2=0
 case neg =>
  have t2:(q2 != 0)=true:=by simpa using h2
  have HR:Hid (q2=r):=by rw [Hid,HR2.out,if_pos h2]
  have HNZ:Hid (q2≠0):=h2;clear h2 HR2 hq2 B0;go_wp2;go_ret2;rw [<-HR.out];exact⟨_,rfl,fun _=>rfl,fun h=>absurd h HNZ.out,hE⟩
 have t2:(q2 != 0)=false:=by simpa using h2
 have HOK:Hid (∀ i,i < n->ZK (S i)):=fun i hi=>yu (zu (by rw [<-hq2.out]; exact h2) i hi)
 have HR3:Hid (r=if 1<=W/\1<=H/\W<=64/\H<=64 then 0 else 2):=by rw [Hid,HR2.out,if_neg (by simpa using h2)]
 clear h2 hq2 HR2;obtain⟨tf,htf⟩:=qf (!decide (1<=W/\1<=H/\W<=64/\H<=64));obtain⟨w3,hwx⟩:∃ w3,w3=w2:=⟨_,rfl⟩
 subst hwx;go_upto_region 9 with (fail)
 go_cut [37] (fun sv wx=>sv=.bool tf/\wx=w3)
 case first =>
  rcases Int.lt_trichotomy W H with hwh | hwh | hwh
  ·have x1:W<=H:=by omega
   have x2:¬ H<=W:=by omega
   have m1:min W H=W:=Int.min_eq_left x1;have m2:max W H=H:=Int.max_eq_right x1
   by_cases k1:W < 1
   ·have HT:Hid (true=tf):=by rw [Hid,htf.out,q_f (by omega)]; rfl
    have d1:decide (W < 1)=true:=decide_eq_true k1;clear k1;go_wp2_with fail
    go_meet
    exact⟨by rw [<-HT.out],rfl⟩
   ·by_cases k2:64 < H
    ·have HT:Hid (true=tf):=by rw [Hid,htf.out,q_f (by omega)]; rfl
     have d1:decide (W < 1)=false:=decide_eq_false k1;have d2:decide (64 < H)=true:=decide_eq_true k2;clear k1 k2;go_wp2_with fail
     go_meet
     exact⟨by rw [<-HT.out],rfl⟩
    ·have HT:Hid (false=tf):=by rw [Hid,htf.out,q_t (by omega)]; rfl
     have d1:decide (W < 1)=false:=decide_eq_false k1;have d2:decide (64 < H)=false:=decide_eq_false k2;clear k1 k2;go_wp2_with fail
     go_meet
     exact⟨by rw [<-HT.out],rfl⟩
  ·have x1:W<=H:=by omega
   have x2:H<=W:=by omega
   subst hwh;have m1:min W W=W:=Int.min_self W;have m2:max W W=W:=Int.max_self W
   by_cases k1:W < 1
   ·have HT:Hid (true=tf):=by rw [Hid,htf.out,q_f (by omega)]; rfl
    have d1:decide (W < 1)=true:=decide_eq_true k1;clear k1;go_wp2_with fail
    go_meet
    exact⟨by rw [<-HT.out],rfl⟩
   ·by_cases k2:64 < W
    ·have HT:Hid (true=tf):=by rw [Hid,htf.out,q_f (by omega)]; rfl
     have d1:decide (W < 1)=false:=decide_eq_false k1;have d2:decide (64 < W)=true:=decide_eq_true k2;clear k1 k2;go_wp2_with fail
     go_meet
     exact⟨by rw [<-HT.out],rfl⟩
    ·have HT:Hid (false=tf):=by rw [Hid,htf.out,q_t (by omega)]; rfl
     have d1:decide (W < 1)=false:=decide_eq_false k1;have d2:decide (64 < W)=false:=decide_eq_false k2;clear k1 k2;go_wp2_with fail
     go_meet
     exact⟨by rw [<-HT.out],rfl⟩
  ·have x1:H<=W:=by omega
   have x2:¬ W<=H:=by omega
   have m1:min W H=H:=Int.min_eq_right x1;have m2:max W H=W:=Int.max_eq_left x1
   by_cases k1:H < 1
   ·have HT:Hid (true=tf):=by rw [Hid,htf.out,q_f (by omega)]; rfl
    have d1:decide (H < 1)=true:=decide_eq_true k1;clear k1;go_wp2_with fail
    go_meet
    exact⟨by rw [<-HT.out],rfl⟩
   ·by_cases k2:64 < W
    ·have HT:Hid (true=tf):=by rw [Hid,htf.out,q_f (by omega)]; rfl
     have d1:decide (H < 1)=false:=decide_eq_false k1;have d2:decide (64 < W)=true:=decide_eq_true k2;clear k1 k2;go_wp2_with fail
     go_meet
     exact⟨by rw [<-HT.out],rfl⟩
    ·have HT:Hid (false=tf):=by rw [Hid,htf.out,q_t (by omega)]; rfl
     have d1:decide (H < 1)=false:=decide_eq_false k1;have d2:decide (64 < W)=false:=decide_eq_false k2;clear k1 k2;go_wp2_with fail
     go_meet
     exact⟨by rw [<-HT.out],rfl⟩
 obtain⟨rfl,rfl⟩:=hcut;obtain⟨w3,hwx⟩:∃ w3,w3=wc:=⟨_,rfl⟩
 subst hwx;cases tf with
 | true =>
  have HR:Hid (2=r):=by
   have h9:¬ (1<=W/\1<=H/\W<=64/\H<=64):=by
    have:=htf.out;intro h9;rw [q_t h9] at this;cases this
   rw [Hid,HR3.out,if_neg h9]
  have HNZ:Hid ((2:Int)≠0):=by rw [Hid]; decide
  clear htf HR3 B0 e1 e2;go_wp2;go_ret2;rw [<-HR.out];exact⟨_,rfl,fun _=>rfl,fun h=>absurd h HNZ.out,hE⟩
 | false =>
 have HWH:Hid (1<=W/\1<=H/\W<=64/\H<=64):=by
  have:=htf.out;rw [Hid];cases h9:decide (1<=W/\1<=H/\W<=64/\H<=64) with
  | true=>exact of_decide_eq_true h9
  | false=>rw [h9] at this; cases this
 have HR:Hid (0=r):=by rw [Hid,HR3.out,if_pos HWH.out]
 have HGO:=q3c HGC.out
 have hn4:G.n<=4096:=by
  have g2:=HGO.w1;have g4:=HGO.h1;have g1:=HGO.w0;have g3:=HGO.h0;have h3:G.wd*G.ht<=64*64:=Int.mul_le_mul g2 g4 (by omega) (by omega);have:=HGO.n;omega
 obtain⟨a0,a1,a2,a3,a4,a5⟩:=qG B0;have HGO':=q_h HGO;clear htf HR3 e1 e2 HGO HGC;go_wp2_with (go_at_call 86; refine q_o ?_);refine (q4T (HG.out.ext hE) HGO'.out (HST.out.ext hE) HOK.out W H HWH.out.2.2.1 HWH.out.2.2.2 (by have:=hE.size; omega)).mono ?_;rintro e w4 ⟨A4,c4,rfl,hg4,e4⟩;have HG4:=q_h hg4;have hE4:=hE.trans e4;clear a0 a1 a2 a3 a4 a5 B0 hE e4 hg4 HGO';obtain⟨z,hz⟩:=qf (q5x G S n W H);rw [<-hz.out];go_wp2_with fail
 go_loopw [44,12] (fun kv lv wr=>∃ k:Nat,k<=G.n/\kv=.int .i64 (k:Int)/\zY 3 w4.heap.size wr lv (izL z k)/\Ext w4 wr) (fun kv _ _=>G.n - (intOf kv).toNat)
 case atStart=>exact⟨0,Nat.zero_le _,rfl,zY.nil (q_r),Ext.refl _⟩
 case round =>
  obtain⟨k,hk,rfl,HG1,hE1⟩:=hrel;obtain⟨A1,c1,rfl,-⟩:=HG1.form;have hl1:(izL z k).length=k:=Kz z k;rw [hl1] at HG1 ⊢
  by_cases hlt:k < G.n
  case neg =>
   have hke:k=G.n:=by omega
   have HG9:Hid (zY 3 w4.heap.size wr (.slice A1 G.n c1) (izL z G.n)):=by rw [Hid,<-hke]; exact HG1
   have t1:decide ((k:Int) < (G.n:Int))=false:=q_f (by omega);rw [hke] at t1 ⊢;clear hke hlt HG1 hl1;go_wp2;refine bodyPost_ret (v:=.tuple #[.slice A1 G.n c1,.int .i64 0]) (by simp [results,Tryz.results35,go_sem]) rfl ?_;rw [<-HR.out];exact⟨_,rfl,fun h=>absurd rfl h,fun _=>⟨A1,c1,rfl,by first | exact HG9.out.low hE4.size | (rw [<-hz.out]; exact HG9.out.low hE4.size)⟩,hE4.trans hE1⟩
  have t1:decide ((k:Int) < (G.n:Int))=true:=q_t (by omega);have HG1':=q_h HG1;obtain⟨C,hC⟩:=qf (q1t G S n W H k);have HZK:Hid (z k=C.best):=by rw [Hid,hz.out,hC.out]; rfl
  obtain⟨gq,hA4,hcell⟩:=(HG4.out.ext hE1).cell (yx G S n W H hlt);subst hA4;rw [<-hC.out] at hcell;have x0:wr.cell? ⟨gq,k*3,none⟩=some (.int .i64 C.best):=hcell 0 (by omega);have x1:wr.cell? ⟨gq,k*3+1,none⟩=some (.int .i64 C.u):=hcell 1 (by omega);have x2:wr.cell? ⟨gq,k*3+2,none⟩=some (.int .i64 C.v):=hcell 2 (by omega);obtain⟨Cb,hCb⟩:=qf C.best;rw [<-hCb.out] at x0 HZK;clear HG1 hcell hC hCb;go_upto_region 15 with (fail);refine ql ?_;intro w5 e5 hsz5 B5;clear x0 x1 x2;obtain⟨x0,x1,x2⟩:=cells3 B5;have hxl:(izL z k).length+1<=1000000000:=by omega
  have HLL:=q_h hl1;obtain⟨L,hL⟩:=qf (izL z k);have HNX:Hid (L ++ [.int .i64 Cb]=izL z (k+1)):=by rw [Hid,hL.out,YR,HZK.out]
  rw [<-hL.out] at HG1' HLL hxl;clear hl1 hL HZK;go_wp2_with (at_builtin; refine q_o ?_);refine ql ?_;intro w6 e6 hsz6 B6;refine kX QP rfl _ _ 22 Tryz.underlying22 rfl rfl ((HG1'.out.ext e5).ext e6) (m:=1) (c:=1) (news:=[.int .i64 Cb]) (by rfl) rfl (QO B6) (fun u hu=>by rw [List.mem_singleton.1 hu]; rfl) (by omega) hxl ?_;rintro g' cap w7 hG7 - ⟨g9,hlo,-,C7,-⟩;rw [HLL.out] at hG7 ⊢;rw [HNX.out] at hG7;have HG7:=q_h hG7;have hE7:=C7.ext ((hE1.trans e5).trans e6) hlo;clear hG7 C7 B6 B5 x0 x1 x2 HNX HLL;go_wp2;go_roundw
  case rel=>exact⟨k+1,by omega,by go_num,HG7.out,hE7⟩
  case measure=>simp [intOf]; omega
theorem ImV.ext {I:Nat->Ras} (h:ImV w v m I) (e:Ext w w'):ImV w' v m I:=by
 obtain⟨A,c,hv,h1,h2,h3⟩:=h;refine⟨A,c,hv,h1,h2,fun h0=>?_⟩;obtain⟨b,off,hA,hc⟩:=h3 h0;exact⟨b,off,hA,fun i hi=>(hc i hi).ext e⟩
theorem ImV.nil (w:World) (I:Nat->Ras):ImV w (.slice none 0 0) 0 I:=⟨none,0,rfl,q_r,Nat.zero_le _,fun h=>absurd h (by omega)⟩
theorem x8 {z:Nat->Int} (h:zY 3 base w (.slice A n c) (izL z n)):IzV N lo hi w (.slice A n c) n z:=by
 have hl:(izL z n).length=n:=Kz z n
 by_cases hn:n=0
 ·subst hn;obtain⟨A',c',hv,hc'⟩:=h.form;injection hv with e1 e2 e3
  subst e1 e3
  rcases h.2.2 with ⟨hv,-⟩ | ⟨g,cap,cur,hv,-,-,h1,h2,-⟩
  ·injection hv with e1 e2 e3
   subst e1 e3;exact⟨rfl,_,_,rfl,Nat.zero_le _,Nat.zero_le _,fun h=>absurd h (by omega)⟩
  ·injection hv with e1 e2 e3
   subst e1 e3;exact⟨rfl,_,_,rfl,Nat.zero_le _,h2,fun h=>absurd h (by omega)⟩
 ·obtain⟨g,cap,hv,-,-,hcm,hle,-,hx⟩:=h.at_ (by omega);injection hv with e1 e2 e3
  subst e1 e3;refine⟨rfl,_,_,rfl,by omega,hcm,fun _=>⟨g,0,rfl,fun i hi=>?_⟩⟩;have:=hx i (by omega);rw [Nat.zero_add,this]
  congr 1
  show (izL z n)[i]'_=_
  unfold izL
  simp
theorem wo {S:Nat->Sta} {W H:Int} (h:zh G≠0):yl G S n W H=zh G:=by unfold yl; rw [if_pos h]
theorem yz {S:Nat->Sta} {W H:Int} (h:zh G=0) (h1:n<=3) (h2:q2Q S n≠0):yl G S n W H=q2Q S n:=by unfold yl; rw [if_neg (by simpa using h),if_neg (by omega),if_pos h2]
theorem vz {S:Nat->Sta} {W H:Int} (h:zh G=0) (h1:n<=3) (h2:q2Q S n=0):yl G S n W H=if 1<=W/\1<=H/\W<=64/\H<=64 then 0 else 2:=by unfold yl; rw [if_neg (by simpa using h),if_neg (by omega),if_neg (by simpa using h2)]
theorem x9 (G:Grd) (R:Nat->Raw):q2j G 0 R=decide (G.n<=30):=by
 unfold q2j;rw [show allB 0 (fun i=>Qg (R i))=true from xB.2 (fun i hi=>absurd hi (by omega)),Bool.and_true]
theorem zx (G:Grd) (R:Nat->Raw):q3l G 0 R=zh G:=by
 unfold q3l;rw [show allB 0 (fun i=>okR (R i))=true from xB.2 (fun i hi=>absurd hi (by omega))]
 by_cases h:zh G=0
 ·rw [if_neg (by simpa using h),h]; rfl
 ·rw [if_pos h]
theorem kF (hN:N<=w.heap.size) (R:Nat->Raw):LsR N 0 w.heap.size w (.slice none 0 0) 0 R:=⟨hN,q_r,none,0,rfl,q_r,Nat.zero_le _,fun h=>absurd h (by omega)⟩
theorem zt {vg vs:Value} {S:Nat->Sta} (h:yg N lo hi w vg G) (hs:StsV w vs n S) (a b:Int) (hN:N<=w.heap.size) :
  Calls Tryz.prog 8 #[vg,vs,.agg #[.int .i64 a,.int .i64 b]] w (zX w (.bool true)):=by
 obtain⟨A,c,rfl,-,-,-⟩:=h.parts;have HST:=q_h hs;obtain⟨As,cs,rfl,hsc,hscm,-⟩:=hs;unfold maxLen at hscm;have HG:=q_h h;clear h;go_enter Tryz.func8,Tryz.ntmps8;go_upto_region 1 with (fail);refine kE ?_;intro W0 hE hsz B0 B1;go_wp2_with (go_at_call 10; refine q_o ?_);refine (q54).mono ?_;rintro e w1 ⟨rfl,e1⟩;replace hE:=hE.trans e1;replace B0:=e1.block B0;replace B1:=e1.block B1;have hN1:N<=w1.heap.size:=by have:=hE.size; omega
 clear e1;obtain⟨a0,a1,a2,a3,a4,a5⟩:=qG B0;obtain⟨x0,x1,-⟩:=cells2 B1;obtain⟨tf,htf⟩:=qf (decide (¬ G.n<=30\/3 < n\/(12 < a/\a<=64)\/(12 < b/\b<=64)));go_upto_region 3 with (fail)
 go_cut [41] (fun sv wx=>sv=.bool tf/\Ext w1 wx)
 case first =>
  go_wp2_with (go_at_call 11; refine q_o ?_);refine (l49_few (HG.out.ext hE) (kF hN1 (fun _=>raw 0))).mono ?_;rw [x9];obtain⟨fw,hfw⟩:=qf (decide (G.n<=30));rw [<-hfw.out];rintro e w2 ⟨rfl,e2⟩;replace B1:=e2.block B1;clear a0 a1 a2 a3 a4 a5 x0 x1;obtain⟨x0,x1,-⟩:=cells2 B1;cases fw with
  | false =>
   have HT:Hid (true=tf):=by rw [Hid,htf.out]; exact (q_t (.inl (of_decide_eq_false hfw.out.symm))).symm
   clear hfw;go_wp2_with fail
   go_meet
   exact⟨by rw [<-HT.out],e2⟩
  | true =>
  have HFW:Hid (G.n<=30):=by
   have h9:G.n<=30:=of_decide_eq_true hfw.out.symm;exact h9
  clear hfw
  by_cases hn3:3 < n
  ·have t3:decide (3 < (n:Int))=true:=q_t (by omega);have t3':(3:Int) < (n:Int):=by omega
   have HT:Hid (true=tf):=by rw [Hid,htf.out]; exact (q_t (.inr (.inl hn3))).symm
   go_wp2_with fail
   go_meet
   exact⟨by rw [<-HT.out],e2⟩
  have t3:decide (3 < (n:Int))=false:=q_f (by omega);have t3':¬ (3:Int) < (n:Int):=by omega
  by_cases k1:12 < a
  ·have d1:decide (12 < a)=true:=decide_eq_true k1
   by_cases k2:a<=64
   ·have d2:decide (a<=64)=true:=decide_eq_true k2;have HT:Hid (true=tf):=by rw [Hid,htf.out]; exact (q_t (.inr (.inr (.inl ⟨k1,k2⟩)))).symm
    clear k1 k2;go_wp2_with fail
    go_meet
    exact⟨by rw [<-HT.out],e2⟩
   ·have d2:decide (a<=64)=false:=decide_eq_false k2;have HNA:Hid (¬ (12 < a/\a<=64)):=fun h=>k2 h.2
    clear k1 k2
    by_cases k3:12 < b
    ·have d3:decide (12 < b)=true:=decide_eq_true k3
     by_cases k4:b<=64
     ·have d4:decide (b<=64)=true:=decide_eq_true k4;have HT:Hid (true=tf):=by rw [Hid,htf.out]; exact (q_t (.inr (.inr (.inr ⟨k3,k4⟩)))).symm
      clear k3 k4;go_wp2_with fail
      go_meet
      exact⟨by rw [<-HT.out],e2⟩
     ·have d4:decide (b<=64)=false:=decide_eq_false k4;have HT:Hid (false=tf):=by rw [Hid,htf.out]; exact (q_f (fun h=>h.elim (fun h=>h HFW.out) (fun h=>h.elim (fun h=>hn3 h) (fun h=>h.elim HNA.out (fun h=>k4 h.2))))).symm
      clear k3 k4;go_wp2_with fail
      go_meet
      exact⟨by rw [<-HT.out],e2⟩
    ·have d3:decide (12 < b)=false:=decide_eq_false k3;have HT:Hid (false=tf):=by rw [Hid,htf.out]; exact (q_f (fun h=>h.elim (fun h=>h HFW.out) (fun h=>h.elim (fun h=>hn3 h) (fun h=>h.elim HNA.out (fun h=>k3 h.1))))).symm
     clear k3;go_wp2_with fail
     go_meet
     exact⟨by rw [<-HT.out],e2⟩
  ·have d1:decide (12 < a)=false:=decide_eq_false k1;have HNA:Hid (¬ (12 < a/\a<=64)):=fun h=>k1 h.1
   clear k1
   by_cases k3:12 < b
   ·have d3:decide (12 < b)=true:=decide_eq_true k3
    by_cases k4:b<=64
    ·have d4:decide (b<=64)=true:=decide_eq_true k4;have HT:Hid (true=tf):=by rw [Hid,htf.out]; exact (q_t (.inr (.inr (.inr ⟨k3,k4⟩)))).symm
     clear k3 k4;go_wp2_with fail
     go_meet
     exact⟨by rw [<-HT.out],e2⟩
    ·have d4:decide (b<=64)=false:=decide_eq_false k4;have HT:Hid (false=tf):=by rw [Hid,htf.out]; exact (q_f (fun h=>h.elim (fun h=>h HFW.out) (fun h=>h.elim (fun h=>hn3 h) (fun h=>h.elim HNA.out (fun h=>k4 h.2))))).symm
     clear k3 k4;go_wp2_with fail
     go_meet
     exact⟨by rw [<-HT.out],e2⟩
   ·have d3:decide (12 < b)=false:=decide_eq_false k3;have HT:Hid (false=tf):=by rw [Hid,htf.out]; exact (q_f (fun h=>h.elim (fun h=>h HFW.out) (fun h=>h.elim (fun h=>hn3 h) (fun h=>h.elim HNA.out (fun h=>k3 h.1))))).symm
    clear k3;go_wp2_with fail
    go_meet
    exact⟨by rw [<-HT.out],e2⟩
 obtain⟨rfl,e2⟩:=hcut;obtain⟨w3,hwx⟩:∃ w3,w3=wc:=⟨_,rfl⟩
 subst hwx;replace hE:=hE.trans e2;replace B0:=e2.block B0;replace B1:=e2.block B1;clear a0 a1 a2 a3 a4 a5 x0 x1 e2 hN1;cases tf with
 | true =>
  clear htf B0 B1;go_wp2;go_ret;exact⟨rfl,hE⟩
 | false =>
 have hn3':n<=3:=by
  have h9:¬ (¬ G.n<=30\/3 < n\/(12 < a/\a<=64)\/(12 < b/\b<=64)):=of_decide_eq_false htf.out.symm;omega
 clear htf;obtain⟨x0,x1,-⟩:=cells2 B1;obtain⟨a0,a1,a2,a3,a4,a5⟩:=qG B0;obtain⟨r,hr⟩:=qf (yl G S n a b);go_wp2_with (go_at_call 35; refine q_o ?_);refine (kz (HG.out.ext hE) (HST.out.ext hE) a b (by have:=hE.size; omega)).mono ?_;rw [<-hr.out];rintro e w4 ⟨v4,rfl,hv0,hv1,e4⟩;have HV0:=q_h hv0;have HV1:=q_h hv1;have E34:=e4;replace hE:=hE.trans e4;replace B0:=e4.block B0;replace B1:=e4.block B1;clear x0 x1 a0 a1 a2 a3 a4 a5 e4 hv0 hv1;obtain⟨x0,x1,-⟩:=cells2 B1;obtain⟨a0,a1,a2,a3,a4,a5⟩:=qG B0;obtain⟨q,hq⟩:=qf (zh G);obtain⟨q2,hq2⟩:=qf (q2Q S n);go_wp2_with (go_at_call 13; refine q_o ?_);refine (l49_code (HG.out.ext hE) (kF (N:=N) (by have:=hE.size; omega) (fun _=>raw 0)) (fun i hi=>absurd hi (by omega))).mono ?_;rw [zx,<-hq.out];rintro e w5 ⟨rfl,e5⟩;replace hE:=hE.trans e5;replace B0:=e5.block B0;replace B1:=e5.block B1;have E35:=e5;clear x0 x1 a0 a1 a2 a3 a4 a5 e5
 by_cases h0:q=0
 case neg =>
  obtain rfl:q=r:=by rw [hr.out,wo (by rw [<-hq.out]; exact h0)]; exact hq.out
  obtain rfl:=HV0.out h0;have t0:(q == 0)=false:=by simpa using h0
  have t1:(q != 0)=true:=by simpa using h0
  have t2:(q == q)=true:=by simp
  clear h0 HV0 HV1 hq hr B0 B1;go_wp2;go_ret;exact⟨rfl,hE⟩
 have hgc:zh G=0:=by rw [<-hq.out]; exact h0
 have HGC:=q_h hgc;subst h0;clear hq hgc;go_wp2_with (go_at_call 36; refine q_o ?_);refine (q36 (HST.out.ext hE)).mono ?_;rw [show stsL S n=q2 by unfold stsL; rw [if_neg (by omega),hq2.out]];rintro e w6 ⟨rfl,e6⟩;replace hE:=hE.trans e6;replace B0:=e6.block B0;replace B1:=e6.block B1;replace E35:=E35.trans e6;clear e6;obtain⟨x0,x1,-⟩:=cells2 B1
 by_cases h2:q2=0
 case neg =>
  obtain rfl:q2=r:=by rw [hr.out,yz HGC.out hn3' (by rw [<-hq2.out]; exact h2)]; exact hq2.out
  obtain rfl:=HV0.out h2;have t0:(q2 == 0)=false:=by simpa using h2
  have t1:(q2 != 0)=true:=by simpa using h2
  have t2:(q2 == q2)=true:=by simp
  clear h2 HV0 HV1 hq2 hr B0 B1;go_wp2;go_ret;exact⟨rfl,hE⟩
 have hsc0:q2Q S n=0:=by rw [<-hq2.out]; exact h2
 have HOK:Hid (∀ i,i < n->ZK (S i)):=fun i hi=>yu (zu hsc0 i hi)
 have HRR:Hid (r=if 1<=a/\1<=b/\a<=64/\b<=64 then 0 else 2):=by rw [Hid,hr.out,vz HGC.out hn3' hsc0]
 subst h2;clear hq2 hsc0 hr;obtain⟨tf,htf⟩:=qf (!decide (1<=a/\1<=b/\a<=64/\b<=64));obtain⟨w7,hwx⟩:∃ w7,w7=w6:=⟨_,rfl⟩
 subst hwx;go_upto_region 9 with (fail)
 go_cut [79] (fun sv wx=>sv=.bool tf/\wx=w7)
 case first =>
  by_cases k1:a < 1
  ·have HT:Hid (true=tf):=by rw [Hid,htf.out,q_f (by omega)]; rfl
   have d1:decide (a < 1)=true:=decide_eq_true k1;clear k1;go_wp2_with fail
   go_meet
   exact⟨by rw [<-HT.out],rfl⟩
  have d1:decide (a < 1)=false:=decide_eq_false k1
  by_cases k2:64 < a
  ·have HT:Hid (true=tf):=by rw [Hid,htf.out,q_f (by omega)]; rfl
   have d2:decide (64 < a)=true:=decide_eq_true k2;clear k1 k2;go_wp2_with fail
   go_meet
   exact⟨by rw [<-HT.out],rfl⟩
  have d2:decide (64 < a)=false:=decide_eq_false k2
  by_cases k3:b < 1
  ·have HT:Hid (true=tf):=by rw [Hid,htf.out,q_f (by omega)]; rfl
   have d3:decide (b < 1)=true:=decide_eq_true k3;clear k1 k2 k3;go_wp2_with fail
   go_meet
   exact⟨by rw [<-HT.out],rfl⟩
  have d3:decide (b < 1)=false:=decide_eq_false k3
  by_cases k4:64 < b
  ·have HT:Hid (true=tf):=by rw [Hid,htf.out,q_f (by omega)]; rfl
   have d4:decide (64 < b)=true:=decide_eq_true k4;clear k1 k2 k3 k4;go_wp2_with fail
   go_meet
   exact⟨by rw [<-HT.out],rfl⟩
  have d4:decide (64 < b)=false:=decide_eq_false k4;have HT:Hid (false=tf):=by rw [Hid,htf.out,q_t (by omega)]; rfl
  clear k1 k2 k3 k4;go_wp2_with fail
  go_meet
  exact⟨by rw [<-HT.out],rfl⟩
 obtain⟨rfl,rfl⟩:=hcut;obtain⟨w8,hwx⟩:∃ w8,w8=wc:=⟨_,rfl⟩
 subst hwx;cases tf with
 | true =>
  obtain rfl:2=r:=by
   have h9:¬ (1<=a/\1<=b/\a<=64/\b<=64):=by
    have:=htf.out;intro h9;rw [q_t h9] at this;cases this
   rw [HRR.out,if_neg h9]
  obtain rfl:=HV0.out (by decide);clear htf HRR HV0 HV1 B0 B1 x0 x1;go_wp2;go_ret;exact⟨rfl,hE⟩
 | false =>
 have hab:1<=a/\1<=b/\a<=64/\b<=64:=by
  have:=htf.out;cases h9:decide (1<=a/\1<=b/\a<=64/\b<=64) with
  | true=>exact of_decide_eq_true h9
  | false=>rw [h9] at this; cases this
 obtain rfl:0=r:=by rw [HRR.out,if_pos hab]
 obtain⟨A4,c4,rfl,hg4⟩:=HV1.out rfl;have HG4:=q_h (hg4.ext E35);have HAB:=q_h hab;have HGO:=q_h (q3c HGC.out);clear htf HRR HV0 HV1 hg4 E35 hab;obtain⟨a0,a1,a2,a3,a4,a5⟩:=qG B0;go_wp2_with (go_at_call 37; refine q_o ?_);refine (q1f (HG.out.ext hE) HGO.out (HST.out.ext hE) HOK.out (ImV.nil _ (fun _=>⟨0,0,0,0,fun _=>0⟩)) a b (fun i hi=>absurd hi (by omega)) (by have:=HAB.out; omega) (by have:=HAB.out; omega) HAB.out.2.2.1 HAB.out.2.2.2 (by have:=hE.size; omega)).mono ?_;rintro e w9 ⟨A1,c1,A2,c2,rfl,htw,e9⟩;have HEQ:=q_h (sl_eqZ (w:=w9) (x8 (N:=0) (lo:=0) (hi:=0) (HG4.out.ext e9)) (x8 (N:=0) (lo:=0) (hi:=0) htw.1));replace hE:=hE.trans e9;clear a0 a1 a2 a3 a4 a5 x0 x1 B0 B1 htw HG4 e9;go_wp2_with (go_at_call 38; refine q_o ?_);refine (HEQ.out).mono ?_;rintro e w10 ⟨rfl,e10⟩;replace hE:=hE.trans e10;clear HEQ e10;go_wp2;go_ret;exact⟨rfl,hE⟩
end Go.Proofs.YtphpkhoeplcedaaGreat
set_option maxRecDepth 100000
namespace Go.Proofs.YtphpkhoeplcedaaGreat
open Go.ChangeShapes Go.WideShapes Go.ChangeAt Go.RowKit Go.Joins
variable {w w':World} {N n lo hi k m base c:Nat} {v:Value} {G:Grd} {z:Int} {S:Sta} {A:Option Addr}
theorem zy:Tryz.prog.cellsOf 63=3:=by kernel_rfl
theorem ku:Tryz.prog.cellsOf 65=4:=by kernel_rfl
theorem y7:Tryz.prog.cellsOf 67=2:=by kernel_rfl
theorem y5:Tryz.prog.cellsOf 69=10:=by kernel_rfl
theorem jv:Tryz.prog.cellsOf 77=2:=by kernel_rfl
theorem kw:Tryz.prog.underlying 77=some (.array 2 3):=by kernel_rfl
section
variable {H:Type} {enc:TypeId×Value->H} {w:World} {spare:Nat->Bool} {held:Bool}
theorem qx {c0 c1 c2:Value} {x:DataW H×List MemPlace} (h:DataW.trod enc Tryz.prog w 0 spare held n 63 [c0,c1,c2]=some x):∃ a b c:Int,c0=.int .i64 a/\c1=.int .i64 b/\c2=.int .i64 c:=by
 obtain⟨xs,m,-,-,-,hlen,hq⟩:=DataW.trod_struct Tryz.underlying63 h
 match xs,hlen with
 | [y0,y1,y2],_ =>
  have h0:DataW.trod enc Tryz.prog w 0 spare held m 3 (List.take (Tryz.prog.cellsOf 3) (List.drop 0 [c0,c1,c2]))=some y0:=hq 0 _ rfl;have h1:DataW.trod enc Tryz.prog w 0 spare held m 3 (List.take (Tryz.prog.cellsOf 3) (List.drop 1 [c0,c1,c2]))=some y1:=hq 1 _ rfl;have h2:DataW.trod enc Tryz.prog w 0 spare held m 3 (List.take (Tryz.prog.cellsOf 3) (List.drop 2 [c0,c1,c2]))=some y2:=hq 2 _ rfl;simp only [Jb,List.drop_zero,List.take_succ_cons,List.take_zero,List.drop_succ_cons] at h0 h1 h2;obtain⟨z0,e0,-⟩:=DataW.trod_int Tryz.underlying3 h0;obtain⟨z1,e1,-⟩:=DataW.trod_int Tryz.underlying3 h1;obtain⟨z2,e2,-⟩:=DataW.trod_int Tryz.underlying3 h2;simp only [List.cons.injEq,and_true] at e0 e1 e2;exact⟨z0,z1,z2,e0,e1,e2⟩
theorem qy {c0 c1 c2 c3:Value} {x:DataW H×List MemPlace} (h:DataW.trod enc Tryz.prog w 0 spare held n 65 [c0,c1,c2,c3]=some x):∃ a b c d:Int,c0=.int .i64 a/\c1=.int .i64 b/\c2=.int .i64 c/\c3=.int .i64 d:=by
 obtain⟨xs,m,-,-,-,hlen,hq⟩:=DataW.trod_struct Tryz.underlying65 h
 match xs,hlen with
 | [y0,y1,y2,y3],_ =>
  have h0:DataW.trod enc Tryz.prog w 0 spare held m 3 (List.take (Tryz.prog.cellsOf 3) (List.drop 0 [c0,c1,c2,c3]))=some y0:=hq 0 _ rfl;have h1:DataW.trod enc Tryz.prog w 0 spare held m 3 (List.take (Tryz.prog.cellsOf 3) (List.drop 1 [c0,c1,c2,c3]))=some y1:=hq 1 _ rfl;have h2:DataW.trod enc Tryz.prog w 0 spare held m 3 (List.take (Tryz.prog.cellsOf 3) (List.drop 2 [c0,c1,c2,c3]))=some y2:=hq 2 _ rfl;have h3:DataW.trod enc Tryz.prog w 0 spare held m 3 (List.take (Tryz.prog.cellsOf 3) (List.drop 3 [c0,c1,c2,c3]))=some y3:=hq 3 _ rfl;simp only [Jb,List.drop_zero,List.take_succ_cons,List.take_zero,List.drop_succ_cons] at h0 h1 h2 h3;obtain⟨z0,e0,-⟩:=DataW.trod_int Tryz.underlying3 h0;obtain⟨z1,e1,-⟩:=DataW.trod_int Tryz.underlying3 h1;obtain⟨z2,e2,-⟩:=DataW.trod_int Tryz.underlying3 h2;obtain⟨z3,e3,-⟩:=DataW.trod_int Tryz.underlying3 h3;simp only [List.cons.injEq,and_true] at e0 e1 e2 e3;exact⟨z0,z1,z2,z3,e0,e1,e2,e3⟩
theorem zq {c0 c1:Value} {x:DataW H×List MemPlace} (h:DataW.trod enc Tryz.prog w 0 spare held n 67 [c0,c1]=some x):∃ a b:Int,c0=.int .i64 a/\c1=.int .i64 b:=by
 obtain⟨y0,y1,m,-,-,h0,h1⟩:=trod_struct2 Tryz.underlying67 h;simp only [Jb,List.drop_zero,List.take_succ_cons,List.take_zero,List.drop_succ_cons] at h0 h1;obtain⟨z0,e0,-⟩:=DataW.trod_int Tryz.underlying3 h0;obtain⟨z1,e1,-⟩:=DataW.trod_int Tryz.underlying3 h1;simp only [List.cons.injEq,and_true] at e0 e1;exact⟨z0,z1,e0,e1⟩
theorem zn {c0 c1 c2 c3 c4 c5 c6 c7 c8 c9:Value} {x:DataW H×List MemPlace} (h:DataW.trod enc Tryz.prog w 0 spare held n 69 [c0,c1,c2,c3,c4,c5,c6,c7,c8,c9]=some x) :
  ∃ S:Sta,c0=.int .i64 S.ax/\c1=.int .i64 S.ay/\c2=.int .i64 S.az/\c3=.int .i64 S.qa/\c4=.int .i64 S.qb/\c5=.int .i64 S.qc/\c6=.int .i64 S.qd/\c7=.int .i64 S.f/\c8=.int .i64 S.cx/\c9=.int .i64 S.cy:=by
 obtain⟨xs,m,-,-,-,hlen,hq⟩:=DataW.trod_struct Tryz.underlying69 h
 match xs,hlen with
 | [y0,y1,y2,y3],_ =>
  have h0:DataW.trod enc Tryz.prog w 0 spare held m 63 (List.take (Tryz.prog.cellsOf 63) (List.drop 0 [c0,c1,c2,c3,c4,c5,c6,c7,c8,c9]))=some y0:=hq 0 _ rfl;have h1:DataW.trod enc Tryz.prog w 0 spare held m 65 (List.take (Tryz.prog.cellsOf 65) (List.drop 3 [c0,c1,c2,c3,c4,c5,c6,c7,c8,c9]))=some y1:=hq 1 _ rfl;have h2:DataW.trod enc Tryz.prog w 0 spare held m 3 (List.take (Tryz.prog.cellsOf 3) (List.drop 7 [c0,c1,c2,c3,c4,c5,c6,c7,c8,c9]))=some y2:=hq 2 _ rfl;have h3:DataW.trod enc Tryz.prog w 0 spare held m 67 (List.take (Tryz.prog.cellsOf 67) (List.drop 8 [c0,c1,c2,c3,c4,c5,c6,c7,c8,c9]))=some y3:=hq 3 _ rfl;simp only [Jb,zy,ku,y7,List.drop_zero,List.take_succ_cons,List.take_zero,List.drop_succ_cons] at h0 h1 h2 h3;obtain⟨z0,z1,z2,e0,e1,e2⟩:=qx h0;obtain⟨z3,z4,z5,z6,e3,e4,e5,e6⟩:=qy h1;obtain⟨z7,e7,-⟩:=DataW.trod_int Tryz.underlying3 h2;obtain⟨z8,z9,e8,e9⟩:=zq h3;simp only [List.cons.injEq,and_true] at e7;exact⟨⟨z0,z1,z2,z3,z4,z5,z6,z7,z8,z9⟩,e0,e1,e2,e3,e4,e5,e6,e7,e8,e9⟩
instance:Inhabited Sta:=⟨⟨0,0,0,0,0,0,0,0,0,0⟩⟩
theorem zl {x:DataW H×List MemPlace} (h:DataW.trod enc Tryz.prog w 0 spare held n 74 [v]=some x):∃ k S,StsV w v k S:=by
 rcases Go.Deep.open_slice Tryz.underlying74 h with ⟨hcs,-⟩ | ⟨a,len,cap,m,n',D,Pl,hcs,-,hl,hm,hmm,-,hx⟩
 ·simp only [List.cons.injEq,and_true] at hcs;subst hcs;exact⟨0,fun _=>default,_,_,rfl,q_r,Nat.zero_le _,fun h0=>absurd h0 (by omega)⟩
 ·simp only [List.cons.injEq,and_true] at hcs;subst hcs;have hlm:len<=m:=by rw [hmm]; split <;> omega
  rw [y5] at hx
  rcases Nat.eq_zero_or_pos len with hl0 | hl0
  ·subst hl0;exact⟨0,fun _=>default,_,_,rfl,hl,hm,fun h0=>absurd h0 (by omega)⟩
  obtain⟨B,O,rfl⟩:∃ B O,a=⟨B,O,none⟩:=by
   obtain⟨cs,h1,h2⟩:=hx 0 (by omega);obtain⟨-,hlen,hc⟩:=World.cells?_some h1;have k0:=hc 0 (by omega);have hz:(a.add (0*10)).add 0=a.add 0:=by rw [Go.Deep.add_add]
   rw [hz,List.getElem?_eq_getElem (by omega)] at k0;exact⟨_,_,WA a k0⟩
  have hv:∀ i,i < len->∃ S:Sta,StAt w B (O+i*10) S:=fun i hi=>by
   obtain⟨cs,h1,h2⟩:=hx i (by omega);obtain⟨-,hlen,hc⟩:=World.cells?_some h1
   match cs,hlen with
   | [c0,c1,c2,c3,c4,c5,c6,c7,c8,c9],_ =>
    obtain⟨S,e0,e1,e2,e3,e4,e5,e6,e7,e8,e9⟩:=zn h2;have k0:=hc 0 (by omega);have k1:=hc 1 (by omega);have k2:=hc 2 (by omega);have k3:=hc 3 (by omega);have k4:=hc 4 (by omega);have k5:=hc 5 (by omega);have k6:=hc 6 (by omega);have k7:=hc 7 (by omega);have k8:=hc 8 (by omega);have k9:=hc 9 (by omega);rw [q2B,q2B] at k0 k1 k2 k3 k4 k5 k6 k7 k8 k9;refine⟨S,?_,?_,?_,?_,?_,?_,?_,?_,?_,?_⟩
    ·rw [<-e0]; exact k0
    ·rw [<-e1]; exact k1
    ·rw [<-e2]; exact k2
    ·rw [<-e3]; exact k3
    ·rw [<-e4]; exact k4
    ·rw [<-e5]; exact k5
    ·rw [<-e6]; exact k6
    ·rw [<-e7]; exact k7
    ·rw [<-e8]; exact k8
    ·rw [<-e9]; exact k9
  obtain⟨f,hf⟩:=Go.Deep.choose_lt (α:=Sta) hv;exact⟨len,f,_,cap,rfl,hl,hm,fun h0=>⟨B,O,rfl,fun i hi=>hf i hi⟩⟩
theorem y9 {d:DataW H} {p:List MemPlace} (h:DataW.Trod enc Tryz.prog w 0 spare held 74 v d p) (hv:∃ A k c,v=.slice A k c):∃ k S,StsV w v k S:=by
 obtain⟨A0,k0,c0,rfl⟩:=hv;obtain⟨fuel,hf⟩:=h;exact zl hf
theorem y8 {r:Reach} {b0:Nat} {d:DataW H} {p:List MemPlace} (hv:Value.okWide Tryz.prog w r b0 77 v) (h:DataW.Trod enc Tryz.prog w 0 spare held 77 v d p):∃ a b:Int,v=.agg #[.int .i64 a,.int .i64 b]:=by
 simp only [Value.okWide,kw] at hv;obtain⟨cs,rfl,hsz,-⟩:=hv;obtain⟨fuel,hf⟩:=h;cases fuel with
 | zero=>simp [DataW.trod] at hf
 | succ f =>
  rw [DataW.trod_step] at hf;unfold DataW.trodStep at hf;simp only [kw,Value.cells] at hf;rw [jv] at hsz;obtain⟨l⟩:=cs
  match l,hsz with
  | [c0,c1],_ =>
   split at hf
   ·simp only [Option.map_eq_some_iff] at hf;obtain⟨xs,hx,-⟩:=hf;simp only [Jb,List.range,List.range.loop,List.mapM_cons,List.mapM_nil,bind,Option.bind_eq_some_iff,pure,Option.some.injEq,Nat.zero_mul,Nat.one_mul,List.drop_zero,List.take_succ_cons,List.take_zero,List.drop_succ_cons] at hx;obtain⟨y0,h0,ys,⟨y1,h1,-⟩,-⟩:=hx;obtain⟨x,e0,-⟩:=DataW.trod_int Tryz.underlying3 h0;obtain⟨y,e1,-⟩:=DataW.trod_int Tryz.underlying3 h1;simp only [List.cons.injEq,and_true] at e0 e1;exact⟨x,y,by rw [e0,e1]⟩
   ·cases hf
end
end Go.Proofs.YtphpkhoeplcedaaGreat
