import Derived.Test.YthkkknjcoidioaaGreatWb41
import Derived.Test.YthkkknjcoidioaaGreatWb38
import Derived.Test.YthkkknjcoidioaaGreatWb35
import Derived.Test.YthkkknjcoidioaaGreatWb28
import Derived.Test.YthkkknjcoidioaaGreatWb36
import Derived.Test.YthkkknjcoidioaaGreatWb25
import Derived.Deep.Slices
import Derived.Deep.Strs
import Derived.Lib.SmallJoins
import Derived.ProofKit
import Derived.OpenShut
import Derived.WalkKit
import Derived.Below
set_option linter.all false
set_option maxHeartbeats 8000000
namespace Go.Proofs.YthkkknjcoidioaaGreat
open Go.RowKit
def RetSn (N:Nat) (w:World) (n:Nat) (R:SnR) (e:Ending) (w':World):Prop :=
 ∃ vO A1 c1 A2 c2 A3 c3,e=.returned (.tuple #[vO,.agg #[.slice A1 R.m c1,.slice A2 R.m c2,.slice A3 R.m c3],.int .i64 0])∧GrowO 3 w.heap.size w' vO (nats R.out) ∧
  MtV N 0 w'.heap.size w' (.slice A1 R.m c1) R.m n R.X∧LsV N 0 w'.heap.size w' (.slice A2 R.m c2) R.m R.y∧LsV N 0 w'.heap.size w' (.slice A3 R.m c3) R.m R.p∧Ext w w'
theorem cmp_le (x y:Rat):decide ((x.num*y.den - y.num*x.den).sign≤0)=decide (x≤y):=by
 have h:=cmp_pos x y
 have h2:((x.num*y.den - y.num*x.den).sign≤0)↔x≤y:=by
  rw [←Int.not_lt,←Rat.not_lt];exact not_congr (by simpa using h)
 exact decide_eq_decide.2 h2
set_option maxRecDepth 100000 in
theorem sn_Snoop {N lo hi lo2 hi2:Nat} {w:World} {v1 v2 v3 u:Value} {m n:Nat} {X:Nat→Nat→Rat} {y p:Nat→Rat} {cr:Rat} (h1:MtV N lo hi w v1 m n X) (h2:LsV N lo2 hi2 w v2 m y) (h3:LsV N lo2 hi2 w v3 m p) (hx:RatV N w u cr) (d:Md m n X y p) (hr:Reg n (nmat X p m)) (hzd:Sz cr) :
  Calls Tryz.prog 22 #[.agg #[v1,v2,v3],u] w (RetSn N w n (snF n cr m X y p (List.range m) [])):=by
 obtain⟨RR,hRR⟩:=hid_eq (snF n cr m X y p (List.range m) []);rw [←hRR.out];obtain⟨Rf,hRf⟩:=hid_eq (RetSn N w n RR);rw [←hRf.out];have HD:=Lib.hid d;have HG:=Lib.hid hr;have hN:=h1.le;have hm0:=d.m0;have hm7:=d.m7;have hn0:=d.n0;have hn4:=d.n4;have hI1:=h1;have hI2:=h2;have hI3:=h3;obtain⟨A1,c1,rfl,hmc,hcm⟩:=h1.form;obtain⟨A2,c2,rfl,hmc2,hcm2⟩:=h2.form;obtain⟨A3,c3,rfl,hmc3,hcm3⟩:=h3.form;unfold maxLen at hcm hcm2 hcm3;clear h1 h2 h3 d hr;have HZD:=Lib.hid hzd;have hIx:=hx;obtain⟨b9,Q1,kq1,l1,Q2,kq2,l2,rfl,hb9,gx1,gx2⟩:=RatV.parts hx;clear hx hzd;go_enter Tryz.func22,Tryz.ntmps22;go_upto_region 1 with (fail);refine boxes3 ?_;intro W hE hsz B0 B1 B5;obtain⟨a0,a1,a2,-⟩:=cells3 B0;obtain⟨d0,d1,d2,d3,-⟩:=cells4 B1;go_wp2_with (go_at_call 60; refine Hid.out ?_);refine boxesC1 ?_;intro W1 f1 hsz1 BS;replace hE:=hE.trans f1;replace B0:=f1.block B0;replace B1:=f1.block B1;replace B5:=f1.block B5;refine (sn_solve (hI1.ext hE) (hI2.ext hE) (hI3.ext hE) (one_rat (by have:=hE.size; omega) BS hb9 (gx1.ext hE) (gx2.ext hE)) HD.out (fun i _=>szd_raw HZD.out) (allB_true.2 fun _ _=>okR_raw _) HG.out).mono ?_;rintro e w1 ⟨v,rfl,hS,e1⟩;replace hE:=hE.trans e1;replace B0:=e1.block B0;replace B1:=e1.block B1;replace B5:=e1.block B5;have hl5:=blk_lt B5;clear a0 a1 a2 d0 d1 d2 d3 BS f1 e1 gx1 gx2 hb9;obtain⟨A5,c5,A6,c6,A7,c7,AQ,cq,AV,cv,gq,gl0,rfl,-⟩:=hS;go_upto_region 4 with (fail)
 refine boxes1 ?_;intro w2 e2 hsz2 B7;replace hE:=hE.trans e2;replace B0:=e2.block B0;replace B1:=e2.block B1;replace B5:=e2.block B5;have hs2:=e2.size;clear e2 hsz2 B7;obtain⟨a0,a1,a2,-⟩:=cells3 B0
 go_cut [9] (fun pt wx=>∃ gt g2 cap2 g3 cap3:Nat,pt=.pointer (some ⟨gt,0,none⟩)∧w2.heap.size≤gt∧gt < wx.heap.size∧wx.heap[gt]?=some (.cells #[.slice none 0 0,.slice (some ⟨g2,0,none⟩) m cap2,.slice (some ⟨g3,0,none⟩) m cap3] 26 (0,0)) ∧
  w2.heap.size≤g2∧g2 < g3∧g3 < wx.heap.size∧gt≠g2∧gt≠g3∧m≤cap2∧cap2≤maxLen∧RowB N wx g2 cap2 m y∧m≤cap3∧cap3≤maxLen∧RowB N wx g3 cap3 m p∧Ext w2 wx)
 case first =>
  have eC:=(Ext.refl w2).drew;refine region_late (fun w'=>w'.cell? ⟨w.heap.size,1,none⟩=some (.slice A2 m c2)∧w'.cell? ⟨w.heap.size,2,none⟩=some (.slice A3 m c3)) [8] (by kernel_rfl) (by exact⟨eC.cell a1,eC.cell a2⟩) (fun hHeld=>?_);refine sP 0 (h:=?_);try simp only [nr]
  refine sT 1 (h:=?_);try simp only [nr]
  refine sP 3 (h:=?_);try simp only [nr]
  refine sT 4 (h:=?_);try simp only [nr]
  refine stepL_two (i:=2) (j:=7) rfl rfl (by kernel_rfl) (fun K hK=>?_) (fun K hK=>?_)
  ·go_simp;refine (sl_clone (hI2.ext (hE.trans eC)) hm0 (by omega)).mono ?_;rintro e w12 ⟨g2,cap2,rfl,hg2,hcm2',hnc2,hr2,e2⟩;have hl2:=hr2.lt;have hx2:=eC.size;replace eC:=eC.trans e2
   (try replace eA2:=eA2.trans e2)
   go_wp2_with fail;clear hHeld;refine hK.out _ _ (by exact⟨eC.cell a1,eC.cell a2⟩) fun hHeld=>?_
   clear hK K;try simp only [nr]
   refine stepL_two (i:=5) (j:=7) rfl rfl (by kernel_rfl) (fun K hK=>?_) (fun K hK=>?_)
   ·go_simp;refine (sl_clone (hI3.ext (hE.trans eC)) hm0 (by omega)).mono ?_;rintro e w13 ⟨g3,cap3,rfl,hg3,hcm3',hnc3,hr3,e3⟩;have hl3:=hr3.lt;have hx3:=e3.size;replace eC:=eC.trans e3;replace hr2:=hr2.ext e3
    (try replace eA2:=eA2.trans e3)
    go_wp2_with fail;clear hHeld;refine hK.out _ _ (by exact⟨eC.cell a1,eC.cell a2⟩) fun hHeld=>?_
    clear hK K;try simp only [nr]
    refine sP 6 (h:=?_);try simp only [nr]
    refine stepL_only (i:=7) rfl (by kernel_rfl) (fun K hK=>?_);go_simp
    first | refine boxes1 ?_ | refine boxesD1 ?_
    intro wA eA hszA BA;have hgl:w2.heap.size≤_:=eC.size;replace eC:Ext w2 wA:=by first | exact eC.trans eA | exact eA
    have eA2:=Ext.refl wA
    (try replace hr2:=hr2.ext eA)
    (try replace hr3:=hr3.ext eA)
    clear hHeld;refine hK.out _ _ (by exact⟨eC.cell a1,eC.cell a2⟩) fun hHeld=>?_
    clear hK K;try simp only [nr]
    refine stepL_late (i:=8) rfl (by kernel_rfl) (by kernel_rfl) (fun K hK=>?_);obtain⟨u0,u1,u2,u3,u4,u5⟩:=cells3 (eA2.block BA);go_simp;refine hK.out _ _ ?_;clear hK K;try simp only [nr]
    refine stepL_done (by kernel_rfl) ?_ _;clear hHeld;go_wp2_with fail
    go_meet
    have hD:w2.drew.heap.size=w2.heap.size:=rfl;have BT:=eA2.block BA;obtain⟨w17,E17,D17,U17⟩:=ex3 BT (.slice none 0 0) (.slice (some ⟨g2,0,none⟩) m cap2) (.slice (some ⟨g3,0,none⟩) m cap3);rw [E17];have C17:=U17.chg (NoU.mk BT (by decide));have hA9:=blk_lt BT;have hs17:=C17.size;have hN9:=hE.size;exact⟨_,g2,cap2,g3,cap3,rfl,by omega,by omega,D17,by omega,by omega,by omega,by omega,by omega,hnc2,hcm2',hr2.chg C17 (by omega) (by omega),hnc3,hcm3',hr3.chg C17 (by omega) (by omega),C17.ext eC (by omega)⟩
   ·go_simp
    first | refine boxes1 ?_ | refine boxesD1 ?_
    intro wA eA hszA BA;have hgl:w2.heap.size≤_:=eC.size;replace eC:Ext w2 wA:=by first | exact eC.trans eA | exact eA
    have eA2:=Ext.refl wA
    (try replace hr2:=hr2.ext eA)
    (try replace hr3:=hr3.ext eA)
    clear hHeld;refine hK.out _ _ (by exact⟨eC.cell a1,eC.cell a2⟩) fun hHeld=>?_
    clear hK K;try simp only [nr]
    refine stepL_only (i:=5) rfl (by kernel_rfl) (fun K hK=>?_);go_simp;refine (sl_clone (hI3.ext (hE.trans eC)) hm0 (by omega)).mono ?_;rintro e w13 ⟨g3,cap3,rfl,hg3,hcm3',hnc3,hr3,e3⟩;have hl3:=hr3.lt;have hx3:=e3.size;replace eC:=eC.trans e3;replace hr2:=hr2.ext e3
    (try replace eA2:=eA2.trans e3)
    go_wp2_with fail;clear hHeld;refine hK.out _ _ (by exact⟨eC.cell a1,eC.cell a2⟩) fun hHeld=>?_
    clear hK K;try simp only [nr]
    refine sP 6 (h:=?_);try simp only [nr]
    refine stepL_late (i:=8) rfl (by kernel_rfl) (by kernel_rfl) (fun K hK=>?_);obtain⟨u0,u1,u2,u3,u4,u5⟩:=cells3 (eA2.block BA);go_simp;refine hK.out _ _ ?_;clear hK K;try simp only [nr]
    refine stepL_done (by kernel_rfl) ?_ _;clear hHeld;go_wp2_with fail
    go_meet
    have hD:w2.drew.heap.size=w2.heap.size:=rfl;have BT:=eA2.block BA;obtain⟨w17,E17,D17,U17⟩:=ex3 BT (.slice none 0 0) (.slice (some ⟨g2,0,none⟩) m cap2) (.slice (some ⟨g3,0,none⟩) m cap3);rw [E17];have C17:=U17.chg (NoU.mk BT (by decide));have hA9:=blk_lt BT;have hs17:=C17.size;have hN9:=hE.size;exact⟨_,g2,cap2,g3,cap3,rfl,by omega,by omega,D17,by omega,by omega,by omega,by omega,by omega,hnc2,hcm2',hr2.chg C17 (by omega) (by omega),hnc3,hcm3',hr3.chg C17 (by omega) (by omega),C17.ext eC (by omega)⟩
  ·go_simp
   first | refine boxes1 ?_ | refine boxesD1 ?_
   intro wA eA hszA BA;have hgl:w2.heap.size≤_:=eC.size;replace eC:Ext w2 wA:=by first | exact eC.trans eA | exact eA
   have eA2:=Ext.refl wA
   (try replace hr2:=hr2.ext eA)
   (try replace hr3:=hr3.ext eA)
   clear hHeld;refine hK.out _ _ (by exact⟨eC.cell a1,eC.cell a2⟩) fun hHeld=>?_
   clear hK K;try simp only [nr]
   refine stepL_only (i:=2) rfl (by kernel_rfl) (fun K hK=>?_);go_simp;refine (sl_clone (hI2.ext (hE.trans eC)) hm0 (by omega)).mono ?_;rintro e w12 ⟨g2,cap2,rfl,hg2,hcm2',hnc2,hr2,e2⟩;have hl2:=hr2.lt;have hx2:=eC.size;replace eC:=eC.trans e2
   (try replace eA2:=eA2.trans e2)
   go_wp2_with fail;clear hHeld;refine hK.out _ _ (by exact⟨eC.cell a1,eC.cell a2⟩) fun hHeld=>?_
   clear hK K;try simp only [nr]
   refine stepL_only (i:=5) rfl (by kernel_rfl) (fun K hK=>?_);go_simp;refine (sl_clone (hI3.ext (hE.trans eC)) hm0 (by omega)).mono ?_;rintro e w13 ⟨g3,cap3,rfl,hg3,hcm3',hnc3,hr3,e3⟩;have hl3:=hr3.lt;have hx3:=e3.size;replace eC:=eC.trans e3;replace hr2:=hr2.ext e3
   (try replace eA2:=eA2.trans e3)
   go_wp2_with fail;clear hHeld;refine hK.out _ _ (by exact⟨eC.cell a1,eC.cell a2⟩) fun hHeld=>?_
   clear hK K;try simp only [nr]
   refine sP 6 (h:=?_);try simp only [nr]
   refine stepL_late (i:=8) rfl (by kernel_rfl) (by kernel_rfl) (fun K hK=>?_);obtain⟨u0,u1,u2,u3,u4,u5⟩:=cells3 (eA2.block BA);go_simp;refine hK.out _ _ ?_;clear hK K;try simp only [nr]
   refine stepL_done (by kernel_rfl) ?_ _;clear hHeld;go_wp2_with fail
   go_meet
   have hD:w2.drew.heap.size=w2.heap.size:=rfl;have BT:=eA2.block BA;obtain⟨w17,E17,D17,U17⟩:=ex3 BT (.slice none 0 0) (.slice (some ⟨g2,0,none⟩) m cap2) (.slice (some ⟨g3,0,none⟩) m cap3);rw [E17];have C17:=U17.chg (NoU.mk BT (by decide));have hA9:=blk_lt BT;have hs17:=C17.size;have hN9:=hE.size;exact⟨_,g2,cap2,g3,cap3,rfl,by omega,by omega,D17,by omega,by omega,by omega,by omega,by omega,hnc2,hcm2',hr2.chg C17 (by omega) (by omega),hnc3,hcm3',hr3.chg C17 (by omega) (by omega),C17.ext eC (by omega)⟩
 case rest =>
  obtain⟨gt,g2,cap2,g3,cap3,rfl,k1,k2,BT,k3,k4,k5,k6,k7,k8,k9,hr2,k10,k11,hr3,eW⟩:=hcut;obtain⟨wx,hwx⟩:∃ wx,wx=wc:=⟨_,rfl⟩
  subst hwx;have hsX:=eW.size;have hs2w:=hE.size;have hNx:N≤wx.heap.size:=by omega
  replace B0:=eW.block B0;replace B1:=eW.block B1;replace B5:=eW.block B5;have hEx:=hE.trans eW;clear a0 a1 a2 eW hE;obtain⟨a0,a1,a2,-⟩:=cells3 B0;obtain⟨i0,hi0,hz0,hz1,hz2⟩:=info_parts info_int;go_wp2_with (at_make; refine Hid.out ?_);refine wpList_make_own _ rfl _ _ 47 rfl wx.heap.size 3 i0 (.int .i64 0) 1 Tryz.underlying47 hi0 hz0 hz1 .i64 .i64 _ m rfl rfl rfl (by rw [hz2]; omega) (by unfold maxLen; omega) (Nat.le_refl _) ?_;intro w3 hown hgr;have e3:Ext wx w3:=(Ext.refl wx).grown hgr (fun k hk=>by cases hk);have hL0:GrowO 3 wx.heap.size w3 (.slice (some ⟨wx.heap.size,0,none⟩) 0 m) (nats (List.range 0)):=⟨e3.size,hown⟩
  obtain⟨gl,hgl⟩:∃ gl,gl=wx.heap.size:=⟨_,rfl⟩
  have hgl3:gl < w3.heap.size:=by
   rw [hgl];exact (hL0.own_lt _ rfl).2
  rw [←hgl] at hL0 k2 k5 ⊢;replace BT:=e3.block BT;replace hr2:=hr2.ext e3;replace hr3:=hr3.ext e3;replace B0:=e3.block B0;replace B1:=e3.block B1;replace B5:=e3.block B5;replace hEx:=hEx.trans e3;obtain⟨lo9,hlo9⟩:∃ lo9,lo9=w3.heap.size:=⟨_,rfl⟩
  have hgl9:gl < lo9:=by omega
  have hlo9':lo9≤w3.heap.size:=by omega
  have hNgl:N≤gl:=by omega
  have hb5t:w.heap.size+1+1 < gt:=by omega
  have hb52:w.heap.size+1+1 < g2:=by omega
  have hN9:N≤lo9:=by omega
  clear a0 a1 a2 hown hgr e3 hgl k1 hsX hs2w hNx hs2 k3 hlo9 hgl3;obtain⟨a0,a1,a2,-⟩:=cells3 B0;go_wp2;clear a0 a1 a2 B0
  go_loopw [42,10] (fun i vL wr=>∃ a:Nat,a≤m∧i=.int .i64 a∧vL=.slice (some ⟨gl,0,none⟩) a m∧Ext w wr∧lo9≤wr.heap.size∧(∃ v,wr.heap[gt]?=some (.cells #[v,.slice (some ⟨g2,0,none⟩) m cap2,.slice (some ⟨g3,0,none⟩) m cap3] 26 (0,0))∧GrowM N lo9 wr.heap.size wr v a n X)∧RowB N wr g2 cap2 m y∧RowB N wr g3 cap3 m p ∧
   wr.heap[w.heap.size+1]?=some (.cells #[.bool b9,.slice Q1 kq1 l1,.bool false,.slice Q2 kq2 l2] 36 (0,0))∧wr.heap[w.heap.size+1+1]?=some (.cells #[.slice none 0 0,.slice none 0 0,.slice none 0 0] 26 (0,0))∧GrowO 3 gl wr (.slice (some ⟨gl,0,none⟩) a m) (nats (List.range a))) (fun i _ _=>m - (intOf i).toNat)
  case atStart=>exact⟨0,Nat.zero_le _,rfl,rfl,hEx,hlo9',⟨_,BT,GrowM.nil hN9 hlo9' (Nat.le_refl _) _⟩,hr2,hr3,B1,B5,hL0⟩
  case round =>
   clear hr2 hr3 B1 B5 BT hEx hL0;obtain⟨a,ha,rfl,rfl,hEr,hlr,⟨v,BT,hG⟩,hr2,hr3,B1,B5,hL⟩:=hrel
   by_cases hlt:a < m
   ·obtain⟨b,off,hA,-,-,hx⟩:=(hI1.ext hEr).addr hm0;obtain⟨Ar,cr9,o0,-,hcr,hrow⟩:=hx a hlt;subst hA;obtain⟨q0,q1,q2,q3,q4,q5⟩:=cells3 BT
    obtain⟨Av,cv,rfl⟩:∃ Av cv,v=.slice Av a cv:=by
     rcases hG.2.2.2 with ⟨rfl,h0⟩ | ⟨h9,cap9,β9,κ9,rfl,-⟩
     ·exact⟨none,0,by rw [h0]⟩
     ·exact⟨_,_,rfl⟩
    clear hx;go_upto_region 9 with (fail);clear o0;have eC:=(Ext.refl wr).drew;refine region_late (fun w'=>w'.cell? ⟨gt,0,none⟩=some (.slice Av a cv)) [5,7] (by kernel_rfl) (by exact eC.cell q0) (fun hHeld=>?_);refine sP 0 (h:=?_);try simp only [nr]
    refine sT 1 (h:=?_);try simp only [nr]
    refine sP 2 (h:=?_);try simp only [nr]
    refine stepL_only (i:=3) rfl (by kernel_rfl) (fun K hK=>?_);go_simp;refine (sl_clone (hrow.ext eC) hn0 (by omega)).mono ?_;rintro e w5 ⟨g5,cap5,rfl,hg5,hcm5,hnc5,hr5,e5⟩;have hD:wr.drew.heap.size=wr.heap.size:=rfl;replace eC:=eC.trans e5;go_wp2_with fail;clear hHeld;refine hK.out _ _ (by exact eC.cell q0) fun hHeld=>?_
    clear hK K;try simp only [nr]
    refine stepL_only (i:=4) rfl (by kernel_rfl) (fun K hK=>?_);go_simp
    first | refine boxes1 ?_ | refine boxesD1 ?_
    intro w6 e6 hsz6 BX;replace eC:=eC.trans e6;replace hr5:=hr5.ext e6;have hG6:=hG.ext eC;have hr26:=hr2.ext eC;have hr36:=hr3.ext eC;have BT6:=eC.block BT;have B16:=eC.block B1;have B56:=eC.block B5;have hL6:=hL.ext eC;have hE6:=hEr.trans eC;clear hHeld;refine hK.out _ _ (by exact eC.cell q0) fun hHeld=>?_
    clear hK K;try simp only [nr]
    refine stepL_late (i:=5) rfl (by kernel_rfl) (by kernel_rfl) (fun K hK=>?_);refine step_append_row rfl _ _ 23 Tryz.underlying23 rfl (by rfl) hG6 (by rfl) hr5 (by omega) hcm5 BX (by omega) ?_;rintro h7 cap7 w7 hG7 ⟨g',hg',c7,-⟩;have hE7:=c7.ext hE6 (by omega);replace hG7:=hG7.congr (B:=X) (fun i _ j _=>by unfold updM; split; (rename_i e; subst e; rfl); rfl);have hr27:=hr26.chg c7 (by omega) (by omega);have hr37:=hr36.chg c7 (by omega) (by omega);have BT7:=c7.blk BT6 (by omega);have B17:=c7.blk B16 (by omega);have B57:=c7.blk B56 (by omega)
    have hL7:=hL6.far c7 (fun j hj=>by
     obtain rfl:gl=j:=by simpa [Value.ownBlock] using hj
     omega)
    have hs7:=c7.size;have hs6:=eC.size;refine hK.out _ _ ?_;clear hK K;try simp only [nr]
    refine sP 6 (h:=?_);try simp only [nr]
    refine stepL_late (i:=7) rfl (by kernel_rfl) (by kernel_rfl) (fun K hK=>?_);obtain⟨u0,u1,u2,u3,u4,u5⟩:=cells3 BT7;go_simp;obtain⟨w8,E8,BT8,U8⟩:=set3 BT7 (.slice (some ⟨h7,0,none⟩) (a+1) cap7);rw [E8];have C8:=U8.chg (NoU.mk BT7 (by decide));have hG8:=hG7.chg C8 (by omega) (.inr (by omega));have hr28:=hr27.chg C8 (by omega) (by omega);have hr38:=hr37.chg C8 (by omega) (by omega);have B18:=C8.blk B17 (by omega);have B58:=C8.blk B57 (by omega)
    have hL8:=hL7.far C8 (fun j hj=>by
     obtain rfl:gl=j:=by simpa [Value.ownBlock] using hj
     omega)
    have hE8:=C8.ext hE7 (by omega);have hs8:w7.heap.size≤w8.heap.size:=by have:=U8.size; omega
    refine hK.out _ _ ?_;clear hK K;try simp only [nr]
    refine stepL_done (by kernel_rfl) ?_ _;clear hHeld;clear q0 q1 q2 q3 q4 q5 u0 u1 u2 u3 u4 u5 hr2 hr3 hr26 hr36 hr27 hr37 BT BT6 BT7 B1 B16 B17 B5 B56 B57 BX hr5 hG hG6 hG7 hrow c7 C8 U8 E8 hE6 hE7 eC hEr hL hL6 hL7;go_upto_region 10 with (fail);refine wp_region_lit ?_;refine wpList_plain rfl (fun K hK=>?_);go_simp;refine hK _ _ ?_;clear hK K;try simp only [nr]
    refine wpList_plain rfl (fun K hK=>?_);go_simp;refine hK _ _ ?_;clear hK K;try simp only [nr]
    refine wpList_plain rfl (fun K hK=>?_);go_simp;refine hK _ _ ?_;clear hK K;try simp only [nr]
    refine boxes1 ?_;intro w9 e9 hsz9 BZ;have hs9:=e9.size;have hL9:=hL8.ext e9;refine wpList_append_fits _ rfl _ _ 47 rfl gl 3 i0 1 Tryz.underlying47 hi0 hz1 gl a m (nats (List.range a)) (by rfl) (by have h9:=hL9.2; rw [nats_len,List.length_range] at h9; exact h9) ⟨w8.heap.size,0,none⟩ 1 1 [.int .i64 (a:Int)] (by rfl) rfl (fun j u hj=>by rw [add_addr]; exact one_new BZ j u hj) (fun u hu=>by rw [List.mem_singleton.1 hu]; rfl) (by omega) ?_;intro w10 hown hgr;try simp only [nr]
    obtain⟨-,-,-,⟨csl,hbl,-⟩,-⟩:True∧True∧True∧(∃ cs,w9.heap[gl]?=some (.cells cs 3 (0,0))∧True)∧True:=by
     rcases hL9.2.2 with ⟨h9,-⟩ | ⟨g,cap,cur,hv,hb0,hg,-⟩
     ·cases h9
     ·injection hv with e1 e2 e3
      injection e1 with e1
      injection e1 with e1
      subst e1;exact⟨trivial,trivial,trivial,⟨_,hg,trivial⟩,trivial⟩
    have C10:Chg gl (gl+1) w9 w10:=grown_chg hgr (fun k hk=>by injection hk with hk; exact hk.symm) (NoU.mk hbl (by decide))
    have hL10:GrowO 3 gl w10 (.slice (some ⟨gl,0,none⟩) (a+1) m) (nats (List.range (a+1))):=by
     refine⟨by have:=C10.size; omega,?_⟩;rw [nats_len,List.length_range,List.range_succ,nats_app];exact hown
    have hG10:=((hG8.ext e9).chg C10 (by omega) (.inr (by omega))).wide (hi':=w10.heap.size) (by have:=C10.size; omega) (Nat.le_refl _);have hr210:=(hr28.ext e9).chg C10 (by omega) (by omega);have hr310:=(hr38.ext e9).chg C10 (by omega) (by omega);have BT10:=C10.blk (e9.block BT8) (by omega);have B110:=C10.blk (e9.block B18) (by omega);have B510:=C10.blk (e9.block B58) (by omega);have hE10:=C10.ext (hE8.trans e9) (by omega);have hs10:=C10.size;clear hG8 hr28 hr38 BT8 B18 B58 hE8 hL8 hL9 hown hgr hbl e9 C10 BZ;refine wpList_plain rfl (fun K hK=>?_);go_simp;refine hK _ _ ?_;clear hK K;try simp only [nr]
    refine wpList_nil ?_;go_wp2;go_roundw
    case rel=>exact⟨a+1,by omega,by go_num,rfl,hE10,by omega,⟨_,BT10,hG10⟩,hr210,hr310,B110,B510,hL10⟩
    case measure=>simp [intOf]; omega
   ·obtain rfl:m=a:=by omega
    obtain⟨h9,cap9,β9,κ9,rfl,hc9,ho9⟩:=hG.own hm0
    have hR0:Rst N [gt,gl,w.heap.size+1+1] wr (.slice (some ⟨h9,0,none⟩) m cap9) (.slice (some ⟨g2,0,none⟩) m cap2) (.slice (some ⟨g3,0,none⟩) m cap3) (.slice none 0 0) m n X y p:=by
     refine⟨⟨lo9,_,ho9.mtv ho9.mle hc9,fun g hg=>.inl ?_,fun k hk=>by simp [Value.ownBlock] at hk⟩,⟨g2,g2+1,hr2.lsv k8 k9 (Nat.le_refl _) (by omega) (by have:=hr2.lt; omega),fun g hg=>?_,fun k hk=>by simp [Value.ownBlock] at hk⟩,⟨g3,g3+1,hr3.lsv k10 k11 (Nat.le_refl _) (by omega) (by have:=hr3.lt; omega),fun g hg=>?_,fun k hk=>by simp [Value.ownBlock] at hk⟩⟩
     ·simp only [List.mem_cons,List.not_mem_nil,or_false] at hg
      rcases hg with rfl | rfl | rfl <;> omega
     ·simp only [List.mem_cons,List.not_mem_nil,or_false] at hg
      rcases hg with rfl | rfl | rfl <;> omega
     ·simp only [List.mem_cons,List.not_mem_nil,or_false] at hg
      rcases hg with rfl | rfl | rfl <;> omega
    have HRR:Hid (snF n cr m X y p (List.range m) []=RR):=by rw [Hid,hRR.out]
    have hO0:GrowO 3 lo9 wr (.slice none 0 0) (nats []):=GrowO.nil hlr;clear hr2 hr3 hG ho9;go_wp2
    go_loopw [10,13] (fun vL vO wr=>∃ (mm:Nat) (XX:Nat→Nat→Rat) (yy pp:Nat→Rat) (lf ot:List Nat) (E1:Option Addr) (e1:Nat) (E2:Option Addr) (e2:Nat) (E3:Option Addr) (e3:Nat),vL=.slice (some ⟨gl,0,none⟩) mm m∧lf.length=mm∧GrowO 3 gl wr (.slice (some ⟨gl,0,none⟩) mm m) (nats lf)∧GrowO 3 lo9 wr vO (nats ot)∧ot.length+mm≤7 ∧
     Rst N [gt,gl,w.heap.size+1+1] wr (.slice E1 mm e1) (.slice E2 mm e2) (.slice E3 mm e3) vO mm n XX yy pp∧wr.heap[gt]?=some (.cells #[.slice E1 mm e1,.slice E2 mm e2,.slice E3 mm e3] 26 (0,0)) ∧
     wr.heap[w.heap.size+1]?=some (.cells #[.bool b9,.slice Q1 kq1 l1,.bool false,.slice Q2 kq2 l2] 36 (0,0))∧wr.heap[w.heap.size+1+1]?=some (.cells #[.slice none 0 0,.slice none 0 0,.slice none 0 0] 26 (0,0))∧Ext w wr∧lo9≤wr.heap.size ∧
     Hid (Md mm n XX yy pp)∧Hid (Reg n (nmat XX pp mm))∧Hid (snF n cr mm XX yy pp lf ot=RR)) (fun vL _ _=>lenOf vL)
    case atStart=>exact⟨m,X,y,p,List.range m,[],_,_,_,_,_,_,rfl,by simp,hL,hO0,by simp; omega,hR0,BT,B1,B5,hEr,hlr,HD,HG,HRR⟩
    case round =>
     clear hL hO0 hR0 BT B1 B5 hEr hlr HRR;obtain⟨mm,XX,yy,pp,lf,ot,E1,f1,E2,f2,E3,f3,rfl,hlf,hL,hO,hot,hRs,BT,B1,B5,hE,hlr,HD2,HG2,HR2⟩:=hrel;have hmm0:=HD2.out.m0;have hmm7:=HD2.out.m7;obtain⟨AO,cO,rfl,hOc⟩:=hO.form;rw [nats_len] at hO hRs hOc ⊢
     by_cases h1:1 < mm
     ·obtain⟨x0,x1,x2,-⟩:=cells3 BT;have hMT:=hRs.mt;go_wp2_with (go_at_call 70; refine Hid.out ?_);refine (sn_Worst hMT.1 hMT.2.1 hMT.2.2 HD2.out HG2.out).mono ?_;rintro e w5 ⟨e5,hh⟩
      rcases hh with ⟨hneg,rfl⟩ | ⟨bb,hwb,hbm,v9,rfl,h9⟩
      ·have HRE:Hid (RR=⟨ot,mm,XX,yy,pp⟩):=by rw [Hid,←HR2.out]; exact snF_stop hmm0 (.inr (.inl hneg))
       unfold nilRat;replace hL:=hL.ext e5;replace hO:=hO.ext e5;replace hRs:=hRs.ext e5;replace BT:=e5.block BT;replace B1:=e5.block B1;replace B5:=e5.block B5;replace hE:=hE.trans e5;replace hlr:=Nat.le_trans hlr e5.size;clear HR2 x0 x1 x2 hMT hneg e5;go_upto_region 15 with (fail);refine boxes1 ?_;intro w6 e6 hsz6 B15;replace hL:=hL.ext e6;replace hO:=hO.ext e6;replace hRs:=hRs.ext e6;replace BT:=e6.block BT;replace B1:=e6.block B1;replace B5:=e6.block B5;replace hE:=hE.trans e6;replace hlr:=Nat.le_trans hlr e6.size;clear e6 hsz6 B15;go_upto_region 19 with (fail);have B5w:=B5;have hEw:=hE;obtain⟨x0,x1,x2,-⟩:=cells3 BT;refine regI [Mn.eq (.slice AO ot.length cO),Mn.eq (.agg #[.slice E1 mm f1,.slice E2 mm f2,.slice E3 mm f3]),Mn.eq (.slice AO ot.length cO),Mn.any,Mn.any] [some 94,some 95,some 4,none,some 6] [3,4] [true,true,true,false,false] 2 (by kernel_rfl) ?_ ?_
       ·show ∀ i,i < 5→_
        iterate 5 refine fs ?_ ?_
        ·exact fz
        all_goals intro hl
        all_goals first | exact absurd hl (by decide) | skip
        all_goals clear hl
        all_goals refine stp rfl ?_
        all_goals intro ac wi eI hB hA K hK
        have o13:=oOf (hB 13 (by kernel_rfl)) rfl
        rotate_left
        have o9:=oOf (hB 9 (by kernel_rfl)) rfl;have cc0:=eI.cell x0;have cc1:=eI.cell x1;have cc2:=eI.cell x2
        rotate_left
        obtain⟨_,s94,rfl⟩:=hA 0 (by kernel_rfl) 94 rfl
        rotate_left
        all_goals clear hB hA
        all_goals go_simp
        all_goals exact hK.out _ _ (Ext.refl _) rfl
       intro vals wz eZ hJ;have J95:vals 1=_:=hJ 1 (by decide) (by decide);have J4:vals 2=_:=hJ 2 (by decide) (by decide);clear hJ;simp only [pr,Nat.reduceAdd,J95,J4];clear J95 J4;replace B5w:=eZ.block B5w;replace hEw:=hEw.trans eZ;obtain⟨u0,u1,u2,u3,u4,u5⟩:=cells3 B5w;refine stepL_late (i:=3) rfl (by kernel_rfl) (by kernel_rfl) (fun K hK=>?_);go_simp;refine hK.out _ _ ?_;clear hK K;try simp only [nr]
       refine stepL_late (i:=4) rfl (by kernel_rfl) (by kernel_rfl) (fun K hK=>?_);go_simp;refine hK.out _ _ ?_;clear hK K;try simp only [nr]
       refine stepL_done (by kernel_rfl) ?_ _;obtain⟨w20,E20,D20,U20⟩:=ex3 B5w (.slice E1 mm f1) (.slice E2 mm f2) (.slice E3 mm f3);rw [E20];have C20:=U20.chg (NoU.mk B5w (by decide));have hR20:=((hRs.ext eZ).chgt (gt:=w.heap.size+1+1) (by simp) C20 (by omega)).mt;have hO20:=(hO.ext eZ).far C20 (fun j hj=>by have:=(hO.own_lt j hj).1; omega);have hE20:=C20.ext hEw (by omega);obtain⟨z0,z1,z2,-⟩:=cells3 D20;clear u0 u1 u2 u3 u4 u5 E20;go_wp2;refine bodyPost_ret (v:=.tuple #[.slice AO ot.length cO,.agg #[.slice E1 mm f1,.slice E2 mm f2,.slice E3 mm f3],.int .i64 0]) ?_ rfl ?_
       ·simp [results,z0,z1,z2,go_sem]
       ·rw [hRf.out,HRE.out];exact⟨_,E1,f1,E2,f2,E3,f3,rfl,hO20.low (by omega),hR20.1,hR20.2.1,hR20.2.2,hE20⟩
      ·obtain⟨nb,A9,n9,c9,A8,n8,c8,rfl,hnb,g9,g8⟩:=RatV.parts h9;replace hL:=hL.ext e5;replace hO:=hO.ext e5;replace hRs:=hRs.ext e5;replace BT:=e5.block BT;replace B1:=e5.block B1;replace B5:=e5.block B5;replace hE:=hE.trans e5;replace hlr:=Nat.le_trans hlr e5.size;clear x0 x1 x2 hMT e5 g9 g8;go_upto_region 15 with (fail);refine boxes1 ?_;intro w6 e6 hsz6 B15;replace hL:=hL.ext e6;replace hO:=hO.ext e6;replace hRs:=hRs.ext e6;replace BT:=e6.block BT;replace B1:=e6.block B1;replace B5:=e6.block B5;replace hE:=hE.trans e6;replace hlr:=Nat.le_trans hlr e6.size;replace h9:=h9.ext e6;obtain⟨g15,hg15⟩:∃ g15,g15=w5.heap.size:=⟨_,rfl⟩
       rw [←hg15] at B15 ⊢;clear e6 hsz6 hg15;obtain⟨r0,r1,r2,r3,-⟩:=cells4 B15;obtain⟨d0,d1,d2,d3,-⟩:=cells4 B1;go_wp2_with (go_at_call 71; refine Hid.out ?_);refine (f_compare h9 (hIx.ext hE) ((zS_ht HD2.out bb hbm).sz (by omega)) HZD.out).mono ?_;obtain⟨sg,hsg⟩:=hid_eq ((zS mm n XX yy pp bb).num*cr.den - cr.num*(zS mm n XX yy pp bb).den).sign;rw [←hsg.out];rintro e w7 ⟨rfl,e7⟩;replace hL:=hL.ext e7;replace hO:=hO.ext e7;replace hRs:=hRs.ext e7;replace BT:=e7.block BT;replace B1:=e7.block B1;replace B5:=e7.block B5;replace hE:=hE.trans e7;replace hlr:=Nat.le_trans hlr e7.size;clear e7 r0 r1 r2 r3 d0 d1 d2 d3 B15 h9
       by_cases hc:zS mm n XX yy pp bb≤cr
       ·have t2:decide (sg≤0)=true:=by rw [hsg.out,cmp_le]; exact decide_eq_true hc
        have t3:sg≤0:=of_decide_eq_true t2;have HRE:Hid (RR=⟨ot,mm,XX,yy,pp⟩):=by rw [Hid,←HR2.out]; exact snF_stop hmm0 (.inr (.inr (by rw [hwb]; exact hc)))
        clear HR2 hc hwb;go_upto_region 19 with (fail);have B5w:=B5;have hEw:=hE;obtain⟨x0,x1,x2,-⟩:=cells3 BT;refine regI [Mn.eq (.slice AO ot.length cO),Mn.eq (.agg #[.slice E1 mm f1,.slice E2 mm f2,.slice E3 mm f3]),Mn.eq (.slice AO ot.length cO),Mn.any,Mn.any] [some 94,some 95,some 4,none,some 6] [3,4] [true,true,true,false,false] 2 (by kernel_rfl) ?_ ?_
        ·show ∀ i,i < 5→_
         iterate 5 refine fs ?_ ?_
         ·exact fz
         all_goals intro hl
         all_goals first | exact absurd hl (by decide) | skip
         all_goals clear hl
         all_goals refine stp rfl ?_
         all_goals intro ac wi eI hB hA K hK
         have o13:=oOf (hB 13 (by kernel_rfl)) rfl
         rotate_left
         have o9:=oOf (hB 9 (by kernel_rfl)) rfl;have cc0:=eI.cell x0;have cc1:=eI.cell x1;have cc2:=eI.cell x2
         rotate_left
         obtain⟨_,s94,rfl⟩:=hA 0 (by kernel_rfl) 94 rfl
         rotate_left
         all_goals clear hB hA
         all_goals go_simp
         all_goals exact hK.out _ _ (Ext.refl _) rfl
        intro vals wz eZ hJ;have J95:vals 1=_:=hJ 1 (by decide) (by decide);have J4:vals 2=_:=hJ 2 (by decide) (by decide);clear hJ;simp only [pr,Nat.reduceAdd,J95,J4];clear J95 J4;replace B5w:=eZ.block B5w;replace hEw:=hEw.trans eZ;obtain⟨u0,u1,u2,u3,u4,u5⟩:=cells3 B5w;refine stepL_late (i:=3) rfl (by kernel_rfl) (by kernel_rfl) (fun K hK=>?_);go_simp;refine hK.out _ _ ?_;clear hK K;try simp only [nr]
        refine stepL_late (i:=4) rfl (by kernel_rfl) (by kernel_rfl) (fun K hK=>?_);go_simp;refine hK.out _ _ ?_;clear hK K;try simp only [nr]
        refine stepL_done (by kernel_rfl) ?_ _;obtain⟨w20,E20,D20,U20⟩:=ex3 B5w (.slice E1 mm f1) (.slice E2 mm f2) (.slice E3 mm f3);rw [E20];have C20:=U20.chg (NoU.mk B5w (by decide));have hR20:=((hRs.ext eZ).chgt (gt:=w.heap.size+1+1) (by simp) C20 (by omega)).mt;have hO20:=(hO.ext eZ).far C20 (fun j hj=>by have:=(hO.own_lt j hj).1; omega);have hE20:=C20.ext hEw (by omega);obtain⟨z0,z1,z2,-⟩:=cells3 D20;clear u0 u1 u2 u3 u4 u5 E20;go_wp2;refine bodyPost_ret (v:=.tuple #[.slice AO ot.length cO,.agg #[.slice E1 mm f1,.slice E2 mm f2,.slice E3 mm f3],.int .i64 0]) ?_ rfl ?_
        ·simp [results,z0,z1,z2,go_sem]
        ·rw [hRf.out,HRE.out];exact⟨_,E1,f1,E2,f2,E3,f3,rfl,hO20.low (by omega),hR20.1,hR20.2.1,hR20.2.2,hE20⟩
       ·have t2:decide (sg≤0)=false:=by rw [hsg.out,cmp_le]; exact decide_eq_false hc
        have t3:¬ sg≤0:=of_decide_eq_false t2
        have HR3:Hid (snF n cr (mm - 1) (fun j=>XX (skip bb j)) (fun j=>yy (skip bb j)) (fun j=>pp (skip bb j)) (lf.eraseIdx bb) (ot ++ [lf[bb]?.getD 0])=RR):=by
         rw [Hid,←HR2.out]; exact (snF_go h1 hwb (Rat.not_le.1 hc)).symm
        obtain⟨-,hd3,hr3⟩:=snF_reg HD2.out HG2.out hwb hbm;have HD3:=Lib.hid hd3;have HG3:=Lib.hid hr3;clear HR2 hc hwb hd3 hr3;obtain⟨x0,x1,x2,-⟩:=cells3 BT;have hMT:=hRs.mt;go_wp2_with (go_at_call 72; refine Hid.out ?_);refine (n_Without hMT.1 hMT.2.1 hMT.2.2 h1 (by omega) hn0 (by omega) HD2.out.pos HD2.out.hX HD2.out.hy HD2.out.hp (by omega) rfl hbm).mono ?_;rintro e w8 ⟨v8,rfl,hcut,e8⟩;obtain⟨-,-,-,⟨csl,hbl,-⟩,hone⟩:=nats_one hL hlf hmm0;have hlt7:=blk_lt BT;have hlt5:=blk_lt B5;have hlgl:=blk_lt hbl
        obtain⟨E1',f1',E2',f2',E3',f3',rfl,hRc⟩:=Rst.cut (S:=[gt,gl,w.heap.size+1+1]) (vO:=.slice AO ot.length cO) hcut (fun g hg=>by
         simp only [List.mem_cons,List.not_mem_nil,or_false] at hg
         rcases hg with rfl | rfl | rfl <;> omega) (fun k hk=>(hO.own_lt k hk).2)
        clear hcut hRs hMT x0 x1 x2 csl hbl hone;replace hL:=hL.ext e8;replace hO:=hO.ext e8;replace BT:=e8.block BT;replace B1:=e8.block B1;replace B5:=e8.block B5;replace hE:=hE.trans e8;replace hlr:=Nat.le_trans hlr e8.size;clear e8;obtain⟨x0,x1,x2,x3,x4,x5⟩:=cells3 BT;go_upto_region 17 with (fail);obtain⟨w9,E9,BT9,U9⟩:=ex3 BT (.slice E1' (mm - 1) f1') (.slice E2' (mm - 1) f2') (.slice E3' (mm - 1) f3');rw [E9];have C9:=U9.chg (NoU.mk BT (by decide));have hR9:=hRc.chgt (gt:=gt) (by simp) C9 (by omega)
        have hL9:=hL.far C9 (fun j hj=>by
         obtain rfl:gl=j:=by simpa [Value.ownBlock] using hj
         omega)
        have hO9:=hO.far C9 (fun j hj=>by have:=(hO.own_lt j hj).1; omega);have B19:=C9.blk B1 (by omega);have B59:=C9.blk B5 (by omega);have hE9:=C9.ext hE (by omega);have hl9:lo9≤w9.heap.size:=Nat.le_trans hlr C9.size;clear x0 x1 x2 x3 x4 x5 E9 U9 C9 hRc hL hO B1 B5 hE hlr BT;obtain⟨gl',cap',hv',-,-,-,-,-,hat⟩:=hL9.at_ (by rw [nats_len]; omega);injection hv' with q1 q2 q3
        injection q1 with q1
        injection q1 with q1
        subst q1;have hz:=hat bb (by rw [nats_len]; omega);rw [nats_get] at hz;obtain⟨zz,hzz⟩:=hid_eq (lf[bb]?.getD 0);rw [←hzz.out] at hz HR3;clear hat q2 q3;refine wp_region_lit ?_;refine wpList_plain rfl (fun K hK=>?_);go_simp;refine hK _ _ ?_;clear hK K;try simp only [nr]
        refine wpList_plain rfl (fun K hK=>?_);go_simp;refine hK _ _ ?_;clear hK K;try simp only [nr]
        refine wpList_plain rfl (fun K hK=>?_);go_simp;refine hK _ _ ?_;clear hK K;try simp only [nr]
        refine wpList_plain rfl (fun K hK=>?_);go_simp;refine hK _ _ ?_;clear hK K;try simp only [nr]
        refine wpList_plain rfl (fun K hK=>?_);go_simp;refine hK _ _ ?_;clear hK K;try simp only [nr]
        refine wpList_plain rfl (fun K hK=>?_);go_simp;refine hK _ _ ?_;clear hK K;try simp only [nr]
        refine boxes1 ?_;intro w10 e10 hsz10 BZ;have hs10:=e10.size;have hO10:=hO9.ext e10;refine wpList_append_o one_int rfl _ _ 47 Tryz.underlying47 rfl (by rfl) hO10 (m:=1) (c:=1) (news:=[.int .i64 (zz:Int)]) (by rfl) (by rfl) (one_new BZ) (fun u hu=>by rw [List.mem_singleton.1 hu]; rfl) (by omega) (by rw [nats_len]; omega) ?_;rintro g2' cap2' w11 hO11 p11 ⟨g11,hb11,o11,c11,-⟩;try simp only [nr]
        rw [nats_len] at hO11 ⊢
        have hR11:=(hR9.ext e10).grow c11 (by omega) o11 (vO':=.slice (some ⟨g2',0,none⟩) (ot.length+1) cap2') (fun k hk=>by
         obtain rfl:g2'=k:=by simpa [Value.ownBlock] using hk
         exact p11)
        have hL11:=(hL9.ext e10).far c11 (fun j hj=>by
         obtain rfl:gl=j:=by simpa [Value.ownBlock] using hj
         omega)
        have BT11:=c11.blk (e10.block BT9) (by omega);have B111:=c11.blk (e10.block B19) (by omega);have B511:=c11.blk (e10.block B59) (by omega);have hE11:=c11.ext (hE9.trans e10) (by omega);have hl11:lo9≤w11.heap.size:=by have:=c11.size; omega
        have hO12:GrowO 3 lo9 w11 (.slice (some ⟨g2',0,none⟩) (ot.length+1) cap2') (nats (ot ++ [zz])):=by rw [nats_app]; exact hO11
        clear hR9 hL9 hO9 hO10 hO11 BT9 B19 B59 hE9 e10 c11 BZ hz o11 p11;refine wpList_plain rfl (fun K hK=>?_);go_simp;refine hK _ _ ?_;clear hK K;try simp only [nr]
        refine wpList_nil ?_;have hw1:IntKind.i64.wrap ((bb:Int)+1)=(bb:Int)+1:=IntWalk.i64_in _ (by omega);obtain⟨hn1,hn2,-,⟨cs9,hb9',hs9'⟩,hone⟩:=nats_one hL11 hlf hmm0;unfold maxLen at hn2;go_wp2_with (go_at_call 73; refine Hid.out ?_);refine (sl_del_ints hb9' hs9' (by omega) hn1 hbm hone (by first | rfl | exact hw1)).mono ?_;intro e w12 hd;obtain⟨rfl,c12,hL12⟩:=del_nats hL11 hlf hbm hd;have hR12:=hR11.chgt (gt:=gl) (by simp) c12 (by omega)
        have hO13:=hO12.far c12 (fun j hj=>by
         have:=(hO12.own_lt j hj).1
         omega)
        have BT12:=c12.blk BT11 (by omega);have B112:=c12.blk B111 (by omega);have B512:=c12.blk B511 (by omega);have hE12:=c12.ext hE11 (by omega);have hl12:lo9≤w12.heap.size:=by have:=c12.size; omega
        clear hd hone hb9' hs9' hL11 hR11 hO12 BT11 B111 B511 hE11 c12 hw1;go_wp2;go_roundw
        case rel=>exact⟨mm - 1,_,_,_,lf.eraseIdx bb,ot ++ [zz],E1',f1',E2',f2',E3',f3',rfl,by rw [List.length_eraseIdx,if_pos (by omega),hlf],hL12,hO13,by simp; omega,hR12,BT12,B112,B512,hE12,hl12,HD3,HG3,HR3⟩
        case measure=>simp [lenOf]; omega
     ·have t1:¬ 1 < mm:=h1;have HRE:Hid (RR=⟨ot,mm,XX,yy,pp⟩):=by rw [Hid,←HR2.out]; exact snF_stop hmm0 (.inl (by omega))
      clear HR2;go_upto_region 19 with (fail);have B5w:=B5;have hEw:=hE;obtain⟨x0,x1,x2,-⟩:=cells3 BT;refine regI [Mn.eq (.slice AO ot.length cO),Mn.eq (.agg #[.slice E1 mm f1,.slice E2 mm f2,.slice E3 mm f3]),Mn.eq (.slice AO ot.length cO),Mn.any,Mn.any] [some 94,some 95,some 4,none,some 6] [3,4] [true,true,true,false,false] 2 (by kernel_rfl) ?_ ?_
      ·show ∀ i,i < 5→_
       iterate 5 refine fs ?_ ?_
       ·exact fz
       all_goals intro hl
       all_goals first | exact absurd hl (by decide) | skip
       all_goals clear hl
       all_goals refine stp rfl ?_
       all_goals intro ac wi eI hB hA K hK
       have o13:=oOf (hB 13 (by kernel_rfl)) rfl
       rotate_left
       have o9:=oOf (hB 9 (by kernel_rfl)) rfl;have cc0:=eI.cell x0;have cc1:=eI.cell x1;have cc2:=eI.cell x2
       rotate_left
       obtain⟨_,s94,rfl⟩:=hA 0 (by kernel_rfl) 94 rfl
       rotate_left
       all_goals clear hB hA
       all_goals go_simp
       all_goals exact hK.out _ _ (Ext.refl _) rfl
      intro vals wz eZ hJ;have J95:vals 1=_:=hJ 1 (by decide) (by decide);have J4:vals 2=_:=hJ 2 (by decide) (by decide);clear hJ;simp only [pr,Nat.reduceAdd,J95,J4];clear J95 J4;replace B5w:=eZ.block B5w;replace hEw:=hEw.trans eZ;obtain⟨u0,u1,u2,u3,u4,u5⟩:=cells3 B5w;refine stepL_late (i:=3) rfl (by kernel_rfl) (by kernel_rfl) (fun K hK=>?_);go_simp;refine hK.out _ _ ?_;clear hK K;try simp only [nr]
      refine stepL_late (i:=4) rfl (by kernel_rfl) (by kernel_rfl) (fun K hK=>?_);go_simp;refine hK.out _ _ ?_;clear hK K;try simp only [nr]
      refine stepL_done (by kernel_rfl) ?_ _;obtain⟨w20,E20,D20,U20⟩:=ex3 B5w (.slice E1 mm f1) (.slice E2 mm f2) (.slice E3 mm f3);rw [E20];have C20:=U20.chg (NoU.mk B5w (by decide));have hR20:=((hRs.ext eZ).chgt (gt:=w.heap.size+1+1) (by simp) C20 (by omega)).mt;have hO20:=(hO.ext eZ).far C20 (fun j hj=>by have:=(hO.own_lt j hj).1; omega);have hE20:=C20.ext hEw (by omega);obtain⟨z0,z1,z2,-⟩:=cells3 D20;clear u0 u1 u2 u3 u4 u5 E20;go_wp2;refine bodyPost_ret (v:=.tuple #[.slice AO ot.length cO,.agg #[.slice E1 mm f1,.slice E2 mm f2,.slice E3 mm f3],.int .i64 0]) ?_ rfl ?_
      ·simp [results,z0,z1,z2,go_sem]
      ·rw [hRf.out,HRE.out];exact⟨_,E1,f1,E2,f2,E3,f3,rfl,hO20.low (by omega),hR20.1,hR20.2.1,hR20.2.2,hE20⟩
def e8A (i:Nat):Nat→Rat:=if i=0 then (fun j=>((ex3f 1 0 0 j:Int):Rat)) else if i=1 then (fun j=>((ex3f 1 0 0 j:Int):Rat)) else (fun j=>((ex3f 1 0 0 j:Int):Rat))
def e8L (i:Nat):Rat:=((ex3f 0 0 3 i:Int):Rat)
def e8P (i:Nat):Rat:=((ex3f 1 1 1 i:Int):Rat)
theorem e8_reg:Reg 1 (nmat e8A e8P 3):=ivB_reg.1 (by decide +kernel)
theorem e8_md:Md 3 1 e8A e8L e8P :=
 ⟨by omega,by omega,by omega,by omega,by decide +kernel,HtM.mono (k:=3) (by unfold HtM Ht; decide +kernel) (by omega),HtL.mono (k:=3) (by unfold HtL Ht; decide +kernel) (by omega),HtL.mono (k:=3) (by unfold HtL Ht; decide +kernel) (by omega)⟩
theorem e8_r2:rS 3 1 e8A e8P (2:Int).toNat≠0:=by decide +kernel
theorem e8_r0:rS 3 1 e8A e8P (0:Int).toNat≠0:=by decide +kernel
theorem e8_t:tS 3 1 e8A e8L e8P (2:Int).toNat=((6:Int):Rat):=by decide +kernel
theorem e8_out:(snF 1 ((5:Int):Rat) 3 e8A e8L e8P (List.range 3) []).out=[2]:=by decide +kernel
theorem e8_m:(snF 1 ((5:Int):Rat) 3 e8A e8L e8P (List.range 3) []).m=2:=by decide +kernel
theorem e8_d:((8:Int):Rat) / (e8P (0:Int).toNat*rS 3 1 e8A e8P (0:Int).toNat)=((12:Int):Rat):=by decide +kernel
theorem e8_e:((8:Int):Rat)*(1 - rS 3 1 e8A e8P (0:Int).toNat) / rS 3 1 e8A e8P (0:Int).toNat=((4:Int):Rat):=by decide +kernel
def Mn.sn (m:Nat) (l:List Nat):Mn:=⟨fun v w=>∃ vO A1 c1 A2 c2 A3 c3 base,v=.tuple #[vO,.agg #[.slice A1 m c1,.slice A2 m c2,.slice A3 m c3],.int .i64 0]∧GrowO 3 base w vO (nats l),fun e h=>by
  obtain⟨vO,A1,c1,A2,c2,A3,c3,base,h0,h1⟩:=h
  exact⟨vO,A1,c1,A2,c2,A3,c3,base,h0,h1.ext e⟩⟩
def Mn.ag (m:Nat):Mn:=⟨fun v _=>∃ A1 c1 A2 c2 A3 c3,v=.agg #[.slice A1 m c1,.slice A2 m c2,.slice A3 m c3],fun _ h=>h⟩
def Mn.na (l:List Nat):Mn:=⟨fun v w=>∃ base,GrowO 3 base w v (nats l),fun e h=>by
  obtain⟨base,h1⟩:=h
  exact⟨base,h1.ext e⟩⟩
def Mn.sbl (k:Nat) (cs:Array Value) (t:TypeId):Mn:=⟨fun v w=>∃ g,v=.slice (some ⟨g,0,none⟩) k k∧w.heap[g]?=some (.cells cs t (0,0)),fun e h=>by
  obtain⟨g,h0,h1⟩:=h
  exact⟨g,h0,e.block h1⟩⟩
theorem blk_nat {w:World} {g:Nat} {z:Nat} (h:w.heap[g]?=some (.cells #[.int .i64 (z:Int)] 3 (0,0))):IsV 0 w.heap.size w (.slice (some ⟨g,0,none⟩) 1 1) [z]:=by
 refine⟨Nat.le_refl _,_,1,rfl,by simp,by unfold maxLen; omega,fun _=>⟨g,0,rfl,Nat.zero_le _,blk_lt h,fun i hi=>?_⟩⟩;obtain rfl:i=0:=by simpa using hi
 exact (cells1 h).1
theorem own_type {ET:TypeId} {base:Nat} {w:World} {v:Value} {xs:List Value} (h:GrowO ET base w v xs):∀ k,v.ownBlock=some k→∃ cs,w.heap[k]?=some (.cells cs ET (0,0)):=by
 rcases h.2.2 with ⟨rfl,h0⟩ | ⟨g,cap,cur,rfl,hb,hh,-⟩
 ·intro k hk; simp [Value.ownBlock] at hk
 ·intro k hk;obtain rfl:g=k:=by simpa [Value.ownBlock] using hk
  exact⟨_,hh⟩
set_option maxRecDepth 100000 in
theorem l38_known (w:World):Calls Tryz.prog 10 #[] w (RetV w (.bool true)):=by
 obtain⟨N,hN0⟩:∃ N,N≤w.heap.size:=⟨0,Nat.zero_le _⟩
 have hE:=Ext.refl w;go_enter Tryz.func10,Tryz.ntmps10;go_wp2_with (go_at_call 57; refine Hid.out ?_);refine boxesC1 ?_;intro w1 e1 hsz1 B1;replace hE:=hE.trans e1;refine (l38_row (N:=N) (k:=1) (f:=ex3f 1 0 0) (by have:=hE.size; omega) B1 (fun i hi=>by rcases i with _ | i; rfl; omega) (by omega) (fun i _=>by unfold ex3f; split <;> (try split) <;> omega)).mono ?_;rintro e w2 ⟨A2,c2,rfl,h2,e2⟩;replace hE:=hE.trans e2;clear e1 e2 B1 hsz1;go_wp2_with (go_at_call 57; refine Hid.out ?_);refine boxesC1 ?_;intro w1 e1 hsz1 B1;replace hE:=hE.trans e1;refine (l38_row (N:=N) (k:=1) (f:=ex3f 1 0 0) (by have:=hE.size; omega) B1 (fun i hi=>by rcases i with _ | i; rfl; omega) (by omega) (fun i _=>by unfold ex3f; split <;> (try split) <;> omega)).mono ?_;rintro e w3 ⟨A3,c3,rfl,h3,e3⟩;replace hE:=hE.trans e3;replace h2:=(h2.ext e1).ext e3;clear e1 e3 B1 hsz1;go_wp2_with (go_at_call 57; refine Hid.out ?_);refine boxesC1 ?_;intro w1 e1 hsz1 B1;replace hE:=hE.trans e1;refine (l38_row (N:=N) (k:=1) (f:=ex3f 1 0 0) (by have:=hE.size; omega) B1 (fun i hi=>by rcases i with _ | i; rfl; omega) (by omega) (fun i _=>by unfold ex3f; split <;> (try split) <;> omega)).mono ?_;rintro e w4 ⟨A4,c4,rfl,h4,e4⟩;replace hE:=hE.trans e4;replace h2:=(h2.ext e1).ext e4;replace h3:=(h3.ext e1).ext e4;clear e1 e4 B1 hsz1;go_wp2_with (go_at_call 57; refine Hid.out ?_);refine boxesC2 ?_;intro w1 e1 hsz1 BM B1;replace hE:=hE.trans e1;have M1:MtV N 0 w1.heap.size w1 _ 3 1 e8A:=three_lists BM (h2.ext e1).all (h3.ext e1).all (h4.ext e1).all
 refine (l38_row (N:=N) (k:=3) (f:=ex3f 0 0 3) (by have:=hE.size; omega) B1 (fun i hi=>by rcases i with _ | _ | _ | i; rfl; rfl; rfl; omega) (by omega) (fun i _=>by unfold ex3f; split <;> (try split) <;> omega)).mono ?_;rintro e w5 ⟨A5,c5,rfl,h5,e5⟩;replace hE:=hE.trans e5;have M2:=MtV.all (M1.ext e5);replace h5:LsV N _ _ w5 (.slice A5 3 c5) 3 e8L:=h5;clear e1 e5 B1 BM hsz1 M1 h2 h3 h4;go_wp2_with (go_at_call 57; refine Hid.out ?_);refine boxesC1 ?_;intro w1 e1 hsz1 B1;replace hE:=hE.trans e1;replace h5:=h5.ext e1;have M3:=MtV.all (M2.ext e1);refine (l38_row (N:=N) (k:=3) (f:=ex3f 1 1 1) (by have:=hE.size; omega) B1 (fun i hi=>by rcases i with _ | _ | _ | i; rfl; rfl; rfl; omega) (by omega) (fun i _=>by unfold ex3f; split <;> (try split) <;> omega)).mono ?_;rintro e w6 ⟨A6,c6,rfl,h6,e6⟩;replace hE:=hE.trans e6;have M:=MtV.all (M3.ext e6);have L5:=LsV.all (h5.ext e6);have L6:=LsV.all h6;replace L6:LsV N _ _ w6 (.slice A6 3 c6) 3 e8P:=L6;obtain⟨gm,hgm⟩:∃ gm,gm=w4.heap.size:=⟨_,rfl⟩
 rw [←hgm] at M ⊢;clear e1 e6 B1 hsz1 M2 M3 h5 h6 hgm;go_upto_region 2 with (fail);refine boxes1 ?_;intro w7 e7 hsz7 BM;replace hE:=hE.trans e7;replace M:=MtV.all (M.ext e7);replace L5:=LsV.all (L5.ext e7);replace L6:=LsV.all (L6.ext e7);obtain⟨g1,hg1⟩:∃ g1,g1=w6.heap.size:=⟨_,rfl⟩
 rw [←hg1] at BM ⊢;clear e7 hsz7 hg1;obtain⟨a0,a1,a2,-⟩:=cells3 BM;go_wp2_with (go_at_call 14; refine Hid.out ?_);refine (sn_Statistic M L5 L6 e8_md e8_reg 2 (by decide) e8_r2).mono ?_;intro e w8 hh;obtain⟨nb,Q1,q1,l1,Q2,q2,l2,rfl,hnb,y1,y2,e8⟩:=hh.form;replace hE:=hE.trans e8;replace BM:=e8.block BM;replace M:=MtV.all (M.ext e8);replace L5:=LsV.all (L5.ext e8);replace L6:=LsV.all (L6.ext e8);clear a0 a1 a2 e8 hh;go_upto_region 3 with (fail);refine boxes1 ?_;intro w9 e9 hsz9 B2;replace hE:=hE.trans e9;replace BM:=e9.block BM;replace M:=MtV.all (M.ext e9);replace L5:=LsV.all (L5.ext e9);replace L6:=LsV.all (L6.ext e9);have hR2:=RatV.mk hnb (y1.ext e9) (y2.ext e9);rw [e8_t] at hR2;clear e9 y1 y2 hnb;obtain⟨g2,hg2⟩:∃ g2,g2=w8.heap.size:=⟨_,rfl⟩
 rw [←hg2] at B2 ⊢;clear hsz9 hg2;obtain⟨a0,a1,a2,-⟩:=cells3 BM;have HZ5:Hid (Sz ((5:Int):Rat)):=(ht_nat 5 4 (by decide) (by omega)).sz (by omega);have H8:Hid (Ht 400 ((8:Int):Rat)):=(ht_nat 8 4 (by decide) (by omega)).mono (by omega);obtain⟨RR,hRR⟩:=hid_eq (snF 1 ((5:Int):Rat) 3 e8A e8L e8P (List.range 3) []);have HRm:Hid (RR.m=2):=by rw [Hid,hRR.out]; exact e8_m
 have HRo:Hid (RR.out=[2]):=by rw [Hid,hRR.out]; exact e8_out
 have hNw:N≤w9.heap.size:=by have:=hE.size; omega
 refine regS [Mn.eq (.agg #[.slice (some ⟨gm,0,none⟩) 3 3,.slice A5 3 c5,.slice A6 3 c6]),Mn.rat N ((5:Int):Rat),Mn.sn 2 [2],Mn.sn 2 [2],Mn.na [2],Mn.ag 2,Mn.eq (.int .i64 0),Mn.blk w9.heap.size (.cells #[.slice none 0 0,.slice none 0 0,.slice none 0 0] 26 (0,0)),Mn.na [2],Mn.any,Mn.any] [some 29,some 30,some 31,some 28,some 32,some 33,some 34,some 5,some 4,none,some 6] [9,10] [6] [true,true,true,true,true,true,true,true,true,false,false] 2 (by kernel_rfl) ?_ ?_ ?_
 ·show ∀ i,i < 11→_
  iterate 11 refine fs ?_ ?_
  ·exact fz
  all_goals intro hl hs
  all_goals first | exact absurd hl (by decide) | exact absurd hs (by decide) | skip
  all_goals clear hl hs
  all_goals refine stp rfl ?_
  all_goals intro ac wi eI hB hA K hK
  have o1:=oOf (hB 1 (by kernel_rfl)) rfl;have cc0:=eI.cell a0;have cc1:=eI.cell a1;have cc2:=eI.cell a2
  rotate_left
  clear hB hA
  ·go_simp;refine (r2_Whole (N:=N) (by have:=eI.size; omega) 5 (by omega) (by omega)).mono ?_;rintro e wj ⟨vj,rfl,hj,ej⟩;go_wp2_with fail;exact hK.out _ _ ej hj
  obtain⟨_,s29,rfl⟩:=hA 0 (by kernel_rfl) 29 rfl;obtain⟨x30,s30,j30⟩:=hA 1 (by kernel_rfl) 30 rfl;replace j30:Mn.p (Mn.rat N ((5:Int):Rat)) x30 wi:=j30;clear hB hA
  ·go_simp;refine (sn_Snoop (M.ext eI) (L5.ext eI) (L6.ext eI) j30 e8_md e8_reg HZ5.out).mono ?_;rw [←hRR.out];rintro e wj ⟨vO,E1,k1,E2,k2,E3,k3,rfl,hO,-,-,-,ej⟩;rw [HRm.out];rw [HRo.out] at hO;go_wp2_with fail;exact hK.out _ _ ej ⟨vO,E1,k1,E2,k2,E3,k3,_,rfl,hO⟩
  obtain⟨x31,s31,j31⟩:=hA 2 (by kernel_rfl) 31 rfl;replace j31:Mn.p (Mn.sn 2 [2]) x31 wi:=j31;clear hB hA
  ·go_simp;exact hK.out _ _ (Ext.refl _) j31
  obtain⟨x28,s28,j28⟩:=hA 3 (by kernel_rfl) 28 rfl;replace j28:Mn.p (Mn.sn 2 [2]) x28 wi:=j28;clear hB hA
  ·obtain⟨vO,E1,k1,E2,k2,E3,k3,base,rfl,hO⟩:=j28;go_simp;exact hK.out _ _ (Ext.refl _) ⟨base,hO⟩
  obtain⟨x28,s28,j28⟩:=hA 3 (by kernel_rfl) 28 rfl;replace j28:Mn.p (Mn.sn 2 [2]) x28 wi:=j28;clear hB hA
  ·obtain⟨vO,E1,k1,E2,k2,E3,k3,base,rfl,hO⟩:=j28;go_simp;exact hK.out _ _ (Ext.refl _) ⟨_,_,_,_,_,_,rfl⟩
  clear hB hA
  ·go_simp;refine boxes1 ?_;intro wj ej hszj BJ;exact hK.out _ _ ej ⟨_,rfl,eI.size,BJ⟩
  obtain⟨x32,s32,j32⟩:=hA 4 (by kernel_rfl) 32 rfl;replace j32:Mn.p (Mn.na [2]) x32 wi:=j32;clear hB hA
  ·go_simp;exact hK.out _ _ (Ext.refl _) j32
  all_goals clear hB hA
  all_goals go_simp
  all_goals exact hK.out _ _ (Ext.refl _) rfl
 ·intro i hs;have hi':i=6:=by simpa using hs
  clear hs
  rcases hi' with rfl
  ·refine sft rfl (fun _ _ _ _ h=>h) ?_;intro ac wi eI hB hA;obtain⟨x28,s28,j28⟩:=hA 3 (by kernel_rfl) 28 rfl;replace j28:Mn.p (Mn.sn 2 [2]) x28 wi:=j28;clear hB hA;obtain⟨vO,E1,k1,E2,k2,E3,k3,base,rfl,hO⟩:=j28;refine⟨(.int .i64 0),.inl ⟨rfl,fun w9 _=>?_⟩,rfl⟩;go_simp
 intro vals wz eZ hJ;have J30:Mn.p (Mn.rat N ((5:Int):Rat)) (vals 1) wz:=hJ 1 (by decide) (by decide);have J31:Mn.p (Mn.sn 2 [2]) (vals 2) wz:=hJ 2 (by decide) (by decide);have J28:Mn.p (Mn.sn 2 [2]) (vals 3) wz:=hJ 3 (by decide) (by decide);have J32:Mn.p (Mn.na [2]) (vals 4) wz:=hJ 4 (by decide) (by decide);have J33:Mn.p (Mn.ag 2) (vals 5) wz:=hJ 5 (by decide) (by decide);have J34:vals 6=_:=hJ 6 (by decide) (by decide);have J5:Mn.p (Mn.blk w9.heap.size (.cells #[.slice none 0 0,.slice none 0 0,.slice none 0 0] 26 (0,0))) (vals 7) wz:=hJ 7 (by decide) (by decide);have J4:Mn.p (Mn.na [2]) (vals 8) wz:=hJ 8 (by decide) (by decide);clear hJ;simp only [pr,Nat.reduceAdd,J34];clear J34
 generalize vals 1=z30 at J30 ⊢
 generalize vals 2=z31 at J31 ⊢
 generalize vals 3=z28 at J28 ⊢
 generalize vals 4=z32 at J32 ⊢
 generalize vals 5=z33 at J33 ⊢
 generalize vals 7=z5 at J5 ⊢
 generalize vals 8=z4 at J4 ⊢
 obtain⟨gS,rfl,hgS,BS⟩:=J5;obtain⟨E1,k1,E2,k2,E3,k3,rfl⟩:=J33;obtain⟨u0,u1,u2,u3,u4,u5⟩:=cells3 BS;refine stepL_late (i:=9) rfl (by kernel_rfl) (by kernel_rfl) (fun K hK=>?_);go_simp;refine hK.out _ _ ?_;clear hK K;try simp only [nr]
 refine stepL_late (i:=10) rfl (by kernel_rfl) (by kernel_rfl) (fun K hK=>?_);go_simp;refine hK.out _ _ ?_;clear hK K;try simp only [nr]
 refine stepL_done (by kernel_rfl) ?_ _;obtain⟨w10,E10,D10,U10⟩:=ex3 BS (.slice E1 2 k1) (.slice E2 2 k2) (.slice E3 2 k3);rw [E10];have C10:=U10.chg (NoU.mk BS (by decide));obtain⟨bO,hO⟩:∃ base,GrowO 3 base wz z4 (nats [2]):=J4
 replace hO:=hO.far C10 (fun j hj=>by
  obtain⟨cs,h9⟩:=own_type hO j hj
  have h8:j≠gS:=fun e=>by
   rw [e,BS] at h9;injection h9 with h9
   injection h9 with _ h9
   exact absurd h9 (by decide)
  omega)
 have hl1:=blk_lt BM;have hl2:=blk_lt B2;replace BM:=C10.blk (eZ.block BM) (by omega);replace B2:=C10.blk (eZ.block B2) (by omega);replace hR2:=(hR2.ext eZ).chg C10 (by omega);replace M:=MtV.all ((M.ext eZ).chg C10 (by omega) (.inl (by omega)));replace L5:=LsV.all ((L5.ext eZ).chg C10 (by omega) (.inl (by omega)));replace L6:=LsV.all ((L6.ext eZ).chg C10 (by omega) (.inl (by omega)));replace hE:=C10.ext (hE.trans eZ) (by have:=hE.size; omega);obtain⟨AO,cO,hOv,hcO⟩:=hO.form;subst hOv;rw [show (nats [2]).length=1 from rfl] at hO hcO ⊢;clear u0 u1 u2 u3 u4 u5 E10 BS J28 J30 J31 J32 C10 U10 a0 a1 a2 eZ HRm HRo hRR HZ5;have hNw2:N≤w10.heap.size:=by have:=hE.size; omega
 obtain⟨a0,a1,a2,-⟩:=cells3 BM;go_upto_region 4 with (fail);obtain⟨qd,hqd⟩:=hid_eq (((8:Int):Rat) / (e8P (0:Int).toNat*rS 3 1 e8A e8P (0:Int).toNat));have HQD:Hid (qd=((12:Int):Rat)):=by rw [Hid,hqd.out]; exact e8_d
 have hlS:=blk_lt D10;refine regS [Mn.eq (.agg #[.slice (some ⟨gm,0,none⟩) 3 3,.slice A5 3 c5,.slice A6 3 c6]),Mn.rat N ((8:Int):Rat),Mn.rc N qd,Mn.rc N qd,Mn.rat N qd,Mn.eq (.int .i64 0),Mn.blk w10.heap.size (.cells #[.bool false,.slice none 0 0,.bool false,.slice none 0 0] 36 (0,0)),Mn.any,Mn.any] [some 36,some 37,some 38,some 35,some 39,some 40,some 7,none,some 8] [7,8] [5] [true,true,true,true,true,true,true,false,false] 2 (by kernel_rfl) ?_ ?_ ?_
 ·show ∀ i,i < 9→_
  iterate 9 refine fs ?_ ?_
  ·exact fz
  all_goals intro hl hs
  all_goals first | exact absurd hl (by decide) | exact absurd hs (by decide) | skip
  all_goals clear hl hs
  all_goals refine stp rfl ?_
  all_goals intro ac wi eI hB hA K hK
  have o1:=oOf (hB 1 (by kernel_rfl)) rfl;have cc0:=eI.cell a0;have cc1:=eI.cell a1;have cc2:=eI.cell a2
  rotate_left
  clear hB hA
  ·go_simp;refine (r2_Whole (N:=N) (by have:=eI.size; omega) 8 (by omega) (by omega)).mono ?_;rintro e wj ⟨vj,rfl,hj,ej⟩;go_wp2_with fail;exact hK.out _ _ ej hj
  obtain⟨_,s36,rfl⟩:=hA 0 (by kernel_rfl) 36 rfl;obtain⟨x37,s37,j37⟩:=hA 1 (by kernel_rfl) 37 rfl;replace j37:Mn.p (Mn.rat N ((8:Int):Rat)) x37 wi:=j37;clear hB hA
  ·go_simp;refine (sn_Detectable (M.ext eI) (L5.ext eI) (L6.ext eI) j37 e8_md e8_reg H8.out 0 (by decide) (by decide) e8_r0).mono ?_;rw [←hqd.out];rintro e wj ⟨vj,rfl,hj,ej⟩;go_wp2_with fail;exact hK.out _ _ ej ⟨vj,rfl,hj⟩
  obtain⟨x38,s38,j38⟩:=hA 2 (by kernel_rfl) 38 rfl;replace j38:Mn.p (Mn.rc N qd) x38 wi:=j38;clear hB hA
  ·go_simp;exact hK.out _ _ (Ext.refl _) j38
  obtain⟨x35,s35,j35⟩:=hA 3 (by kernel_rfl) 35 rfl;replace j35:Mn.p (Mn.rc N qd) x35 wi:=j35;clear hB hA
  ·obtain⟨vj,rfl,hj⟩:=j35;go_simp;exact hK.out _ _ (Ext.refl _) hj
  clear hB hA
  ·go_simp;refine boxes1 ?_;intro wj ej hszj BJ;exact hK.out _ _ ej ⟨_,rfl,eI.size,BJ⟩
  all_goals clear hB hA
  all_goals go_simp
  all_goals exact hK.out _ _ (Ext.refl _) rfl
 ·intro i hs;have hi':i=5:=by simpa using hs
  clear hs
  rcases hi' with rfl
  ·refine sft rfl (fun _ _ _ _ h=>h) ?_;intro ac wi eI hB hA;obtain⟨x35,s35,j35⟩:=hA 3 (by kernel_rfl) 35 rfl;replace j35:Mn.p (Mn.rc N qd) x35 wi:=j35;clear hB hA;obtain⟨vj,rfl,hj⟩:=j35;refine⟨(.int .i64 0),.inl ⟨rfl,fun w9 _=>?_⟩,rfl⟩;go_simp
 intro vals wz eZ hJ;have J37:Mn.p (Mn.rat N ((8:Int):Rat)) (vals 1) wz:=hJ 1 (by decide) (by decide);have J38:Mn.p (Mn.rc N qd) (vals 2) wz:=hJ 2 (by decide) (by decide);have J35:Mn.p (Mn.rc N qd) (vals 3) wz:=hJ 3 (by decide) (by decide);have J39:Mn.p (Mn.rat N qd) (vals 4) wz:=hJ 4 (by decide) (by decide);have J40:vals 5=_:=hJ 5 (by decide) (by decide);have J7:Mn.p (Mn.blk w10.heap.size (.cells #[.bool false,.slice none 0 0,.bool false,.slice none 0 0] 36 (0,0))) (vals 6) wz:=hJ 6 (by decide) (by decide);clear hJ;simp only [pr,Nat.reduceAdd,J40];clear J40
 generalize vals 1=z37 at J37 ⊢
 generalize vals 2=z38 at J38 ⊢
 generalize vals 3=z35 at J35 ⊢
 generalize vals 4=z39 at J39 ⊢
 generalize vals 6=z7 at J7 ⊢
 obtain⟨gT,rfl,hgT,BT⟩:=J7;obtain⟨bz,Az,kz,cz,Az',kz',cz',rfl,hbz,gz1,gz2⟩:=RatV.parts J39;obtain⟨u0,u1,u2,u3,u4,u5,u6,u7⟩:=cells4 BT;refine stepL_late (i:=7) rfl (by kernel_rfl) (by kernel_rfl) (fun K hK=>?_);go_simp;refine hK.out _ _ ?_;clear hK K;try simp only [nr]
 refine stepL_late (i:=8) rfl (by kernel_rfl) (by kernel_rfl) (fun K hK=>?_);go_simp;refine hK.out _ _ ?_;clear hK K;try simp only [nr]
 refine stepL_done (by kernel_rfl) ?_ _;obtain⟨w11,E11,D11,U11⟩:=ex4 BT (.bool bz) (.slice Az kz cz) (.bool false) (.slice Az' kz' cz');rw [E11];have C11:=U11.chg (NoU.mk BT (by decide));have hl1:=blk_lt BM;have hl2:=blk_lt B2;replace hO:=(hO.ext eZ).far C11 (fun j hj=>by have:=(hO.own_lt j hj).2; omega);have hR11:=RatV.mk hbz (gz1.chg C11 (by omega)) (gz2.chg C11 (by omega));replace hR2:=(hR2.ext eZ).chg C11 (by omega);replace BM:=C11.blk (eZ.block BM) (by omega);replace B2:=C11.blk (eZ.block B2) (by omega);replace M:=MtV.all ((M.ext eZ).chg C11 (by omega) (.inl (by omega)));replace L5:=LsV.all ((L5.ext eZ).chg C11 (by omega) (.inl (by omega)));replace L6:=LsV.all ((L6.ext eZ).chg C11 (by omega) (.inl (by omega)));have hE11:=C11.ext (hE.trans eZ) (by have:=hE.size; omega);replace D10:=C11.blk (eZ.block D10) (by omega);replace hE:=hE11;have DT:=D11;have hRT:=hR11;rw [HQD.out] at hRT;obtain⟨wa,hwa⟩:∃ wa,wa=w11:=⟨_,rfl⟩
 subst hwa;obtain⟨g7,hg7⟩:∃ g7,g7=gT:=⟨_,rfl⟩
 subst hg7;clear u0 u1 u2 u3 u4 u5 u6 u7 E11 BT C11 U11 a0 a1 a2 eZ D11 hR11 hE11 gz1 gz2 hbz J37 J38 J35 hl1 hl2 hlS hNw2;have hNw2:N≤wa.heap.size:=by have:=hE.size; omega
 obtain⟨a0,a1,a2,-⟩:=cells3 BM;go_upto_region 5 with (fail);obtain⟨qe,hqe⟩:=hid_eq (((8:Int):Rat)*(1 - rS 3 1 e8A e8P (0:Int).toNat) / rS 3 1 e8A e8P (0:Int).toNat);have HQE:Hid (qe=((4:Int):Rat)):=by rw [Hid,hqe.out]; exact e8_e
 have hlS:=blk_lt D10;have hlT:=blk_lt DT;refine regS [Mn.eq (.agg #[.slice (some ⟨gm,0,none⟩) 3 3,.slice A5 3 c5,.slice A6 3 c6]),Mn.rat N ((8:Int):Rat),Mn.rc N qe,Mn.rc N qe,Mn.rat N qe,Mn.eq (.int .i64 0),Mn.blk wa.heap.size (.cells #[.bool false,.slice none 0 0,.bool false,.slice none 0 0] 36 (0,0)),Mn.any,Mn.any] [some 42,some 43,some 44,some 41,some 45,some 46,some 9,none,some 10] [7,8] [5] [true,true,true,true,true,true,true,false,false] 2 (by kernel_rfl) ?_ ?_ ?_
 ·show ∀ i,i < 9→_
  iterate 9 refine fs ?_ ?_
  ·exact fz
  all_goals intro hl hs
  all_goals first | exact absurd hl (by decide) | exact absurd hs (by decide) | skip
  all_goals clear hl hs
  all_goals refine stp rfl ?_
  all_goals intro ac wi eI hB hA K hK
  have o1:=oOf (hB 1 (by kernel_rfl)) rfl;have cc0:=eI.cell a0;have cc1:=eI.cell a1;have cc2:=eI.cell a2
  rotate_left
  clear hB hA
  ·go_simp;refine (r2_Whole (N:=N) (by have:=eI.size; omega) 8 (by omega) (by omega)).mono ?_;rintro e wj ⟨vj,rfl,hj,ej⟩;go_wp2_with fail;exact hK.out _ _ ej hj
  obtain⟨_,s42,rfl⟩:=hA 0 (by kernel_rfl) 42 rfl;obtain⟨x43,s43,j43⟩:=hA 1 (by kernel_rfl) 43 rfl;replace j43:Mn.p (Mn.rat N ((8:Int):Rat)) x43 wi:=j43;clear hB hA
  ·go_simp;refine (sn_Reach (M.ext eI) (L5.ext eI) (L6.ext eI) j43 e8_md e8_reg H8.out 0 (by decide) (by decide) e8_r0).mono ?_;rw [←hqe.out];rintro e wj ⟨vj,rfl,hj,ej⟩;go_wp2_with fail;exact hK.out _ _ ej ⟨vj,rfl,hj⟩
  obtain⟨x44,s44,j44⟩:=hA 2 (by kernel_rfl) 44 rfl;replace j44:Mn.p (Mn.rc N qe) x44 wi:=j44;clear hB hA
  ·go_simp;exact hK.out _ _ (Ext.refl _) j44
  obtain⟨x41,s41,j41⟩:=hA 3 (by kernel_rfl) 41 rfl;replace j41:Mn.p (Mn.rc N qe) x41 wi:=j41;clear hB hA
  ·obtain⟨vj,rfl,hj⟩:=j41;go_simp;exact hK.out _ _ (Ext.refl _) hj
  clear hB hA
  ·go_simp;refine boxes1 ?_;intro wj ej hszj BJ;exact hK.out _ _ ej ⟨_,rfl,eI.size,BJ⟩
  all_goals clear hB hA
  all_goals go_simp
  all_goals exact hK.out _ _ (Ext.refl _) rfl
 ·intro i hs;have hi':i=5:=by simpa using hs
  clear hs
  rcases hi' with rfl
  ·refine sft rfl (fun _ _ _ _ h=>h) ?_;intro ac wi eI hB hA;obtain⟨x41,s41,j41⟩:=hA 3 (by kernel_rfl) 41 rfl;replace j41:Mn.p (Mn.rc N qe) x41 wi:=j41;clear hB hA;obtain⟨vj,rfl,hj⟩:=j41;refine⟨(.int .i64 0),.inl ⟨rfl,fun w9 _=>?_⟩,rfl⟩;go_simp
 intro vals wz eZ hJ;have J45:Mn.p (Mn.rat N qe) (vals 4) wz:=hJ 4 (by decide) (by decide);have J46:vals 5=_:=hJ 5 (by decide) (by decide);have J9:Mn.p (Mn.blk wa.heap.size (.cells #[.bool false,.slice none 0 0,.bool false,.slice none 0 0] 36 (0,0))) (vals 6) wz:=hJ 6 (by decide) (by decide);clear hJ;simp only [pr,Nat.reduceAdd,J46];clear J46
 generalize vals 4=z45 at J45 ⊢
 generalize vals 6=z9 at J9 ⊢
 obtain⟨gT,rfl,hgT,BT⟩:=J9;obtain⟨bz,Az,kz,cz,Az',kz',cz',rfl,hbz,gz1,gz2⟩:=RatV.parts J45;obtain⟨u0,u1,u2,u3,u4,u5,u6,u7⟩:=cells4 BT;refine stepL_late (i:=7) rfl (by kernel_rfl) (by kernel_rfl) (fun K hK=>?_);go_simp;refine hK.out _ _ ?_;clear hK K;try simp only [nr]
 refine stepL_late (i:=8) rfl (by kernel_rfl) (by kernel_rfl) (fun K hK=>?_);go_simp;refine hK.out _ _ ?_;clear hK K;try simp only [nr]
 refine stepL_done (by kernel_rfl) ?_ _;obtain⟨w11,E11,D11,U11⟩:=ex4 BT (.bool bz) (.slice Az kz cz) (.bool false) (.slice Az' kz' cz');rw [E11];have C11:=U11.chg (NoU.mk BT (by decide));have hl1:=blk_lt BM;have hl2:=blk_lt B2;replace hO:=(hO.ext eZ).far C11 (fun j hj=>by have:=(hO.own_lt j hj).2; omega);have hR11:=RatV.mk hbz (gz1.chg C11 (by omega)) (gz2.chg C11 (by omega));replace hR2:=(hR2.ext eZ).chg C11 (by omega);replace BM:=C11.blk (eZ.block BM) (by omega);replace B2:=C11.blk (eZ.block B2) (by omega);replace M:=MtV.all ((M.ext eZ).chg C11 (by omega) (.inl (by omega)));replace L5:=LsV.all ((L5.ext eZ).chg C11 (by omega) (.inl (by omega)));replace L6:=LsV.all ((L6.ext eZ).chg C11 (by omega) (.inl (by omega)));have hE11:=C11.ext (hE.trans eZ) (by have:=hE.size; omega);replace D10:=C11.blk (eZ.block D10) (by omega);replace DT:=C11.blk (eZ.block DT) (by omega);replace hRT:=(hRT.ext eZ).chg C11 (by omega);replace hE:=hE11;rw [HQE.out] at hR11;clear u0 u1 u2 u3 u4 u5 u6 u7 E11 BT C11 U11 a0 a1 a2 eZ hE11 gz1 gz2 hbz hl1 hl2 hlS hlT hNw2 M L5 L6 BM;obtain⟨p0,p1,p2,p3,-⟩:=cells4 B2;obtain⟨q0,q1,q2,q3,-⟩:=cells4 DT;obtain⟨s0,s1,s2,s3,-⟩:=cells4 D11;obtain⟨d0,d1,d2,-⟩:=cells3 D10;obtain⟨bw,Aw,kw,cw,Aw',kw',cw',hvw,-⟩:=RatV.parts hR2;have hNw2:N≤w11.heap.size:=by have:=hE.size; omega
 have HS6:Hid (Sz ((6:Int):Rat)):=(ht_nat 6 4 (by decide) (by omega)).sz (by omega);have HS12:Hid (Sz ((12:Int):Rat)):=(ht_nat 12 4 (by decide) (by omega)).sz (by omega);have HS4:Hid (Sz ((4:Int):Rat)):=(ht_nat 4 4 (by decide) (by omega)).sz (by omega);go_upto_region 6 with (fail);refine regI [Mn.eq (.int .i64 0),Mn.eq (.int .i64 0),Mn.eq (.int .i64 0),Mn.eq (.int .i64 0),Mn.eq (.int .i64 0),Mn.eq (.int .i64 0),Mn.eq (.int .i64 0),Mn.eq (.bool true),Mn.eq (.bool true),Mn.rat N (((6:Int):Rat)),Mn.rat N ((6:Int):Rat),Mn.eq (.bool true),Mn.eq (.bool true),Mn.eq (.bool true),Mn.eq (.slice AO 1 cO),Mn.sbl 1 #[.int .i64 2] 3,Mn.eq (.bool true),Mn.eq (.bool true),Mn.eq (.bool true),Mn.eq (.pointer (some ⟨gS,0,none⟩)),Mn.eq (.slice E1 2 k1),Mn.eq (.int .i64 2),Mn.eq (.bool true),Mn.eq (.bool true),Mn.eq (.bool true),Mn.rat N (((12:Int):Rat)),Mn.rat N ((12:Int):Rat),Mn.eq (.bool true),Mn.eq (.bool true),Mn.eq (.bool true),Mn.rat N (((4:Int):Rat)),Mn.rat N ((4:Int):Rat),Mn.eq (.bool true),Mn.eq (.bool true),Mn.eq (.bool true)] [some 47,some 48,some 49,some 50,some 51,some 52,some 53,some 54,some 55,some 56,some 57,some 58,some 59,some 60,some 61,some 62,some 63,some 64,some 65,some 66,some 67,some 68,some 69,some 70,some 71,some 72,some 73,some 74,some 75,some 76,some 77,some 78,some 79,some 80,some 0] [] [true,true,true,true,true,true,true,true,true,true,true,true,true,true,true,true,true,true,true,true,true,true,true,true,true,true,true,true,true,true,true,true,true,true,true] 0 (by kernel_rfl) ?_ ?_
 ·show ∀ i,i < 35→_
  iterate 35 refine fs ?_ ?_
  ·exact fz
  all_goals intro hl
  all_goals clear hl
  all_goals refine stp rfl ?_
  all_goals intro ac wi eI hB hA K hK
  have o3:=oOf (hB 3 (by kernel_rfl)) rfl
  rotate_left
  have o6:=oOf (hB 6 (by kernel_rfl)) rfl
  rotate_left
  obtain⟨_,s47,rfl⟩:=hA 0 (by kernel_rfl) 47 rfl;obtain⟨_,s48,rfl⟩:=hA 1 (by kernel_rfl) 48 rfl
  rotate_left
  have o8:=oOf (hB 8 (by kernel_rfl)) rfl
  rotate_left
  obtain⟨_,s49,rfl⟩:=hA 2 (by kernel_rfl) 49 rfl;obtain⟨_,s50,rfl⟩:=hA 3 (by kernel_rfl) 50 rfl
  rotate_left
  have o10:=oOf (hB 10 (by kernel_rfl)) rfl
  rotate_left
  obtain⟨_,s51,rfl⟩:=hA 4 (by kernel_rfl) 51 rfl;obtain⟨_,s52,rfl⟩:=hA 5 (by kernel_rfl) 52 rfl
  rotate_left
  obtain⟨_,s53,rfl⟩:=hA 6 (by kernel_rfl) 53 rfl
  rotate_left
  obtain⟨_,s54,rfl⟩:=hA 7 (by kernel_rfl) 54 rfl
  rotate_left
  obtain⟨_,s55,rfl⟩:=hA 8 (by kernel_rfl) 55 rfl;have o2:=oOf (hB 2 (by kernel_rfl)) rfl;clear hB hA;rw [if_pos (by simp [Region.wanted,yielded,s55])];have cc0:=eI.cell p0;have cc1:=eI.cell p1;have cc2:=eI.cell p2;have cc3:=eI.cell p3
  ·go_simp;exact hK.out _ _ (Ext.refl _) (hR2.ext eI)
  obtain⟨_,s55,rfl⟩:=hA 8 (by kernel_rfl) 55 rfl;clear hB hA;rw [if_pos (by simp [Region.wanted,yielded,s55])]
  ·go_simp;refine (r2_Whole (N:=N) (by have:=eI.size; omega) 6 (by omega) (by omega)).mono ?_;rintro e wj ⟨vj,rfl,hj,ej⟩;go_wp2_with fail;exact hK.out _ _ ej hj
  obtain⟨_,s55,rfl⟩:=hA 8 (by kernel_rfl) 55 rfl;obtain⟨x56,s56,j56⟩:=hA 9 (by kernel_rfl) 56 rfl;replace j56:Mn.p (Mn.rat N (((6:Int):Rat))) x56 wi:=j56;obtain⟨x57,s57,j57⟩:=hA 10 (by kernel_rfl) 57 rfl;replace j57:Mn.p (Mn.rat N ((6:Int):Rat)) x57 wi:=j57;clear hB hA;rw [if_pos (by simp [Region.wanted,yielded,s55])]
  ·go_simp;refine (r2_same j56 j57 HS6.out rfl).mono ?_;rintro e wj ⟨rfl,ej⟩;go_wp2_with fail;exact hK.out _ _ ej rfl
  obtain⟨_,s55,rfl⟩:=hA 8 (by kernel_rfl) 55 rfl;obtain⟨_,s58,rfl⟩:=hA 11 (by kernel_rfl) 58 rfl
  rotate_left
  obtain⟨_,s59,rfl⟩:=hA 12 (by kernel_rfl) 59 rfl
  rotate_left
  obtain⟨_,s60,rfl⟩:=hA 13 (by kernel_rfl) 60 rfl;have o4:=oOf (hB 4 (by kernel_rfl)) rfl;rw [if_pos (by simp [Region.wanted,yielded,s60])]
  rotate_left
  obtain⟨_,s60,rfl⟩:=hA 13 (by kernel_rfl) 60 rfl;clear hB hA;rw [if_pos (by simp [Region.wanted,yielded,s60])]
  ·go_simp;refine boxes1 ?_;intro wj ej hszj BJ;exact hK.out _ _ ej ⟨_,rfl,BJ⟩
  obtain⟨_,s60,rfl⟩:=hA 13 (by kernel_rfl) 60 rfl;obtain⟨_,s61,rfl⟩:=hA 14 (by kernel_rfl) 61 rfl;obtain⟨x62,s62,j62⟩:=hA 15 (by kernel_rfl) 62 rfl;replace j62:Mn.p (Mn.sbl 1 #[.int .i64 2] 3) x62 wi:=j62;clear hB hA;rw [if_pos (by simp [Region.wanted,yielded,s60])]
  ·obtain⟨gb,rfl,BB⟩:=j62;go_simp;refine (sl_eqInts (nats_isv (hO.ext eI)) (blk_nat (z:=2) BB)).mono ?_;rintro e wj ⟨rfl,ej⟩;go_wp2_with fail;exact hK.out _ _ ej rfl
  obtain⟨_,s60,rfl⟩:=hA 13 (by kernel_rfl) 60 rfl;obtain⟨_,s63,rfl⟩:=hA 16 (by kernel_rfl) 63 rfl
  rotate_left
  obtain⟨_,s64,rfl⟩:=hA 17 (by kernel_rfl) 64 rfl
  rotate_left
  obtain⟨_,s65,rfl⟩:=hA 18 (by kernel_rfl) 65 rfl;have o5:=oOf (hB 5 (by kernel_rfl)) rfl;rw [if_pos (by simp [Region.wanted,yielded,s65])]
  rotate_left
  obtain⟨_,s65,rfl⟩:=hA 18 (by kernel_rfl) 65 rfl;obtain⟨_,s66,rfl⟩:=hA 19 (by kernel_rfl) 66 rfl;rw [if_pos (by simp [Region.wanted,yielded,s65])];have cc0:=eI.cell d0
  rotate_left
  obtain⟨_,s65,rfl⟩:=hA 18 (by kernel_rfl) 65 rfl;obtain⟨_,s67,rfl⟩:=hA 20 (by kernel_rfl) 67 rfl;rw [if_pos (by simp [Region.wanted,yielded,s65])]
  rotate_left
  obtain⟨_,s65,rfl⟩:=hA 18 (by kernel_rfl) 65 rfl;obtain⟨_,s68,rfl⟩:=hA 21 (by kernel_rfl) 68 rfl;rw [if_pos (by simp [Region.wanted,yielded,s65])]
  rotate_left
  obtain⟨_,s65,rfl⟩:=hA 18 (by kernel_rfl) 65 rfl;obtain⟨_,s69,rfl⟩:=hA 22 (by kernel_rfl) 69 rfl
  rotate_left
  obtain⟨_,s70,rfl⟩:=hA 23 (by kernel_rfl) 70 rfl
  rotate_left
  obtain⟨_,s71,rfl⟩:=hA 24 (by kernel_rfl) 71 rfl;have o7:=oOf (hB 7 (by kernel_rfl)) rfl;clear hB hA;rw [if_pos (by simp [Region.wanted,yielded,s71])];have cc0:=eI.cell q0;have cc1:=eI.cell q1;have cc2:=eI.cell q2;have cc3:=eI.cell q3
  ·go_simp;exact hK.out _ _ (Ext.refl _) (hRT.ext eI)
  obtain⟨_,s71,rfl⟩:=hA 24 (by kernel_rfl) 71 rfl;clear hB hA;rw [if_pos (by simp [Region.wanted,yielded,s71])]
  ·go_simp;refine (r2_Whole (N:=N) (by have:=eI.size; omega) 12 (by omega) (by omega)).mono ?_;rintro e wj ⟨vj,rfl,hj,ej⟩;go_wp2_with fail;exact hK.out _ _ ej hj
  obtain⟨_,s71,rfl⟩:=hA 24 (by kernel_rfl) 71 rfl;obtain⟨x72,s72,j72⟩:=hA 25 (by kernel_rfl) 72 rfl;replace j72:Mn.p (Mn.rat N (((12:Int):Rat))) x72 wi:=j72;obtain⟨x73,s73,j73⟩:=hA 26 (by kernel_rfl) 73 rfl;replace j73:Mn.p (Mn.rat N ((12:Int):Rat)) x73 wi:=j73;clear hB hA;rw [if_pos (by simp [Region.wanted,yielded,s71])]
  ·go_simp;refine (r2_same j72 j73 HS12.out rfl).mono ?_;rintro e wj ⟨rfl,ej⟩;go_wp2_with fail;exact hK.out _ _ ej rfl
  obtain⟨_,s71,rfl⟩:=hA 24 (by kernel_rfl) 71 rfl;obtain⟨_,s74,rfl⟩:=hA 27 (by kernel_rfl) 74 rfl
  rotate_left
  obtain⟨_,s75,rfl⟩:=hA 28 (by kernel_rfl) 75 rfl
  rotate_left
  obtain⟨_,s76,rfl⟩:=hA 29 (by kernel_rfl) 76 rfl;have o9:=oOf (hB 9 (by kernel_rfl)) rfl;clear hB hA;rw [if_pos (by simp [Region.wanted,yielded,s76])];have cc0:=eI.cell s0;have cc1:=eI.cell s1;have cc2:=eI.cell s2;have cc3:=eI.cell s3
  ·go_simp;exact hK.out _ _ (Ext.refl _) (hR11.ext eI)
  obtain⟨_,s76,rfl⟩:=hA 29 (by kernel_rfl) 76 rfl;clear hB hA;rw [if_pos (by simp [Region.wanted,yielded,s76])]
  ·go_simp;refine (r2_Whole (N:=N) (by have:=eI.size; omega) 4 (by omega) (by omega)).mono ?_;rintro e wj ⟨vj,rfl,hj,ej⟩;go_wp2_with fail;exact hK.out _ _ ej hj
  obtain⟨_,s76,rfl⟩:=hA 29 (by kernel_rfl) 76 rfl;obtain⟨x77,s77,j77⟩:=hA 30 (by kernel_rfl) 77 rfl;replace j77:Mn.p (Mn.rat N (((4:Int):Rat))) x77 wi:=j77;obtain⟨x78,s78,j78⟩:=hA 31 (by kernel_rfl) 78 rfl;replace j78:Mn.p (Mn.rat N ((4:Int):Rat)) x78 wi:=j78;clear hB hA;rw [if_pos (by simp [Region.wanted,yielded,s76])]
  ·go_simp;refine (r2_same j77 j78 HS4.out rfl).mono ?_;rintro e wj ⟨rfl,ej⟩;go_wp2_with fail;exact hK.out _ _ ej rfl
  obtain⟨_,s76,rfl⟩:=hA 29 (by kernel_rfl) 76 rfl;obtain⟨_,s79,rfl⟩:=hA 32 (by kernel_rfl) 79 rfl
  rotate_left
  obtain⟨_,s80,rfl⟩:=hA 33 (by kernel_rfl) 80 rfl
  rotate_left
  all_goals clear hB hA
  all_goals go_simp
  all_goals exact hK.out _ _ (Ext.refl _) rfl
 intro vals wz eZ hJ;have J0:vals 34=_:=hJ 34 (by decide) (by decide);clear hJ;simp only [pr,Nat.reduceAdd,J0];clear J0;refine stepL_done (by kernel_rfl) ?_ _;go_wp2;go_ret;exact⟨rfl,hE.trans eZ⟩
def RetXs (N:Nat) (w:World) (n:Nat) (x:Nat→Rat) (e:Ending) (w':World):Prop:=∃ A c,e=.returned (.tuple #[.slice A n c,.bool true])∧LsV N 0 w'.heap.size w' (.slice A n c) n x∧Ext w w'
def RetMtB (N:Nat) (w:World) (m n:Nat) (X:Nat→Nat→Rat) (e:Ending) (w':World):Prop:=∃ A c,e=.returned (.slice A m c)∧MtV N 0 w'.heap.size w' (.slice A m c) m n X∧Ext w w'
set_option maxRecDepth 100000 in
theorem l34_solve0 {N lo hi:Nat} {w:World} {v1 v2 v3:Value} {m n:Nat} {X:Nat→Nat→Rat} {y p:Nat→Rat} (h1:MtV N lo hi w v1 m n X) (h2:LsV N lo hi w v2 m y) (h3:LsV N lo hi w v3 m p) (d:Md m n X y p) (hr:¬ Reg n (nmat X p m)) :
  Calls Tryz.prog 15 #[.agg #[v1,v2,v3]] w (RetV w (.tuple #[.slice none 0 0,.bool false])):=by
 have HI:Hid (ivB n (nmat X p m)=false):=by
  rw [Hid];cases h9:ivB n (nmat X p m) with
  | false=>rfl
  | true=>exact absurd (ivB_reg.1 h9) hr
 have HD:=Lib.hid d;have HG:=Lib.hid hr;have hN:=h1.le;have hm0:=d.m0;have hm7:=d.m7;have hn0:=d.n0;have hn4:=d.n4;have hI1:=h1;have hI2:=h2;have hI3:=h3;obtain⟨A1,c1,rfl,hmc,hcm⟩:=h1.form;obtain⟨A2,c2,rfl,hmc2,hcm2⟩:=h2.form;obtain⟨A3,c3,rfl,hmc3,hcm3⟩:=h3.form;unfold maxLen at hcm hcm2 hcm3;clear h1 h2 h3 d hr;go_enter Tryz.func15,Tryz.ntmps15;go_wp2_with (go_at_call 51; refine Hid.out ?_);refine boxesC1 ?_;intro W hE hsz B0;refine (l34_normal (hI1.ext hE) (hI2.ext hE) (hI3.ext hE) hm0 (by omega) hn0 (by omega) HD.out.hX HD.out.hy HD.out.hp HD.out.hK1).mono ?_;rintro e w1 ⟨AN,cN,AR,cR,rfl,hNM,hNR,e1⟩;replace hNM:=MtV.all hNM;replace hNR:=LsV.all hNR;replace hE:=hE.trans e1;clear e1 hsz B0;go_wp2_with (go_at_call 63; refine Hid.out ?_);refine (r5_inverse hNM hn0 (by omega) HD.out.K_ht HD.out.hK2).mono ?_;rw [HI.out];rintro e w2 ⟨e2,hh⟩
 rcases hh with ⟨-,rfl⟩ | ⟨h9,-⟩
 case inr=>cases h9
 go_wp2
 first | go_ret2 | skip
 exact⟨rfl,hE.trans e2⟩
set_option maxRecDepth 100000 in
theorem l34_solve {N lo hi:Nat} {w:World} {v1 v2 v3:Value} {m n:Nat} {X:Nat→Nat→Rat} {y p:Nat→Rat} (h1:MtV N lo hi w v1 m n X) (h2:LsV N lo hi w v2 m y) (h3:LsV N lo hi w v3 m p) (d:Md m n X y p) (hr:Reg n (nmat X p m)) :
  Calls Tryz.prog 15 #[.agg #[v1,v2,v3]] w (RetXs N w n (xS m n X y p)):=by
 have HI:Hid (ivB n (nmat X p m)=true):=ivB_reg.2 hr;obtain⟨Rf,hRf⟩:=hid_eq (RetXs N w n (xS m n X y p));rw [←hRf.out];have HD:=Lib.hid d;have HG:=Lib.hid hr;have hN:=h1.le;have hm0:=d.m0;have hm7:=d.m7;have hn0:=d.n0;have hn4:=d.n4;have hI1:=h1;have hI2:=h2;have hI3:=h3;obtain⟨A1,c1,rfl,hmc,hcm⟩:=h1.form;obtain⟨A2,c2,rfl,hmc2,hcm2⟩:=h2.form;obtain⟨A3,c3,rfl,hmc3,hcm3⟩:=h3.form;unfold maxLen at hcm hcm2 hcm3;clear h1 h2 h3 d hr;go_enter Tryz.func15,Tryz.ntmps15;go_wp2_with (go_at_call 51; refine Hid.out ?_);refine boxesC1 ?_;intro W hE hsz B0;refine (l34_normal (hI1.ext hE) (hI2.ext hE) (hI3.ext hE) hm0 (by omega) hn0 (by omega) HD.out.hX HD.out.hy HD.out.hp HD.out.hK1).mono ?_;rintro e w1 ⟨AN,cN,AR,cR,rfl,hNM,hNR,e1⟩;replace hNM:=MtV.all hNM;replace hNR:=LsV.all hNR;replace hE:=hE.trans e1;clear e1 hsz B0;go_wp2_with (go_at_call 63; refine Hid.out ?_);refine (r5_inverse hNM hn0 (by omega) HD.out.K_ht HD.out.hK2).mono ?_;rw [HI.out];rintro e w2 ⟨e2,hh⟩
 rcases hh with ⟨h9,-⟩ | ⟨-,AQ,cQ,rfl,hQ⟩
 case inl=>cases h9
 replace hE:=hE.trans e2;replace hNR:=hNR.ext e2;go_wp2_with (go_at_call 31; refine Hid.out ?_);refine (r5_apply hQ hNR (by omega) hn0 (by omega) HD.out.q_ht HD.out.b_ht HD.out.hK3).mono ?_;rintro e w3 ⟨AX,cX,rfl,hX,e3⟩;go_wp2
 first | go_ret2 | skip
 rw [hRf.out];exact⟨_,_,rfl,LsV.all hX,hE.trans e3⟩
set_option maxRecDepth 100000 in
theorem l38_cofactor {N lo hi:Nat} {w:World} {v1 v2 v3:Value} {m n:Nat} {X:Nat→Nat→Rat} {y p:Nat→Rat} (h1:MtV N lo hi w v1 m n X) (h2:LsV N lo hi w v2 m y) (h3:LsV N lo hi w v3 m p) (d:Md m n X y p) (hr:Reg n (nmat X p m)) :
  Calls Tryz.prog 46 #[.agg #[v1,v2,v3]] w (RetMtB N w n n (qS m n X p)):=by
 have HI:Hid (ivB n (nmat X p m)=true):=ivB_reg.2 hr;obtain⟨Rf,hRf⟩:=hid_eq (RetMtB N w n n (qS m n X p));rw [←hRf.out];have HD:=Lib.hid d;have HG:=Lib.hid hr;have hN:=h1.le;have hm0:=d.m0;have hm7:=d.m7;have hn0:=d.n0;have hn4:=d.n4;have hI1:=h1;have hI2:=h2;have hI3:=h3;obtain⟨A1,c1,rfl,hmc,hcm⟩:=h1.form;obtain⟨A2,c2,rfl,hmc2,hcm2⟩:=h2.form;obtain⟨A3,c3,rfl,hmc3,hcm3⟩:=h3.form;unfold maxLen at hcm hcm2 hcm3;clear h1 h2 h3 d hr;go_enter Tryz.func46,Tryz.ntmps46;go_wp2_with (go_at_call 51; refine Hid.out ?_);refine boxesC1 ?_;intro W hE hsz B0;refine (l34_normal (hI1.ext hE) (hI2.ext hE) (hI3.ext hE) hm0 (by omega) hn0 (by omega) HD.out.hX HD.out.hy HD.out.hp HD.out.hK1).mono ?_;rintro e w1 ⟨AN,cN,AR,cR,rfl,hNM,hNR,e1⟩;replace hNM:=MtV.all hNM;replace hNR:=LsV.all hNR;replace hE:=hE.trans e1;clear e1 hsz B0;go_wp2_with (go_at_call 63; refine Hid.out ?_);refine (r5_inverse hNM hn0 (by omega) HD.out.K_ht HD.out.hK2).mono ?_;rw [HI.out];rintro e w2 ⟨e2,hh⟩
 rcases hh with ⟨h9,-⟩ | ⟨-,AQ,cQ,rfl,hQ⟩
 case inl=>cases h9
 go_wp2
 first | go_ret | skip
 rw [hRf.out];exact⟨_,_,rfl,MtV.all hQ,hE.trans e2⟩
set_option maxRecDepth 100000 in
theorem l38_least {N lo hi:Nat} {w:World} {v1 v2 v3:Value} {m n:Nat} {X:Nat→Nat→Rat} {y p:Nat→Rat} (h1:MtV N lo hi w v1 m n X) (h2:LsV N lo hi w v2 m y) (h3:LsV N lo hi w v3 m p) (d:Md m n X y p) (hr:Reg n (nmat X p m)) :
  Calls Tryz.prog 20 #[.agg #[v1,v2,v3]] w (RetR N w (obj m p (vS m n X y p))):=by
 obtain⟨Rf,hRf⟩:=hid_eq (RetR N w (obj m p (vS m n X y p)));rw [←hRf.out];obtain⟨kv,hkv⟩:∃ kv,kv=n*(400+22000000+1)+1+400+1:=⟨_,rfl⟩
 have hkb:kv≤90000000:=by have:=d.n4; omega
 have HKV:=Lib.hid hkv
 have HK:Hid (m*(400+(kv+kv)+1)+1≤29000000000):=by
  have h8:m*(400+(kv+kv)+1)≤7*(400+(kv+kv)+1):=Nat.mul_le_mul_right _ d.m7;rw [Hid]; omega
 clear hkv hkb;have HD:=Lib.hid d;have HG:=Lib.hid hr;have hN:=h1.le;have hm0:=d.m0;have hm7:=d.m7;have hn0:=d.n0;have hn4:=d.n4;have hI1:=h1;have hI2:=h2;have hI3:=h3;obtain⟨A1,c1,rfl,hmc,hcm⟩:=h1.form;obtain⟨A2,c2,rfl,hmc2,hcm2⟩:=h2.form;obtain⟨A3,c3,rfl,hmc3,hcm3⟩:=h3.form;unfold maxLen at hcm hcm2 hcm3;clear h1 h2 h3 d hr;go_enter Tryz.func20,Tryz.ntmps20;go_upto_region 1 with (fail);refine boxes2 ?_;intro W hE hsz B0 B4;obtain⟨a0,a1,a2,-⟩:=cells3 B0;go_wp2_with (go_at_call 15; refine Hid.out ?_);refine (l34_solve (hI1.ext hE) (hI2.ext hE) (hI3.ext hE) HD.out HG.out).mono ?_;rintro e w1 ⟨AX,cX,rfl,hX,e1⟩;replace B4:=e1.block B4;replace B0:=e1.block B0;replace hE:=hE.trans e1;clear a0 a1 a2 e1;obtain⟨a0,a1,a2,-⟩:=cells3 B0;go_wp2_with (go_at_call 54; refine Hid.out ?_);refine (l34_objective (hI1.ext hE) (hI2.ext hE) (hI3.ext hE) hX hm0 (by omega) hn0 (by omega) HD.out.hX HD.out.hy HD.out.hp HD.out.x_ht HKV.out HK.out).mono ?_;intro e w2 hh;obtain⟨nb,A9,n9,c9,A8,n8,c8,rfl,hnb,g9,g8,e2⟩:=hh.form;replace B4:=e2.block B4;replace hE:=hE.trans e2;clear a0 a1 a2 B0 e2;obtain⟨y0,y1,y2,y3,y4,y5,y6,y7⟩:=cells4 B4;go_wp2;rw [hRf.out];exact fin_rat rfl rfl rfl hE B4 (by omega) hN g9 g8 hnb
theorem l38_sub {N:Nat} {w:World} {v v':Value} {x y:Rat} (h:RatV N w v x) (h':RatV N w v' y) (hz:Sz x) (hz':Sz y) :
  Calls Tryz.prog 19 #[v,v'] w (RetR N w (x - y)):=by
 obtain⟨q,hq⟩:=hid_eq (x - y);rw [←hq.out];have hN:=h.le;have hI:=h;have hI':=h';have HZ:=Lib.hid hz;have HZ':=Lib.hid hz';obtain⟨m1,X1,i1,d1,X2,i2,d2,rfl,hm1,gx1,gx2⟩:=h.parts;obtain⟨m2,Y1,i3,d3,Y2,i4,d4,rfl,hm2,gy1,gy2⟩:=h'.parts;clear hz hz' h h' gx1 gx2 gy1 gy2;go_enter Tryz.func19,Tryz.ntmps19;go_wp2_with (go_at_call 69; refine Hid.out ?_);refine boxesC3 ?_;intro W hE hsz B0 B1 B2;refine (r2_sub (hI.ext hE) (hI'.ext hE) HZ.out HZ'.out).mono ?_;rw [←hq.out];intro e w1 hh;obtain⟨n3,A3,k3,c3,A4,k4,c4,rfl,hb3,g3,g4,e1⟩:=hh.form;replace hE:=hE.trans e1;replace B2:=e1.block B2;obtain⟨t0,t1,t2,t3,t4,t5,t6,t7⟩:=cells4 B2;go_wp2;exact fin_rat rfl rfl rfl hE B2 (by omega) hN g3 g4 hb3
theorem l38_add {N:Nat} {w:World} {v v':Value} {x y:Rat} (h:RatV N w v x) (h':RatV N w v' y) (hz:Sz x) (hz':Sz y) :
  Calls Tryz.prog 33 #[v,v'] w (RetR N w (x+y)):=by
 obtain⟨q,hq⟩:=hid_eq (x+y);rw [←hq.out];have hN:=h.le;have hI:=h;have hI':=h';have HZ:=Lib.hid hz;have HZ':=Lib.hid hz';obtain⟨m1,X1,i1,d1,X2,i2,d2,rfl,hm1,gx1,gx2⟩:=h.parts;obtain⟨m2,Y1,i3,d3,Y2,i4,d4,rfl,hm2,gy1,gy2⟩:=h'.parts;clear hz hz' h h' gx1 gx2 gy1 gy2;go_enter Tryz.func33,Tryz.ntmps33;go_wp2_with (go_at_call 79; refine Hid.out ?_);refine boxesC3 ?_;intro W hE hsz B0 B1 B2;refine (r2_add (hI.ext hE) (hI'.ext hE) HZ.out HZ'.out).mono ?_;rw [←hq.out];intro e w1 hh;obtain⟨n3,A3,k3,c3,A4,k4,c4,rfl,hb3,g3,g4,e1⟩:=hh.form;replace hE:=hE.trans e1;replace B2:=e1.block B2;obtain⟨t0,t1,t2,t3,t4,t5,t6,t7⟩:=cells4 B2;go_wp2;exact fin_rat rfl rfl rfl hE B2 (by omega) hN g3 g4 hb3
theorem l38_mul {N:Nat} {w:World} {v v':Value} {x y:Rat} (h:RatV N w v x) (h':RatV N w v' y) (hz:Sz x) (hz':Sz y) :
  Calls Tryz.prog 40 #[v,v'] w (RetR N w (x*y)):=by
 obtain⟨q,hq⟩:=hid_eq (x*y);rw [←hq.out];have hN:=h.le;have hI:=h;have hI':=h';have HZ:=Lib.hid hz;have HZ':=Lib.hid hz';obtain⟨m1,X1,i1,d1,X2,i2,d2,rfl,hm1,gx1,gx2⟩:=h.parts;obtain⟨m2,Y1,i3,d3,Y2,i4,d4,rfl,hm2,gy1,gy2⟩:=h'.parts;clear hz hz' h h' gx1 gx2 gy1 gy2;go_enter Tryz.func40,Tryz.ntmps40;go_wp2_with (go_at_call 85; refine Hid.out ?_);refine boxesC3 ?_;intro W hE hsz B0 B1 B2;refine (r2_mul (hI.ext hE) (hI'.ext hE) HZ.out HZ'.out).mono ?_;rw [←hq.out];intro e w1 hh;obtain⟨n3,A3,k3,c3,A4,k4,c4,rfl,hb3,g3,g4,e1⟩:=hh.form;replace hE:=hE.trans e1;replace B2:=e1.block B2;obtain⟨t0,t1,t2,t3,t4,t5,t6,t7⟩:=cells4 B2;go_wp2;exact fin_rat rfl rfl rfl hE B2 (by omega) hN g3 g4 hb3
set_option maxRecDepth 100000 in
theorem l38_div {N:Nat} {w:World} {v v':Value} {x y:Rat} (h:RatV N w v x) (h':RatV N w v' y) (hz:Sz x) (hz':Sz y) (hy:y≠0) :
  Calls Tryz.prog 49 #[v,v'] w (RetR N w (x / y)):=by
 obtain⟨q,hq⟩:=hid_eq (x / y);rw [←hq.out];have hN:=h.le;have hI:=h;have hI':=h';have HZ:=Lib.hid hz;have HZ':=Lib.hid hz';have HY:=Lib.hid hy;obtain⟨m1,X1,i1,d1,X2,i2,d2,rfl,hm1,gx1,gx2⟩:=h.parts;obtain⟨m2,Y1,i3,d3,Y2,i4,d4,rfl,hm2,gy1,gy2⟩:=h'.parts;clear hz hz' h h' gx1 gx2 gy1 gy2 hy;go_enter Tryz.func49,Tryz.ntmps49;go_wp2_with (go_at_call 91; refine Hid.out ?_);refine boxesC3 ?_;intro W hE hsz B0 B1 B2;refine (r2_divide (hI.ext hE) (hI'.ext hE) HZ.out HZ'.out HY.out).mono ?_;rw [←hq.out];intro e w1 hh;obtain⟨n3,A3,k3,c3,A4,k4,c4,rfl,hb3,g3,g4,e1⟩:=hh.form;replace hE:=hE.trans e1;replace B2:=e1.block B2;go_upto_region 2 with (fail);refine boxes1 ?_;intro w2 e2 hsz2 B5;replace hE:=hE.trans e2;replace B2:=e2.block B2;replace g3:=g3.ext e2;replace g4:=g4.ext e2;obtain⟨t0,t1,t2,t3,t4,t5,t6,t7⟩:=cells4 B2;obtain⟨s0,s1,s2,s3,-⟩:=cells4 B5;go_wp2;exact fin_rat rfl rfl rfl hE B2 (by omega) hN g3 g4 hb3
theorem l38_inside {N lo hi:Nat} {w:World} {v:Value} {Z:Lin} (h:LinV N lo hi w v Z) (z:Int) :
  Calls Tryz.prog 13 #[v,.int .i64 z] w (RetV w (.bool (inB Z.m z))):=by
 obtain⟨A1,c1,A2,c2,A3,c3,rfl,-,-,-,hm,-⟩:=h.parts;clear h;obtain⟨m,hmd⟩:=hid_eq Z.m;rw [←hmd.out] at hm ⊢;obtain⟨r,hr⟩:=hid_eq (inB m z);rw [←hr.out]
 by_cases h0:z < 0
 ·have HR:Hid (r=false):=by rw [Hid,hr.out]; unfold inB; rw [decide_eq_false (by omega)]; rfl
  have t0:decide (0≤z)=false:=decide_eq_false (by omega);clear hr;go_enter Tryz.func13,Tryz.ntmps13;go_upto_region 1 with (fail);refine boxes1 ?_;intro W hE hsz B0;go_wp2;go_ret;exact⟨ret_bool HR.out.symm,hE⟩
 ·have t0:decide (0≤z)=true:=decide_eq_true (by omega)
  by_cases h1:z < (m:Int)
  ·have HR:Hid (r=true):=by rw [Hid,hr.out]; unfold inB; rw [decide_eq_true (by omega),decide_eq_true h1]; rfl
   have t1:decide (z < (m:Int))=true:=decide_eq_true h1;clear hr;go_enter Tryz.func13,Tryz.ntmps13;go_upto_region 1 with (fail);refine boxes1 ?_;intro W hE hsz B0;obtain⟨a0,-⟩:=cells3 B0;go_wp2;go_ret;exact⟨ret_bool HR.out.symm,hE⟩
  ·have HR:Hid (r=false):=by rw [Hid,hr.out]; unfold inB; rw [decide_eq_true (by omega),decide_eq_false h1]; rfl
   have t1:decide (z < (m:Int))=false:=decide_eq_false h1;clear hr;go_enter Tryz.func13,Tryz.ntmps13;go_upto_region 1 with (fail);refine boxes1 ?_;intro W hE hsz B0;obtain⟨a0,-⟩:=cells3 B0;go_wp2;go_ret;exact⟨ret_bool HR.out.symm,hE⟩
set_option maxRecDepth 100000 in
theorem l38_checked {N lo hi lo' hi':Nat} {w:World} {v u:Value} {Z:Lin} {k:Nat} {R:Nat→Raw} (h:LinV N lo hi w v Z) (hx:LsR N lo' hi' w u k R) (hf:few34 7 4 Z=true) (hsx:∀ i,i < k→RawL (R i)) :
  Calls Tryz.prog 12 #[v,u] w (RetV w (.int .i64 (code38 Z k R))):=by
 obtain⟨f1,f2,f3⟩:=few34_sz hf;have HF2:=Lib.hid f2;have HF3:=Lib.hid f3;have HSX:=Lib.hid hsx;have HF:=Lib.hid hf;have hI:=h;have hIx:=hx;obtain⟨r,hr⟩:=hid_eq (code38 Z k R);obtain⟨q,hq⟩:=hid_eq (codeOf Z);rw [←hr.out];have HCR:Hid (q≠0→r=q):=fun h9=>by rw [hr.out]; unfold code38; rw [←hq.out,if_pos h9]
 have HCS:Hid (q=0→r=if allB k (fun i=>okR (R i))=false then 1 else if ivB (Z.L 0) (nmat (fun i j=>ratOf (Z.A i j)) (fun i=>ratOf (Z.p i)) Z.m)=false then 14 else 0):=fun h9=>by rw [hr.out]; unfold code38; rw [←hq.out,if_neg (by simpa using h9)]
 have HQ:Hid (q=codeOf Z):=hq;obtain⟨A1,c1,A2,c2,A3,c3,rfl,h1,h2,h3,-⟩:=h.parts;obtain⟨A4,c4,rfl,-⟩:=hx.form;have H123:=Lib.hid (And.intro h1 (And.intro h2 h3));clear h hx hf hsx f1 f2 f3 hr h1 h2 h3;go_enter Tryz.func12,Tryz.ntmps12;go_wp2_with (go_at_call 59; refine Hid.out ?_);refine boxesC1 ?_;intro W hE hsz B0;refine (l34_checked (hI.ext hE) HF2.out HF3.out).mono ?_;rintro e w1 ⟨rfl,e1⟩;rw [←hq.out];replace hE:=hE.trans e1;replace B0:=e1.block B0;clear e1 hq
 by_cases h0:q=0
 case neg =>
  have hr0:(q == 0)=false:=by simpa using h0
  have hr1:(q != 0)=true:=by simpa using h0
  have HRQ:Hid (r=q):=HCR.out h0;clear h0;go_wp2;go_ret;exact⟨ret_int HRQ.out.symm,hE⟩
 case pos =>
 have HS:=Lib.hid (HCS.out h0);have HQ0:Hid (codeOf Z=0):=by rw [Hid,←HQ.out]; exact h0
 subst h0;clear HCS HCR HQ;go_wp2_with (go_at_call 29; refine Hid.out ?_);refine (r2_validListL (hIx.ext hE) HSX.out).mono ?_;obtain⟨s,hs⟩:=hid_eq (allB k (fun i=>okR (R i)));rw [←hs.out] at HS ⊢;rintro e w2 ⟨rfl,e2⟩;replace hE:=hE.trans e2;replace B0:=e2.block B0;clear e2 hs;cases s with
 | false =>
  have HRQ:Hid (r=1):=by rw [Hid,HS.out]; rfl
  go_wp2;go_ret;exact⟨ret_int HRQ.out.symm,hE⟩
 | true =>
  have f:=few34_lin HF.out HQ0.out;obtain⟨h1,h2,h3⟩:=H123.out;obtain⟨k1,k2,k3⟩:=f.mem h1 h2 h3;have e1:=f.nl;have e2:=f.np;rw [e1,e2] at B0 ⊢;have hd:=Lib.hid f.md;clear h1 h2 h3 H123 e1 e2 f;obtain⟨a0,a1,a2,-⟩:=cells3 B0
  by_cases hg:Reg (Z.L 0) (nmat (fun i j=>ratOf (Z.A i j)) (fun i=>ratOf (Z.p i)) Z.m)
  ·have HRQ:Hid (r=0):=by rw [Hid,HS.out,ivB_reg.2 hg]; rfl
   have HG:=Lib.hid hg;clear hg HS;go_wp2_with (go_at_call 15; refine Hid.out ?_);refine (l34_solve (k1.ext hE) (k2.ext hE) (k3.ext hE) hd.out HG.out).mono ?_;rintro e w3 ⟨AX,cX,rfl,-,e3⟩;go_wp2;go_ret;exact⟨ret_int HRQ.out.symm,hE.trans e3⟩
  ·have HRQ:Hid (r=14):=by
    rw [Hid,HS.out];cases h9:ivB (Z.L 0) (nmat (fun i j=>ratOf (Z.A i j)) (fun i=>ratOf (Z.p i)) Z.m) with
    | false=>rfl
    | true=>exact absurd (ivB_reg.1 h9) hg
   have HG:=Lib.hid hg;clear hg HS;go_wp2_with (go_at_call 15; refine Hid.out ?_);refine (l34_solve0 (k1.ext hE) (k2.ext hE) (k3.ext hE) hd.out HG.out).mono ?_;rintro e w3 ⟨rfl,e3⟩;go_wp2;go_ret;exact⟨ret_int HRQ.out.symm,hE.trans e3⟩
end Go.Proofs.YthkkknjcoidioaaGreat
namespace Go.Proofs.YthkkknjcoidioaaGreat
open Go.RowKit Go.ChangeShapes Go.ChangeAt
theorem cells_int:Tryz.prog.cellsOf 34=2:=by kernel_rfl
theorem cells_rat:Tryz.prog.cellsOf 36=4:=by kernel_rfl
theorem cells_bool:Tryz.prog.cellsOf 4=1:=by kernel_rfl
theorem cells_u32:Tryz.prog.cellsOf 132=1:=by kernel_rfl
theorem cells_u32s:Tryz.prog.cellsOf 32=1:=by kernel_rfl
theorem cells_rats:Tryz.prog.cellsOf 24=1:=by kernel_rfl
section
variable {H:Type} {enc:TypeId×Value→H} {w:World} {spare:Nat→Bool} {held:Bool}
instance:Inhabited Raw:=⟨⟨false,[],false,[]⟩⟩
theorem spot_none {v:Value} (a:Addr) (h:w.cell? (a.add 0)=some v):a=⟨a.block,a.off,none⟩:=by
 obtain⟨b,off,spot⟩:=a;have hs:=World.cell?_spot h;have h2:spot=none:=by simpa [Addr.add] using hs
 subst h2; rfl
theorem gs_of_trod {n:Nat} {v:Value} {x:DataW H×List MemPlace} (h:DataW.trod enc Tryz.prog w 0 spare held n 32 [v]=some x):∃ l,Gs w.heap.size w v l:=by
 rcases Go.Deep.open_slice1 Tryz.underlying32 cells_u32 h with ⟨hcs,-⟩ | ⟨a,len,cap,m,n',V,D,Pl,hcs,-,hl,hm,hmm,-,hx⟩
 ·simp only [List.cons.injEq,and_true] at hcs;subst hcs;exact⟨[],Gs.nil (Nat.le_refl _) _ (Nat.zero_le _)⟩
 ·simp only [List.cons.injEq,and_true] at hcs;subst hcs;have hlm:len≤m:=by rw [hmm]; split <;> omega
  have hv:∀ i,i < len→∃ z:Nat,V i=.int .u32 (z:Int)∧z < 4294967296:=fun i hi=>by
   obtain⟨-,h2⟩:=hx i (by omega);obtain⟨z,hz,-,hw⟩:=DataW.trod_int Tryz.underlying132 h2;simp only [List.cons.injEq,and_true] at hz;have hb:=bounds_u32 hw;exact⟨z.toNat,by rw [hz]; congr 1; omega,by omega⟩
  obtain⟨f,hf⟩:=Go.Deep.choose_lt (α:=Nat) hv;refine⟨(List.range len).map f,Nat.le_refl _,_,len,cap,rfl,by simp,hl,hm,fun y hy=>?_,fun h0=>?_⟩
  ·obtain⟨i,hi,rfl⟩:=List.mem_map.1 hy;exact (hf i (by simpa using hi)).2
  ·have h1:=(hx 0 (by omega)).1;have ha:=spot_none a h1;refine⟨a.block,a.off,by rw [←ha],⟨?_,.inl ?_⟩,fun i hi=>?_⟩
   ·rw [ha,add_none] at h1; exact cell_lt (p:=⟨a.block,a.off+0,none⟩) h1
   ·rw [ha,add_none] at h1; exact cell_lt (p:=⟨a.block,a.off+0,none⟩) h1
   ·have h2:=(hx i (by omega)).1;rw [ha,add_none,(hf i hi).1] at h2;rw [h2];simp [hi]
theorem rat_of_trod {n:Nat} {c0 c1 c2 c3:Value} {x:DataW H×List MemPlace} (h:DataW.trod enc Tryz.prog w 0 spare held n 36 [c0,c1,c2,c3]=some x) :
  ∃ R:Raw,c0=.bool R.b1∧c2=.bool R.b2∧Gs w.heap.size w c1 R.l1∧Gs w.heap.size w c3 R.l2:=by
 obtain⟨y0,y1,n1,-,-,h0,h1⟩:=trod_struct2 Tryz.underlying36 h;simp only [cells_int,List.drop_zero,List.take_succ_cons,List.take_zero,List.drop_succ_cons] at h0 h1;obtain⟨z0,z1,n2,-,-,k0,k1⟩:=trod_struct2 Tryz.underlying34 h0;obtain⟨z2,z3,n3,-,-,k2,k3⟩:=trod_struct2 Tryz.underlying34 h1;simp only [cells_bool,cells_u32s,List.drop_zero,List.take_succ_cons,List.take_zero,List.drop_succ_cons] at k0 k1 k2 k3;obtain⟨b1,e1,-⟩:=DataW.trod_bool Tryz.underlying4 k0;obtain⟨b2,e2,-⟩:=DataW.trod_bool Tryz.underlying4 k2;obtain⟨l1,g1⟩:=gs_of_trod k1;obtain⟨l2,g2⟩:=gs_of_trod k3;simp only [List.cons.injEq,and_true] at e1 e2;exact⟨⟨b1,l1,b2,l2⟩,e1,e2,g1,g2⟩
theorem ls_of_trod {n:Nat} {v:Value} {x:DataW H×List MemPlace} (h:DataW.trod enc Tryz.prog w 0 spare held n 24 [v]=some x):∃ k R,LsR w.heap.size 0 w.heap.size w v k R:=by
 rcases Go.Deep.open_slice Tryz.underlying24 h with ⟨hcs,-⟩ | ⟨a,len,cap,m,n',D,Pl,hcs,-,hl,hm,hmm,-,hx⟩
 ·simp only [List.cons.injEq,and_true] at hcs;subst hcs;exact⟨0,fun _=>default,Nat.le_refl _,Nat.le_refl _,_,_,rfl,Nat.le_refl _,Nat.zero_le _,fun h0=>absurd h0 (by omega)⟩
 ·simp only [List.cons.injEq,and_true] at hcs;subst hcs;have hlm:len≤m:=by rw [hmm]; split <;> omega
  rw [cells_rat] at hx
  rcases Nat.eq_zero_or_pos len with hl0 | hl0
  ·subst hl0;exact⟨0,fun _=>default,Nat.le_refl _,Nat.le_refl _,_,_,rfl,hl,hm,fun h0=>absurd h0 (by omega)⟩
  obtain⟨B,O,rfl⟩:∃ B O,a=⟨B,O,none⟩:=by
   obtain⟨cs,h1,h2⟩:=hx 0 (by omega);obtain⟨-,hlen,hc⟩:=World.cells?_some h1;have k0:=hc 0 (by omega);have hz:(a.add (0*4)).add 0=a.add 0:=by rw [Go.Deep.add_add]
   rw [hz,List.getElem?_eq_getElem (by omega)] at k0;exact⟨_,_,spot_none a k0⟩
  have hv:∀ i,i < len→∃ R:Raw,At4 w.heap.size w B (O+i*4) R:=fun i hi=>by
   obtain⟨cs,h1,h2⟩:=hx i (by omega);obtain⟨-,hlen,hc⟩:=World.cells?_some h1
   match cs,hlen with
   | [c0,c1,c2,c3],_ =>
    obtain⟨R,e0,e2,g1,g3⟩:=rat_of_trod h2;have k0:=hc 0 (by omega);have k1:=hc 1 (by omega);have k2:=hc 2 (by omega);have k3:=hc 3 (by omega);rw [add_none,add_none] at k0 k1 k2 k3;refine⟨R,c1,c3,?_,?_,?_,?_,g1,g3⟩
    ·rw [←e0]; exact k0
    ·exact k1
    ·rw [←e2]; exact k2
    ·exact k3
  obtain⟨f,hf⟩:=Go.Deep.choose_lt (α:=Raw) hv;refine⟨len,f,Nat.le_refl _,Nat.le_refl _,_,cap,rfl,hl,hm,fun h0=>⟨B,O,rfl,Nat.zero_le _,?_,fun i hi=>hf i hi⟩⟩;obtain⟨s,t,k0,-⟩:=hf 0 h0;exact cell_lt k0
theorem mt_of_trod {n:Nat} {v:Value} {x:DataW H×List MemPlace} (h:DataW.trod enc Tryz.prog w 0 spare held n 23 [v]=some x):∃ k L R,MtR w.heap.size 0 w.heap.size w v k L R:=by
 rcases Go.Deep.open_slice1 Tryz.underlying23 cells_rats h with ⟨hcs,-⟩ | ⟨a,len,cap,m,n',V,D,Pl,hcs,-,hl,hm,hmm,-,hx⟩
 ·simp only [List.cons.injEq,and_true] at hcs;subst hcs;exact⟨0,fun _=>0,fun _ _=>default,Nat.le_refl _,Nat.le_refl _,_,_,rfl,Nat.le_refl _,Nat.zero_le _,fun h0=>absurd h0 (by omega)⟩
 ·simp only [List.cons.injEq,and_true] at hcs;subst hcs;have hlm:len≤m:=by rw [hmm]; split <;> omega
  rcases Nat.eq_zero_or_pos len with hl0 | hl0
  ·subst hl0;exact⟨0,fun _=>0,fun _ _=>default,Nat.le_refl _,Nat.le_refl _,_,_,rfl,hl,hm,fun h0=>absurd h0 (by omega)⟩
  obtain⟨B,O,rfl⟩:∃ B O,a=⟨B,O,none⟩:=⟨_,_,spot_none a (hx 0 (by omega)).1⟩
  have hv:∀ i,i < len→∃ kR:Nat×(Nat→Raw),w.cell? ⟨B,O+i,none⟩=some (V i)∧LsR w.heap.size 0 w.heap.size w (V i) kR.1 kR.2:=fun i hi=>by
   obtain⟨h1,h2⟩:=hx i (by omega);rw [add_none] at h1;obtain⟨k,R,hR⟩:=ls_of_trod h2;exact⟨(k,R),h1,hR⟩
  obtain⟨f,hf⟩:=Go.Deep.choose_lt (α:=Nat×(Nat→Raw)) hv;refine⟨len,fun i=>(f i).1,fun i=>(f i).2,Nat.le_refl _,Nat.le_refl _,_,cap,rfl,hl,hm,fun h0=>⟨B,O,rfl,Nat.zero_le _,cell_lt (hf 0 h0).1,fun i hi=>⟨V i,(hf i hi).1,(hf i hi).2⟩⟩⟩
end
theorem own:ownKnob Tryz.prog.godebug=none:=by kernel_rfl
theorem laidOut:laidOutB Tryz.prog=true:=by kernel_rfl
end Go.Proofs.YthkkknjcoidioaaGreat
