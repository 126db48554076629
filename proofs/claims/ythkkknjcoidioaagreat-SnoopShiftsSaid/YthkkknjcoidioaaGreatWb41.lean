import Derived.Test.YthkkknjcoidioaaGreatWb39
import Derived.Test.YthkkknjcoidioaaGreatWb38
import Derived.Test.YthkkknjcoidioaaGreatWb36
import Derived.Deep.CutBlock
import Derived.Test.YthkkknjcoidioaaGreatWb34
import Derived.Test.YthkkknjcoidioaaGreatWb32
import Derived.Test.YthkkknjcoidioaaGreatWb35
import Derived.Test.YthkkknjcoidioaaGreatWb40
import Derived.Test.YthkkknjcoidioaaGreatWb24
set_option linter.all false
set_option maxHeartbeats 8000000
namespace Go.Proofs.YthkkknjcoidioaaGreat
open Go.RowKit
def Six (v:Value):Prop:=∃ A1 n1 c1 A2 n2 c2 A3 n3 c3 A4 n4 c4 A5 n5 c5 fn f1 f2,v=.agg #[.slice A1 n1 c1,.slice A2 n2 c2,.slice A3 n3 c3,.slice A4 n4 c4,.slice A5 n5 c5,.func fn f1 f2]
def RetTd (N:Nat) (w:World) (q:Rat) (e:Ending) (w':World):Prop:=∃ v u,e=.returned (.tuple #[v,u,.int .i64 0])∧Six v∧RatV N w' u q∧Ext w w'
theorem szd_raw {q:Rat} (h:Sz q):RawSz (raw q):=⟨Nat.le_trans h.1 (by omega),Nat.le_trans h.2 (by omega)⟩
theorem sign_gt0 {q:Rat} (h:0 < q):decide (q.num.sign≤0)=false:=decide_eq_false (by
 have:0 < q.num:=num_pos h
 rw [Int.sign_eq_one_of_pos this]; decide)
set_option maxRecDepth 100000 in
theorem sn_tested {N lo hi lo2 hi2:Nat} {w:World} {v1 v2 v3 u:Value} {m n:Nat} {X:Nat→Nat→Rat} {y p:Nat→Rat} {dl:Rat} (h1:MtV N lo hi w v1 m n X) (h2:LsV N lo2 hi2 w v2 m y) (h3:LsV N lo2 hi2 w v3 m p) (hx:RatV N w u dl) (d:Md m n X y p) (hr:Reg n (nmat X p m)) (hzd:Sz dl) (z:Int) (hz:inB m z=true) (hd:0 < dl) (h0:rS m n X p z.toNat≠0) :
  Calls Tryz.prog 86 #[.agg #[v1,v2,v3],.int .i64 z,u] w (RetTd N w (rS m n X p z.toNat)):=by
 have HB:=Lib.hid hz;obtain⟨sg,hsg⟩:=hid_eq dl.num.sign;have t1:decide (sg≤0)=false:=by rw [hsg.out]; exact sign_gt0 hd
 obtain⟨q,hQ⟩:=hid_eq (rS m n X p z.toNat);obtain⟨sq,hsq⟩:=hid_eq q.num.sign;have t2:(sq == 0)=false:=by rw [hsq.out,hQ.out]; simpa [Int.sign_eq_zero_iff_zero,Rat.num_eq_zero] using h0
 have HQZ:Hid (Sz q):=by rw [Hid,hQ.out]; exact (d.r_ht _ (inB_true hz).2).sz (by omega)
 obtain⟨Rf,hRf⟩:=hid_eq (RetTd N w (rS m n X p z.toNat));rw [←hRf.out];rw [←hQ.out] at hRf;clear hz hd h0;have HD:=Lib.hid d;have HG:=Lib.hid hr;have hN:=h1.le;have hm0:=d.m0;have hm7:=d.m7;have hn0:=d.n0;have hn4:=d.n4;have hI1:=h1;have hI2:=h2;have hI3:=h3;obtain⟨A1,c1,rfl,hmc,hcm⟩:=h1.form;obtain⟨A2,c2,rfl,hmc2,hcm2⟩:=h2.form;obtain⟨A3,c3,rfl,hmc3,hcm3⟩:=h3.form;unfold maxLen at hcm hcm2 hcm3;clear h1 h2 h3 d hr;have HZD:=Lib.hid hzd;have hIx:=hx;obtain⟨b9,Q1,k1,l1,Q2,k2,l2,rfl,hb9,gx1,gx2⟩:=RatV.parts hx;clear hx hzd;go_enter Tryz.func86,Tryz.ntmps86;go_upto_region 1 with (fail);refine boxes4 ?_;intro W hE hsz B0 B1 B2 B3;obtain⟨a0,a1,a2,-⟩:=cells3 B0;obtain⟨d0,d1,d2,d3,-⟩:=cells4 B1;go_wp2_with (go_at_call 60; refine Hid.out ?_);refine boxesC1 ?_;intro W1 f1 hsz1 BS;replace hE:=hE.trans f1;replace B1:=f1.block B1;replace B2:=f1.block B2;replace B3:=f1.block B3;refine (sn_solve (hI1.ext hE) (hI2.ext hE) (hI3.ext hE) (one_rat (by have:=hE.size; omega) BS hb9 (gx1.ext hE) (gx2.ext hE)) HD.out (fun i _=>szd_raw HZD.out) (allB_true.2 fun _ _=>okR_raw _) HG.out).mono ?_;rintro e w1 ⟨v,rfl,hS,e1⟩;replace hE:=hE.trans e1;replace B1:=e1.block B1;replace B2:=e1.block B2;replace B3:=e1.block B3;have hl2:=blk_lt B2;have hl3:=blk_lt B3;clear a0 a1 a2 d0 d1 d2 d3 BS f1 e1;obtain⟨A5,c5,A6,c6,A7,c7,AQ,cq,AV,cv,gq,gl,hv6,-⟩:=id hS;subst hv6;go_upto_region 2 with (fail)
 refine boxes1 ?_;intro w2 e2 hsz2 B6;replace hS:=hS.ext e2;obtain⟨g6,hg6⟩:∃ g6,g6=w1.heap.size:=⟨_,rfl⟩
 rw [←hg6] at B6 ⊢;have hw1:w1.heap.size≤g6:=by omega
 replace hE:=hE.trans e2;replace B1:=e2.block B1;replace B2:=e2.block B2;replace B3:=e2.block B3;clear e2 hsz2 hg6;obtain⟨o0,o1,o2,o3,o4,o5,-⟩:=cells6 B6;go_wp2_with (go_at_call 61; refine Hid.out ?_);refine (sn_has hS hm7 _).mono ?_;rw [HB.out];rintro e w3 ⟨rfl,e3⟩;replace B1:=e3.block B1;replace B2:=e3.block B2;replace B3:=e3.block B3;replace B6:=e3.block B6;replace hS:=hS.ext e3;replace hE:=hE.trans e3;clear o0 o1 o2 o3 o4 o5 e3;obtain⟨o0,o1,o2,o3,o4,o5,-⟩:=cells6 B6;obtain⟨d0,d1,d2,d3,-⟩:=cells4 B1;go_wp2_with (go_at_call 124; refine Hid.out ?_);refine (f_sign (hIx.ext hE) HZD.out).mono ?_;rw [←hsg.out];rintro e w9 ⟨rfl,e9⟩;clear d0 d1 d2 d3;replace B1:=e9.block B1;replace B2:=e9.block B2;replace B3:=e9.block B3;replace B6:=e9.block B6;replace hS:=hS.ext e9;replace hE:=hE.trans e9;clear o0 o1 o2 o3 o4 o5 e9;obtain⟨o0,o1,o2,o3,o4,o5,-⟩:=cells6 B6;clear hIx gx1 gx2;obtain⟨A5',c5',A6',c6',A7',c7',AQ',cq',AV',cv',gq',gl',hv,b1,b2,k1,k2,k3,k4,k5⟩:=id hS;simp only [Value.agg.injEq,Array.mk.injEq,List.cons.injEq,Value.slice.injEq,Value.func.injEq,Value.pointer.injEq,Option.some.injEq,Addr.mk.injEq,and_true,true_and] at hv;obtain⟨⟨rfl,rfl⟩,⟨rfl,rfl⟩,⟨rfl,rfl⟩,⟨rfl,rfl⟩,⟨rfl,rfl⟩,rfl,rfl⟩:=hv;go_wp2_with (go_at_call 104; refine Hid.out ?_);refine (sn_redund b1 b2 k1 k3 k4 HD.out (inB_true HB.out).1 (inB_true HB.out).2).mono ?_;rw [←hQ.out];intro e w10 hh;obtain⟨nb,A9,n9,c9,A8,n8,c8,rfl,hnb,g9,g8,e10⟩:=hh.form
 clear b1 b2 k1 k2 k3 k4 k5;replace B1:=e10.block B1;replace B2:=e10.block B2;replace B3:=e10.block B3;replace B6:=e10.block B6;replace hS:=hS.ext e10;replace hE:=hE.trans e10;clear o0 o1 o2 o3 o4 o5 e10;obtain⟨o0,o1,o2,o3,o4,o5,-⟩:=cells6 B6;go_upto_region 7 with (fail);refine boxes1 ?_;intro w11 e11 hsz11 B11;have hR:=RatV.mk hnb (g9.ext e11) (g8.ext e11);clear g9 g8;obtain⟨g11,hg11⟩:∃ g11,g11=w10.heap.size:=⟨_,rfl⟩
 have hlg:g6 < g11:=by have:=blk_lt B6; omega
 rw [←hg11] at B11 ⊢;clear hg11 hsz11;replace B1:=e11.block B1;replace B2:=e11.block B2;replace B3:=e11.block B3;replace B6:=e11.block B6;replace hS:=hS.ext e11;replace hE:=hE.trans e11;clear o0 o1 o2 o3 o4 o5 e11;obtain⟨o0,o1,o2,o3,o4,o5,-⟩:=cells6 B6;obtain⟨r0,r1,r2,r3,-⟩:=cells4 B11;go_wp2_with (go_at_call 124; refine Hid.out ?_);refine (f_sign hR HQZ.out).mono ?_;rw [←hsq.out];rintro e w12 ⟨rfl,e12⟩;replace B11:=e12.block B11;replace hR:=hR.ext e12;clear r0 r1 r2 r3;replace B1:=e12.block B1;replace B2:=e12.block B2;replace B3:=e12.block B3;replace B6:=e12.block B6;replace hS:=hS.ext e12;replace hE:=hE.trans e12;clear o0 o1 o2 o3 o4 o5 e12;obtain⟨o0,o1,o2,o3,o4,o5,-⟩:=cells6 B6;obtain⟨o0,o1,o2,o3,o4,o5,-⟩:=cells6 B6;obtain⟨r0,r1,r2,r3,-⟩:=cells4 B11;obtain⟨bz,Az,kz,cz,Az',kz',cz',hvz,hbz,gz1,gz2⟩:=RatV.parts hR;simp only [Value.agg.injEq,Array.mk.injEq,List.cons.injEq,Value.slice.injEq,Value.bool.injEq,and_true,true_and] at hvz;obtain⟨rfl,⟨rfl,rfl,rfl⟩,rfl,rfl,rfl⟩:=hvz;go_upto_region 9 with (fail);have eC:=(Ext.refl w12).drew;refine region_late (fun w'=>w'.cell? ⟨g6,0,none⟩=some (.slice A5 m c5)∧w'.cell? ⟨g6,1,none⟩=some (.slice A6 m c6)∧w'.cell? ⟨g6,2,none⟩=some (.slice A7 m c7)∧w'.cell? ⟨g6,3,none⟩=some (.slice AQ n cq)∧w'.cell? ⟨g6,4,none⟩=some (.slice AV m cv)∧w'.cell? ⟨g6,5,none⟩=some (.func (.func 104) #[] #[.pointer (some ⟨gq,0,none⟩),.pointer (some ⟨gl,0,none⟩)])∧w'.cell? ⟨g11,0,none⟩=some (.bool nb)∧w'.cell? ⟨g11,1,none⟩=some (.slice A9 n9 c9)∧w'.cell? ⟨g11,2,none⟩=some (.bool false)∧w'.cell? ⟨g11,3,none⟩=some (.slice A8 n8 c8)) [] (by kernel_rfl) (by exact⟨eC.cell o0,eC.cell o1,eC.cell o2,eC.cell o3,eC.cell o4,eC.cell o5,eC.cell r0,eC.cell r1,eC.cell r2,eC.cell r3⟩) (fun hHeld=>?_)
 refine sT 0 (h:=?_);try simp only [nr]
 refine sT 1 (h:=?_);try simp only [nr]
 refine stepL_only (i:=2) rfl (by kernel_rfl) (fun K hK=>?_);rw [if_pos (by rfl)];refine wp_store_blk 94 _ _ rfl (by rfl) (by rfl) (eC.block B2) info_slv (by rfl) (by rfl) (by rfl) ?_;intro w13 D2 U2;have C2:=U2.chg (NoU.mk (eC.block B2) (by decide));have B3':=C2.blk (eC.block B3) (by omega);have hE':=C2.ext (hE.trans eC) (by omega);have gz1':=(gz1.ext eC).chg C2 (by omega);have gz2':=(gz2.ext eC).chg C2 (by omega);replace o0:=C2.cell (eC.cell o0) (by show g6 < _∨_≤g6; omega);replace o1:=C2.cell (eC.cell o1) (by show g6 < _∨_≤g6; omega);replace o2:=C2.cell (eC.cell o2) (by show g6 < _∨_≤g6; omega);replace o3:=C2.cell (eC.cell o3) (by show g6 < _∨_≤g6; omega);replace o4:=C2.cell (eC.cell o4) (by show g6 < _∨_≤g6; omega);replace o5:=C2.cell (eC.cell o5) (by show g6 < _∨_≤g6; omega);replace r0:=C2.cell (eC.cell r0) (by show g11 < _∨_≤g11; omega);replace r1:=C2.cell (eC.cell r1) (by show g11 < _∨_≤g11; omega);replace r2:=C2.cell (eC.cell r2) (by show g11 < _∨_≤g11; omega);replace r3:=C2.cell (eC.cell r3) (by show g11 < _∨_≤g11; omega);replace eC:=Ext.refl w13;clear hHeld;refine hK.out _ _ (by exact⟨eC.cell o0,eC.cell o1,eC.cell o2,eC.cell o3,eC.cell o4,eC.cell o5,eC.cell r0,eC.cell r1,eC.cell r2,eC.cell r3⟩) fun hHeld=>?_
 clear hK K;try simp only [nr]
 refine stepL_only (i:=3) rfl (by kernel_rfl) (fun K hK=>?_);obtain⟨y0,y1,y2,y3,y4,y5,y6,y7⟩:=cells4 B3';go_simp;obtain⟨w14,E4,D4,U4⟩:=ex4 B3' (.bool nb) (.slice A9 n9 c9) (.bool false) (.slice A8 n8 c8);rw [E4];have C4:=U4.chg (NoU.mk B3' (by decide));have D2':=C4.blk D2 (by omega);have hE2:=C4.ext hE' (by omega);have gz3:=gz1'.chg C4 (by omega);have gz4:=gz2'.chg C4 (by omega);replace o0:=C4.cell (eC.cell o0) (by show g6 < _∨_≤g6; omega);replace o1:=C4.cell (eC.cell o1) (by show g6 < _∨_≤g6; omega);replace o2:=C4.cell (eC.cell o2) (by show g6 < _∨_≤g6; omega);replace o3:=C4.cell (eC.cell o3) (by show g6 < _∨_≤g6; omega);replace o4:=C4.cell (eC.cell o4) (by show g6 < _∨_≤g6; omega);replace o5:=C4.cell (eC.cell o5) (by show g6 < _∨_≤g6; omega);replace r0:=C4.cell (eC.cell r0) (by show g11 < _∨_≤g11; omega);replace r1:=C4.cell (eC.cell r1) (by show g11 < _∨_≤g11; omega);replace r2:=C4.cell (eC.cell r2) (by show g11 < _∨_≤g11; omega);replace r3:=C4.cell (eC.cell r3) (by show g11 < _∨_≤g11; omega);replace eC:=Ext.refl w14;clear y0 y1 y2 y3 y4 y5 y6 y7;clear hHeld;refine hK.out _ _ (by exact⟨eC.cell o0,eC.cell o1,eC.cell o2,eC.cell o3,eC.cell o4,eC.cell o5,eC.cell r0,eC.cell r1,eC.cell r2,eC.cell r3⟩) fun hHeld=>?_
 clear hK K;try simp only [nr]
 refine sP 4 (h:=?_);try simp only [nr]
 refine stepL_done (by kernel_rfl) ?_ _;clear hHeld;obtain⟨x0,x1,x2,x3,x4,x5,-⟩:=cells6 D2';obtain⟨z0,z1,z2,z3,-⟩:=cells4 D4;clear o0 o1 o2 o3 o4 o5 r0 r1 r2 r3 E4;go_wp2;refine bodyPost_ret (v:=.tuple #[.agg #[.slice A5 m c5,.slice A6 m c6,.slice A7 m c7,.slice AQ n cq,.slice AV m cv,.func (.func 104) #[] #[.pointer (some ⟨gq,0,none⟩),.pointer (some ⟨gl,0,none⟩)]],.agg #[.bool nb,.slice A9 n9 c9,.bool false,.slice A8 n8 c8],.int .i64 0]) ?_ rfl ?_
 ·simp [results,x0,x1,x2,x3,x4,x5,z0,z1,z2,z3,go_sem]
 ·rw [hRf.out];exact⟨_,_,rfl,⟨_,_,_,_,_,_,_,_,_,_,_,_,_,_,_,_,_,_,rfl⟩,RatV.mk hbz gz3 gz4,hE2⟩
theorem GrowS.nil0 {base:Nat} {w:World} (hb:base≤w.heap.size):GrowS base w (.slice none 0 0) []:=⟨hb,rfl,.inl ⟨rfl,rfl⟩⟩
theorem set3 {w:World} {g:Nat} {t:TypeId} {y0 y1 y2:Value} (hb:w.heap[g]?=some (.cells #[y0,y1,y2] t (0,0))) (x0:Value):∃ w1,w.setCell ⟨g,0,none⟩ x0=w1∧w1.heap[g]?=some (.cells #[x0,y1,y2] t (0,0))∧Upd g w w1 :=
 ⟨_,rfl,by have h1:=heap_set hb 0 x0; simpa using h1,(Upd.refl g w).set 0 x0⟩
theorem set31 {w:World} {g:Nat} {t:TypeId} {y0 y1 y2:Value} (hb:w.heap[g]?=some (.cells #[y0,y1,y2] t (0,0))) (x0:Value):∃ w1,w.setCell ⟨g,1,none⟩ x0=w1∧w1.heap[g]?=some (.cells #[y0,x0,y2] t (0,0))∧Upd g w w1 :=
 ⟨_,rfl,by have h1:=heap_set hb 1 x0; simpa using h1,(Upd.refl g w).set 1 x0⟩
theorem set32 {w:World} {g:Nat} {t:TypeId} {y0 y1 y2:Value} (hb:w.heap[g]?=some (.cells #[y0,y1,y2] t (0,0))) (x0:Value):∃ w1,w.setCell ⟨g,2,none⟩ x0=w1∧w1.heap[g]?=some (.cells #[y0,y1,x0] t (0,0))∧Upd g w w1 :=
 ⟨_,rfl,by have h1:=heap_set hb 2 x0; simpa using h1,(Upd.refl g w).set 2 x0⟩
def RetCp (N:Nat) (w:World) (m n:Nat) (X:Nat→Nat→Rat) (y p:Nat→Rat) (e:Ending) (w':World):Prop :=
 ∃ h cap g2 c2 g3 c3 β κ lo,e=.returned (.agg #[.slice (some ⟨h,0,none⟩) m cap,.slice (some ⟨g2,0,none⟩) m c2,.slice (some ⟨g3,0,none⟩) m c3])∧w.heap.size≤g2∧g2 < g3∧g3 < lo∧cap≤maxLen∧OwnM N lo w'.heap.size w' h cap m n β κ X ∧
  m≤c2∧c2≤maxLen∧RowB N w' g2 c2 m y∧m≤c3∧c3≤maxLen∧RowB N w' g3 c3 m p∧Ext w w'
set_option maxRecDepth 100000 in
theorem n_copied {N lo hi lo2 hi2:Nat} {w:World} {v1 v2 v3:Value} {m n:Nat} {X:Nat→Nat→Rat} {y p:Nat→Rat} (h1:MtV N lo hi w v1 m n X) (h2:LsV N lo2 hi2 w v2 m y) (h3:LsV N lo2 hi2 w v3 m p) (hm0:0 < m) (hm:m≤64) (hn0:0 < n) (hn:n≤64) :
  Calls Tryz.prog 158 #[.agg #[v1,v2,v3]] w (RetCp N w m n X y p):=by
 obtain⟨Rf,hRf⟩:=hid_eq (RetCp N w m n X y p);rw [←hRf.out];have hN:=h1.le;obtain⟨A1,c1,rfl,hmc,hcm⟩:=h1.form;obtain⟨A2,c2,rfl,hmc2,hcm2⟩:=h2.form;obtain⟨A3,c3,rfl,hmc3,hcm3⟩:=h3.form;have hI1:=h1;have hI2:=h2;have hI3:=h3;clear h1 h2 h3;go_enter Tryz.func158,Tryz.ntmps158;go_upto_region 1 with (fail);refine boxes2 ?_;intro W hE hsz B0 B4;obtain⟨a0,a1,a2,-⟩:=cells3 B0
 go_cut [3] (fun pt wx=>∃ gt g2 cap2 g3 cap3:Nat,pt=.pointer (some ⟨gt,0,none⟩)∧W.heap.size≤gt∧gt < wx.heap.size∧wx.heap[gt]?=some (.cells #[.slice none 0 0,.slice (some ⟨g2,0,none⟩) m cap2,.slice (some ⟨g3,0,none⟩) m cap3] 26 (0,0)) ∧
  W.heap.size≤g2∧g2 < g3∧g3 < wx.heap.size∧gt≠g2∧gt≠g3∧m≤cap2∧cap2≤maxLen∧RowB N wx g2 cap2 m y∧m≤cap3∧cap3≤maxLen∧RowB N wx g3 cap3 m p∧Ext W wx)
 case first =>
  have eC:=(Ext.refl W).drew;refine region_late (fun w'=>w'.cell? ⟨w.heap.size,1,none⟩=some (.slice A2 m c2)∧w'.cell? ⟨w.heap.size,2,none⟩=some (.slice A3 m c3)) [8] (by kernel_rfl) (by exact⟨eC.cell a1,eC.cell a2⟩) (fun hHeld=>?_);refine sP 0 (h:=?_);try simp only [nr]
  refine sT 1 (h:=?_);try simp only [nr]
  refine sP 3 (h:=?_);try simp only [nr]
  refine sT 4 (h:=?_);try simp only [nr]
  refine stepL_two (i:=2) (j:=7) rfl rfl (by kernel_rfl) (fun K hK=>?_) (fun K hK=>?_)
  ·go_simp;refine (sl_clone (hI2.ext (hE.trans eC)) hm0 (by omega)).mono ?_;rintro e w2 ⟨g2,cap2,rfl,hg2,hcm2',hnc2,hr2,e2⟩;have hl2:=hr2.lt;have hx2:=eC.size;replace eC:=eC.trans e2
   (try replace eA2:=eA2.trans e2)
   go_wp2_with fail;clear hHeld;refine hK.out _ _ (by exact⟨eC.cell a1,eC.cell a2⟩) fun hHeld=>?_
   clear hK K;try simp only [nr]
   refine stepL_two (i:=5) (j:=7) rfl rfl (by kernel_rfl) (fun K hK=>?_) (fun K hK=>?_)
   ·go_simp;refine (sl_clone (hI3.ext (hE.trans eC)) hm0 (by omega)).mono ?_;rintro e w3 ⟨g3,cap3,rfl,hg3,hcm3',hnc3,hr3,e3⟩;have hl3:=hr3.lt;have hx3:=e3.size;replace eC:=eC.trans e3;replace hr2:=hr2.ext e3
    (try replace eA2:=eA2.trans e3)
    go_wp2_with fail;clear hHeld;refine hK.out _ _ (by exact⟨eC.cell a1,eC.cell a2⟩) fun hHeld=>?_
    clear hK K;try simp only [nr]
    refine sP 6 (h:=?_);try simp only [nr]
    refine stepL_only (i:=7) rfl (by kernel_rfl) (fun K hK=>?_);go_simp
    first | refine boxes1 ?_ | refine boxesD1 ?_
    intro wA eA hszA BA;have hgl:W.heap.size≤_:=eC.size;replace eC:Ext W wA:=by first | exact eC.trans eA | exact eA
    have eA2:=Ext.refl wA
    (try replace hr2:=hr2.ext eA)
    (try replace hr3:=hr3.ext eA)
    clear hHeld;refine hK.out _ _ (by exact⟨eC.cell a1,eC.cell a2⟩) fun hHeld=>?_
    clear hK K;try simp only [nr]
    refine stepL_late (i:=8) rfl (by kernel_rfl) (by kernel_rfl) (fun K hK=>?_);obtain⟨u0,u1,u2,u3,u4,u5⟩:=cells3 (eA2.block BA);go_simp;refine hK.out _ _ ?_;clear hK K;try simp only [nr]
    refine stepL_done (by kernel_rfl) ?_ _;clear hHeld;go_wp2_with fail
    go_meet
    have hD:W.drew.heap.size=W.heap.size:=rfl;have BT:=eA2.block BA;obtain⟨w17,E17,D17,U17⟩:=ex3 BT (.slice none 0 0) (.slice (some ⟨g2,0,none⟩) m cap2) (.slice (some ⟨g3,0,none⟩) m cap3);rw [E17];have C17:=U17.chg (NoU.mk BT (by decide));have hA9:=blk_lt BT;have hs17:=C17.size;have hN9:=hE.size;exact⟨_,g2,cap2,g3,cap3,rfl,by omega,by omega,D17,by omega,by omega,by omega,by omega,by omega,hnc2,hcm2',hr2.chg C17 (by omega) (by omega),hnc3,hcm3',hr3.chg C17 (by omega) (by omega),C17.ext eC (by omega)⟩
   ·go_simp
    first | refine boxes1 ?_ | refine boxesD1 ?_
    intro wA eA hszA BA;have hgl:W.heap.size≤_:=eC.size;replace eC:Ext W wA:=by first | exact eC.trans eA | exact eA
    have eA2:=Ext.refl wA
    (try replace hr2:=hr2.ext eA)
    (try replace hr3:=hr3.ext eA)
    clear hHeld;refine hK.out _ _ (by exact⟨eC.cell a1,eC.cell a2⟩) fun hHeld=>?_
    clear hK K;try simp only [nr]
    refine stepL_only (i:=5) rfl (by kernel_rfl) (fun K hK=>?_);go_simp;refine (sl_clone (hI3.ext (hE.trans eC)) hm0 (by omega)).mono ?_;rintro e w3 ⟨g3,cap3,rfl,hg3,hcm3',hnc3,hr3,e3⟩;have hl3:=hr3.lt;have hx3:=e3.size;replace eC:=eC.trans e3;replace hr2:=hr2.ext e3
    (try replace eA2:=eA2.trans e3)
    go_wp2_with fail;clear hHeld;refine hK.out _ _ (by exact⟨eC.cell a1,eC.cell a2⟩) fun hHeld=>?_
    clear hK K;try simp only [nr]
    refine sP 6 (h:=?_);try simp only [nr]
    refine stepL_late (i:=8) rfl (by kernel_rfl) (by kernel_rfl) (fun K hK=>?_);obtain⟨u0,u1,u2,u3,u4,u5⟩:=cells3 (eA2.block BA);go_simp;refine hK.out _ _ ?_;clear hK K;try simp only [nr]
    refine stepL_done (by kernel_rfl) ?_ _;clear hHeld;go_wp2_with fail
    go_meet
    have hD:W.drew.heap.size=W.heap.size:=rfl;have BT:=eA2.block BA;obtain⟨w17,E17,D17,U17⟩:=ex3 BT (.slice none 0 0) (.slice (some ⟨g2,0,none⟩) m cap2) (.slice (some ⟨g3,0,none⟩) m cap3);rw [E17];have C17:=U17.chg (NoU.mk BT (by decide));have hA9:=blk_lt BT;have hs17:=C17.size;have hN9:=hE.size;exact⟨_,g2,cap2,g3,cap3,rfl,by omega,by omega,D17,by omega,by omega,by omega,by omega,by omega,hnc2,hcm2',hr2.chg C17 (by omega) (by omega),hnc3,hcm3',hr3.chg C17 (by omega) (by omega),C17.ext eC (by omega)⟩
  ·go_simp
   first | refine boxes1 ?_ | refine boxesD1 ?_
   intro wA eA hszA BA;have hgl:W.heap.size≤_:=eC.size;replace eC:Ext W wA:=by first | exact eC.trans eA | exact eA
   have eA2:=Ext.refl wA
   (try replace hr2:=hr2.ext eA)
   (try replace hr3:=hr3.ext eA)
   clear hHeld;refine hK.out _ _ (by exact⟨eC.cell a1,eC.cell a2⟩) fun hHeld=>?_
   clear hK K;try simp only [nr]
   refine stepL_only (i:=2) rfl (by kernel_rfl) (fun K hK=>?_);go_simp;refine (sl_clone (hI2.ext (hE.trans eC)) hm0 (by omega)).mono ?_;rintro e w2 ⟨g2,cap2,rfl,hg2,hcm2',hnc2,hr2,e2⟩;have hl2:=hr2.lt;have hx2:=eC.size;replace eC:=eC.trans e2
   (try replace eA2:=eA2.trans e2)
   go_wp2_with fail;clear hHeld;refine hK.out _ _ (by exact⟨eC.cell a1,eC.cell a2⟩) fun hHeld=>?_
   clear hK K;try simp only [nr]
   refine stepL_only (i:=5) rfl (by kernel_rfl) (fun K hK=>?_);go_simp;refine (sl_clone (hI3.ext (hE.trans eC)) hm0 (by omega)).mono ?_;rintro e w3 ⟨g3,cap3,rfl,hg3,hcm3',hnc3,hr3,e3⟩;have hl3:=hr3.lt;have hx3:=e3.size;replace eC:=eC.trans e3;replace hr2:=hr2.ext e3
   (try replace eA2:=eA2.trans e3)
   go_wp2_with fail;clear hHeld;refine hK.out _ _ (by exact⟨eC.cell a1,eC.cell a2⟩) fun hHeld=>?_
   clear hK K;try simp only [nr]
   refine sP 6 (h:=?_);try simp only [nr]
   refine stepL_late (i:=8) rfl (by kernel_rfl) (by kernel_rfl) (fun K hK=>?_);obtain⟨u0,u1,u2,u3,u4,u5⟩:=cells3 (eA2.block BA);go_simp;refine hK.out _ _ ?_;clear hK K;try simp only [nr]
   refine stepL_done (by kernel_rfl) ?_ _;clear hHeld;go_wp2_with fail
   go_meet
   have hD:W.drew.heap.size=W.heap.size:=rfl;have BT:=eA2.block BA;obtain⟨w17,E17,D17,U17⟩:=ex3 BT (.slice none 0 0) (.slice (some ⟨g2,0,none⟩) m cap2) (.slice (some ⟨g3,0,none⟩) m cap3);rw [E17];have C17:=U17.chg (NoU.mk BT (by decide));have hA9:=blk_lt BT;have hs17:=C17.size;have hN9:=hE.size;exact⟨_,g2,cap2,g3,cap3,rfl,by omega,by omega,D17,by omega,by omega,by omega,by omega,by omega,hnc2,hcm2',hr2.chg C17 (by omega) (by omega),hnc3,hcm3',hr3.chg C17 (by omega) (by omega),C17.ext eC (by omega)⟩
 case rest =>
  obtain⟨gt,g2,cap2,g3,cap3,rfl,k1,k2,BT,k3,k4,k5,k6,k7,k8,k9,hr2,k10,k11,hr3,eW⟩:=hcut;obtain⟨wx,hwx⟩:∃ wx,wx=wc:=⟨_,rfl⟩
  subst hwx;have hsW:=hE.size;have hsX:=eW.size;have hNx:N≤wx.heap.size:=by omega
  replace B0:=eW.block B0;replace B4:=eW.block B4;have hEx:=hE.trans eW;clear a0 a1 a2 eW;obtain⟨a0,a1,a2,-⟩:=cells3 B0;obtain⟨gw,hgw⟩:∃ gw,gw=w.heap.size:=⟨_,rfl⟩
  obtain⟨lo9,hlo9⟩:∃ lo9,lo9=wx.heap.size:=⟨_,rfl⟩
  have hg4:w.heap.size+1 < gt:=by omega
  have hgx:lo9=wx.heap.size:=hlo9;have k2':gt < lo9:=by omega
  have k5':g3 < lo9:=by omega
  have k3':w.heap.size+1 < g2:=by omega
  go_wp2;clear a0 a1 a2
  go_loopw [16] (fun i wr=>∃ a:Nat,a≤m∧i=.int .i64 a∧Ext w wr∧lo9≤wr.heap.size∧(∃ v,wr.heap[gt]?=some (.cells #[v,.slice (some ⟨g2,0,none⟩) m cap2,.slice (some ⟨g3,0,none⟩) m cap3] 26 (0,0))∧GrowM N lo9 wr.heap.size wr v a n X)∧RowB N wr g2 cap2 m y∧RowB N wr g3 cap3 m p∧wr.heap[w.heap.size+1]?=some (.cells #[.slice none 0 0,.slice none 0 0,.slice none 0 0] 26 (0,0))) (fun i _=>m - (intOf i).toNat)
  case atStart=>exact⟨0,Nat.zero_le _,rfl,hEx,by omega,⟨_,BT,GrowM.nil (by omega) (by omega) (Nat.le_refl _) _⟩,hr2,hr3,B4⟩
  case round =>
   clear hr2 hr3 B4 BT hEx B0;obtain⟨a,ha,rfl,hEr,hlr,⟨v,BT,hG⟩,hr2,hr3,B4⟩:=hrel
   by_cases hlt:a < m
   ·obtain⟨b,off,hA,-,-,hx⟩:=(hI1.ext hEr).addr hm0;obtain⟨Ar,cr,o0,-,hcr,hrow⟩:=hx a hlt;subst hA;obtain⟨q0,q1,q2,q3,q4,q5⟩:=cells3 BT
    obtain⟨Av,cv,rfl⟩:∃ Av cv,v=.slice Av a cv:=by
     rcases hG.2.2.2 with ⟨rfl,h0⟩ | ⟨h9,cap9,β9,κ9,rfl,-⟩
     ·exact⟨none,0,by rw [h0]⟩
     ·exact⟨_,_,rfl⟩
    clear hx;go_upto_region 5 with (fail);clear o0;have eC:=(Ext.refl wr).drew;refine region_late (fun w'=>w'.cell? ⟨gt,0,none⟩=some (.slice Av a cv)) [5,7] (by kernel_rfl) (by exact eC.cell q0) (fun hHeld=>?_);refine sP 0 (h:=?_);try simp only [nr]
    refine sT 1 (h:=?_);try simp only [nr]
    refine sP 2 (h:=?_);try simp only [nr]
    refine stepL_only (i:=3) rfl (by kernel_rfl) (fun K hK=>?_);go_simp;refine (sl_clone (hrow.ext eC) hn0 (by omega)).mono ?_;rintro e w5 ⟨g5,cap5,rfl,hg5,hcm5,hnc5,hr5,e5⟩;have hD:wr.drew.heap.size=wr.heap.size:=rfl;replace eC:=eC.trans e5;go_wp2_with fail;clear hHeld;refine hK.out _ _ (by exact eC.cell q0) fun hHeld=>?_
    clear hK K;try simp only [nr]
    refine stepL_only (i:=4) rfl (by kernel_rfl) (fun K hK=>?_);go_simp
    first | refine boxes1 ?_ | refine boxesD1 ?_
    intro w6 e6 hsz6 BX;replace eC:=eC.trans e6;replace hr5:=hr5.ext e6;have hG6:=hG.ext eC;have hr26:=hr2.ext eC;have hr36:=hr3.ext eC;have BT6:=eC.block BT;have B46:=eC.block B4;have hE6:=hEr.trans eC;clear hHeld;refine hK.out _ _ (by exact eC.cell q0) fun hHeld=>?_
    clear hK K;try simp only [nr]
    refine stepL_late (i:=5) rfl (by kernel_rfl) (by kernel_rfl) (fun K hK=>?_);refine step_append_row rfl _ _ 23 Tryz.underlying23 rfl (by rfl) hG6 (by rfl) hr5 (by omega) hcm5 BX (by omega) ?_;rintro h7 cap7 w7 hG7 ⟨g',hg',c7,-⟩;have hE7:=c7.ext hE6 (by omega);replace hG7:=hG7.congr (B:=X) (fun i _ j _=>by unfold updM; split; (rename_i e; subst e; rfl); rfl);have hr27:=hr26.chg c7 (by omega) (by omega);have hr37:=hr36.chg c7 (by omega) (by omega);have BT7:=c7.blk BT6 (by omega);have B47:=c7.blk B46 (by omega);have hs7:=c7.size;have hs6:=eC.size;refine hK.out _ _ ?_;clear hK K;try simp only [nr]
    refine sP 6 (h:=?_);try simp only [nr]
    refine stepL_late (i:=7) rfl (by kernel_rfl) (by kernel_rfl) (fun K hK=>?_);obtain⟨u0,u1,u2,u3,u4,u5⟩:=cells3 BT7;go_simp;obtain⟨w8,E8,BT8,U8⟩:=set3 BT7 (.slice (some ⟨h7,0,none⟩) (a+1) cap7);rw [E8];have C8:=U8.chg (NoU.mk BT7 (by decide));have hG8:=hG7.chg C8 (by omega) (.inr (by omega));have hr28:=hr27.chg C8 (by omega) (by omega);have hr38:=hr37.chg C8 (by omega) (by omega);have B48:=C8.blk B47 (by omega);have hE8:=C8.ext hE7 (by omega);have hs8:=U8.size;refine hK.out _ _ ?_;clear hK K;try simp only [nr]
    refine stepL_done (by kernel_rfl) ?_ _;clear hHeld;clear q0 q1 q2 q3 q4 q5 u0 u1 u2 u3 u4 u5 hr2 hr3 hr26 hr36 hr27 hr37 BT BT6 BT7 B4 B46 B47 BX hr5 hG hG6 hG7 hrow c7 C8 U8 E8 hE6 hE7 eC hEr;go_wp2;go_roundw
    case rel=>exact⟨a+1,by omega,by go_num,hE8,by omega,⟨_,BT8,by rw [hs8] at *; exact hG8⟩,hr28,hr38,B48⟩
    case measure=>simp [intOf]; omega
   ·obtain rfl:m=a:=by omega
    obtain⟨h9,cap9,β9,κ9,rfl,hc9,ho9⟩:=hG.own hm0;obtain⟨q0,q1,q2,q3,q4,q5⟩:=cells3 BT;obtain⟨u0,u1,u2,u3,u4,u5⟩:=cells3 B4;go_wp2;obtain⟨w8,E8,D8,U8⟩:=ex3 B4 (.slice (some ⟨h9,0,none⟩) m cap9) (.slice (some ⟨g2,0,none⟩) m cap2) (.slice (some ⟨g3,0,none⟩) m cap3);rw [E8];have C8:=U8.chg (NoU.mk B4 (by decide));have ho10:=ho9.chg C8 (by omega) (.inr (by omega));have hr28:=hr2.chg C8 (by omega) (by omega);have hr38:=hr3.chg C8 (by omega) (by omega);have hE8:=C8.ext hEr (by omega);have hs8:=U8.size;obtain⟨x0,x1,x2,-⟩:=cells3 D8;clear q0 q1 q2 q3 q4 q5 u0 u1 u2 u3 u4 u5 E8;refine bodyPost_ret (v:=.agg #[.slice (some ⟨h9,0,none⟩) m cap9,.slice (some ⟨g2,0,none⟩) m cap2,.slice (some ⟨g3,0,none⟩) m cap3]) ?_ rfl ?_
    ·simp [results,x0,x1,x2,go_sem]
    ·rw [hRf.out];exact⟨h9,cap9,g2,cap2,g3,cap3,β9,κ9,lo9,rfl,by omega,k4,k5',hc9,by rw [hs8]; exact ho10,k8,k9,hr28,k10,k11,hr38,hE8⟩
def CutV (N:Nat) (w:World) (m n:Nat) (X:Nat→Nat→Rat) (y p:Nat→Rat) (v:Value) (w':World):Prop :=
 ∃ h cap g2 c2 g3 c3 lo,v=.agg #[.slice (some ⟨h,0,none⟩) m cap,.slice (some ⟨g2,0,none⟩) m c2,.slice (some ⟨g3,0,none⟩) m c3]∧w.heap.size≤g2∧g2 < g3∧g3 < lo∧MtV N lo w'.heap.size w' (.slice (some ⟨h,0,none⟩) m cap) m n X ∧
  m≤c2∧c2≤maxLen∧RowB N w' g2 c2 m y∧m≤c3∧c3≤maxLen∧RowB N w' g3 c3 m p
def RetCut (N:Nat) (w:World) (m n:Nat) (X:Nat→Nat→Rat) (y p:Nat→Rat) (e:Ending) (w':World):Prop:=∃ v,e=.returned v∧CutV N w m n X y p v w'∧Ext w w'
set_option maxRecDepth 100000 in
theorem n_cut {N lo hi lo2 hi2:Nat} {w:World} {v1 v2 v3:Value} {m n:Nat} {X:Nat→Nat→Rat} {y p:Nat→Rat} (h1:MtV N lo hi w v1 m n X) (h2:LsV N lo2 hi2 w v2 m y) (h3:LsV N lo2 hi2 w v3 m p) (hm:m≤64) (hn0:0 < n) (hn:n≤64) {i:Nat} (hi':i < m) :
  Calls Tryz.prog 118 #[.agg #[v1,v2,v3],.int .i64 (i:Int)] w (RetCut N w (m - 1) n (fun j=>X (skip i j)) (fun j=>y (skip i j)) (fun j=>p (skip i j))):=by
 obtain⟨Rf,hRf⟩:=hid_eq (RetCut N w (m - 1) n (fun j=>X (skip i j)) (fun j=>y (skip i j)) (fun j=>p (skip i j)));rw [←hRf.out];have hN:=h1.le;obtain⟨A1,c1,rfl,hmc,hcm⟩:=h1.form;obtain⟨A2,c2,rfl,hmc2,hcm2⟩:=h2.form;obtain⟨A3,c3,rfl,hmc3,hcm3⟩:=h3.form;have hI1:=h1;have hI2:=h2;have hI3:=h3;have hw1:IntKind.i64.wrap ((i:Int)+1)=(i:Int)+1:=IntWalk.i64_in _ (by omega);clear h1 h2 h3;go_enter Tryz.func118,Tryz.ntmps118;go_upto_region 1 with (fail);refine boxes2 ?_;intro W hE hsz B0 B4;obtain⟨a0,a1,a2,-⟩:=cells3 B0;go_wp2_with (go_at_call 158; refine Hid.out ?_);refine (n_copied (hI1.ext hE) (hI2.ext hE) (hI3.ext hE) (by omega) hm hn0 hn).mono ?_;rintro e w1 ⟨h,cap,g2,cap2,g3,cap3,β,κ,lo9,rfl,k1,k2,k3,hcap,ho,k4,k5,hr2,k6,k7,hr3,e1⟩;have hlh:=ho.hlo;have hhh:=ho.hhi;have hhs:=ho.his;have hsW:=hE.size;have hE1:=hE.trans e1;replace B4:=e1.block B4;clear a0 a1 a2 B0 e1;go_upto_region 2 with (fail);refine boxes1 ?_;intro w2 e2 hsz2 BT;replace ho:=ho.ext e2;replace hr2:=hr2.ext e2;replace hr3:=hr3.ext e2;replace B4:=e2.block B4;have hE2:=hE1.trans e2;obtain⟨gt,hgt⟩:∃ gt,gt=w1.heap.size:=⟨_,rfl⟩
 rw [←hgt] at BT hsz2 hhs hhh ho ⊢;have hs2:=e2.size;clear hgt e2;obtain⟨d0,d1,d2,d3,d4,d5⟩:=cells3 BT;obtain⟨hs,hb,hbs,-⟩:=ho.hh;go_wp2_with (go_at_call 159; refine Hid.out ?_);refine (sl_del_rows hb (by omega) (by unfold maxLen at hcap; omega) ho.mle hi' (fun k hk=>⟨_,ho.hcell (by omega),rfl⟩) (by first | rfl | exact hw1)).mono ?_;intro e w3 hd;obtain⟨rfl,C3,hM3⟩:=del_rows ho hcap hi' hd;have hE3:=C3.ext hE2 (by omega);replace hr2:=hr2.chg C3 (by omega) (by omega);replace hr3:=hr3.chg C3 (by omega) (by omega);replace B4:=C3.blk B4 (by omega);replace BT:=C3.blk BT (by omega);have hs3:=C3.size;clear d0 d1 d2 d3 d4 d5 hb hd ho C3;obtain⟨d0,d1,d2,d3,d4,d5⟩:=cells3 BT;go_upto_region 3 with (fail);obtain⟨w4,E4,BT4,U4⟩:=set3 BT (.slice (some ⟨h,0,none⟩) (m - 1) cap);rw [E4];have C4:=U4.chg (NoU.mk BT (by decide));have hM4:=hM3.chg C4 (by omega) (.inl (by omega));replace hr2:=hr2.chg C4 (by omega) (by omega);replace hr3:=hr3.chg C4 (by omega) (by omega);replace B4:=C4.blk B4 (by omega);have hE4:=C4.ext hE3 (by omega);have hs4:=U4.size;clear d0 d1 d2 d3 d4 d5 E4 U4 C4 BT hM3 hE3;obtain⟨d0,d1,d2,-⟩:=cells3 BT4;have hg2l:=hr2.lt;have hg3l:=hr3.lt;have eC:=(Ext.refl w4).drew;refine region_late (fun w'=>w'.cell? ⟨gt,1,none⟩=some (.slice (some ⟨g2,0,none⟩) m cap2)∧w'.cell? ⟨gt,2,none⟩=some (.slice (some ⟨g3,0,none⟩) m cap3)) [13,15] (by kernel_rfl) (by exact⟨eC.cell d1,eC.cell d2⟩) (fun hHeld=>?_)
 refine sP 0 (h:=?_);try simp only [nr]
 refine sT 1 (h:=?_);try simp only [nr]
 refine sP 2 (h:=?_);try simp only [nr]
 refine sP 3 (h:=?_);try simp only [nr]
 refine sP 4 (h:=?_);try simp only [nr]
 refine sP 6 (h:=?_);try simp only [nr]
 refine sT 7 (h:=?_);try simp only [nr]
 refine sP 8 (h:=?_);try simp only [nr]
 refine sP 9 (h:=?_);try simp only [nr]
 refine sP 10 (h:=?_);try simp only [nr]
 refine stepL_only (i:=5) rfl (by kernel_rfl) (fun K hK=>?_);go_simp;obtain⟨cs4,hb4,hbs4⟩:=(hr2.ext eC).2.2.1;refine (sl_del_rats hb4 hbs4 (by unfold maxLen at k5; omega) k4 hi' (row_one (hr2.ext eC)) (by first | rfl | exact hw1)).mono ?_;intro e w5 hd;obtain⟨rfl,C5,hr5⟩:=del_row (hr2.ext eC) hi' hd;replace d1:=C5.cell (eC.cell d1) (by show gt < _∨_≤gt; omega);replace d2:=C5.cell (eC.cell d2) (by show gt < _∨_≤gt; omega);have BT5:=C5.blk (eC.block BT4) (by omega);have B45:=C5.blk (eC.block B4) (by omega);have hM5:=(hM4.ext eC).chg C5 (by omega) (.inr (by omega));have hr35:=(hr3.ext eC).chg C5 (by omega) (by omega);have hE5:=C5.ext (hE4.trans eC) (by omega);have hs5:=C5.size;have hs5':=eC.size;replace eC:=Ext.refl w5;clear hd hb4;go_wp2_with fail;clear hHeld;refine hK.out _ _ (by exact⟨eC.cell d1,eC.cell d2⟩) fun hHeld=>?_
 clear hK K;try simp only [nr]
 refine sP 12 (h:=?_);try simp only [nr]
 refine stepL_only (i:=11) rfl (by kernel_rfl) (fun K hK=>?_);go_simp;obtain⟨cs6,hb6,hbs6⟩:=(hr35.ext eC).2.2.1;refine (sl_del_rats hb6 hbs6 (by unfold maxLen at k7; omega) k6 hi' (row_one (hr35.ext eC)) (by first | rfl | exact hw1)).mono ?_;intro e w7 hd;obtain⟨rfl,C7,hr7⟩:=del_row (hr35.ext eC) hi' hd;replace d1:=C7.cell (eC.cell d1) (by show gt < _∨_≤gt; omega);replace d2:=C7.cell (eC.cell d2) (by show gt < _∨_≤gt; omega);have BT7:=C7.blk (eC.block BT5) (by omega);have B47:=C7.blk (eC.block B45) (by omega);have hM7:=(hM5.ext eC).chg C7 (by omega) (.inr (by omega));have hr57:=(hr5.ext eC).chg C7 (by omega) (by omega);have hE7:=C7.ext (hE5.trans eC) (by omega);have hs7:=C7.size;have hs7':=eC.size;replace eC:=Ext.refl w7;clear hd hb6;go_wp2_with fail;clear hHeld;refine hK.out _ _ (by exact⟨eC.cell d1,eC.cell d2⟩) fun hHeld=>?_
 clear hK K;try simp only [nr]
 refine stepL_late (i:=13) rfl (by kernel_rfl) (by kernel_rfl) (fun K hK=>?_);obtain⟨u0,u1,u2,u3,u4,u5⟩:=cells3 BT7;go_simp;obtain⟨w8,E8,BT8,U8⟩:=set31 BT7 (.slice (some ⟨g2,0,none⟩) (m - 1) cap2);rw [E8];have C8:=U8.chg (NoU.mk BT7 (by decide));have hM8:=hM7.chg C8 (by omega) (.inl (by omega));have hr58:=hr57.chg C8 (by omega) (by omega);have hr78:=hr7.chg C8 (by omega) (by omega);have B48:=C8.blk B47 (by omega);have hE8:=C8.ext hE7 (by omega);have hs8:=U8.size;clear u0 u1 u2 u3 u4 u5;refine hK.out _ _ ?_;clear hK K;try simp only [nr]
 refine sP 14 (h:=?_);try simp only [nr]
 refine stepL_late (i:=15) rfl (by kernel_rfl) (by kernel_rfl) (fun K hK=>?_);obtain⟨u0,u1,u2,u3,u4,u5⟩:=cells3 BT8;go_simp;obtain⟨w9,E9,BT9,U9⟩:=set32 BT8 (.slice (some ⟨g3,0,none⟩) (m - 1) cap3);rw [E9];have C9:=U9.chg (NoU.mk BT8 (by decide));have hM9:=hM8.chg C9 (by omega) (.inl (by omega));have hr59:=hr58.chg C9 (by omega) (by omega);have hr79:=hr78.chg C9 (by omega) (by omega);have B49:=C9.blk B48 (by omega);have hE9:=C9.ext hE8 (by omega);have hs9:=U9.size;clear u0 u1 u2 u3 u4 u5;refine hK.out _ _ ?_;clear hK K;try simp only [nr]
 refine stepL_done (by kernel_rfl) ?_ _;clear hHeld;clear d0 d1 d2 hM4 hM5 hM7 hM8 hr2 hr3 hr35 hr5 hr57 hr58 hr7 hr78 B4 B45 B47 B48 BT4 BT5 BT7 BT8;obtain⟨d0,d1,d2,-⟩:=cells3 BT9;obtain⟨u0,u1,u2,u3,u4,u5⟩:=cells3 B49;go_wp2;obtain⟨w10,E10,D10,U10⟩:=ex3 B49 (.slice (some ⟨h,0,none⟩) (m - 1) cap) (.slice (some ⟨g2,0,none⟩) (m - 1) cap2) (.slice (some ⟨g3,0,none⟩) (m - 1) cap3);rw [E10];have C10:=U10.chg (NoU.mk B49 (by decide));have hM10:=hM9.chg C10 (by omega) (.inr (by omega));have hr510:=hr59.chg C10 (by omega) (by omega);have hr710:=hr79.chg C10 (by omega) (by omega);have hE10:=C10.ext hE9 (by omega);have hs10:=U10.size;obtain⟨x0,x1,x2,-⟩:=cells3 D10;clear d0 d1 d2 u0 u1 u2 u3 u4 u5 E10;refine bodyPost_ret (v:=.agg #[.slice (some ⟨h,0,none⟩) (m - 1) cap,.slice (some ⟨g2,0,none⟩) (m - 1) cap2,.slice (some ⟨g3,0,none⟩) (m - 1) cap3]) ?_ rfl ?_
 ·simp [results,x0,x1,x2,go_sem]
 ·rw [hRf.out];exact⟨_,rfl,⟨h,cap,g2,cap2,g3,cap3,lo9,rfl,by omega,k2,k3,MtR.wide hM10 (Nat.le_refl _) hM10.2.1 (Nat.le_refl _),by omega,k5,hr510,by omega,k7,hr710⟩,hE10⟩
theorem CutV.chg {N l u:Nat} {w w1 w2:World} {m n:Nat} {X:Nat→Nat→Rat} {y p:Nat→Rat} {v:Value} (h:CutV N w m n X y p v w1) (c:Chg l u w1 w2) (hN:N≤l) (hl:u≤w.heap.size):CutV N w m n X y p v w2:=by
 obtain⟨h,cap,g2,c2,g3,c3,lo,rfl,k1,k2,k3,hM,k4,k5,r2,k6,k7,r3⟩:=h;have hM2:=hM.chg c hN (.inr (by omega));exact⟨h,cap,g2,c2,g3,c3,lo,rfl,k1,k2,k3,MtR.wide hM2 (Nat.le_refl _) c.size (Nat.le_refl _),k4,k5,r2.chg c hN (.inr (by omega)),k6,k7,r3.chg c hN (.inr (by omega))⟩
theorem CutV.ext {N:Nat} {w w1 w2:World} {m n:Nat} {X:Nat→Nat→Rat} {y p:Nat→Rat} {v:Value} (h:CutV N w m n X y p v w1) (e:Ext w1 w2):CutV N w m n X y p v w2:=by
 obtain⟨h,cap,g2,c2,g3,c3,lo,rfl,k1,k2,k3,hM,k4,k5,r2,k6,k7,r3⟩:=h;exact⟨h,cap,g2,c2,g3,c3,lo,rfl,k1,k2,k3,MtR.wide (hM.ext e) (Nat.le_refl _) e.size (Nat.le_refl _),k4,k5,r2.ext e,k6,k7,r3.ext e⟩
theorem CutV.low {N:Nat} {w w0 w1:World} {m n:Nat} {X:Nat→Nat→Rat} {y p:Nat→Rat} {v:Value} (h:CutV N w m n X y p v w1) (hl:w0.heap.size≤w.heap.size):CutV N w0 m n X y p v w1:=by
 obtain⟨h,cap,g2,c2,g3,c3,lo,rfl,k1,k2,k3,hM,k4,k5,r2,k6,k7,r3⟩:=h;exact⟨h,cap,g2,c2,g3,c3,lo,rfl,by omega,k2,k3,hM,k4,k5,r2,k6,k7,r3⟩
theorem CutV.form {N:Nat} {w w1:World} {m n:Nat} {X:Nat→Nat→Rat} {y p:Nat→Rat} {v:Value} (h:CutV N w m n X y p v w1):∃ (A1:Option Addr) (c1:Nat) (A2:Option Addr) (c2:Nat) (A3:Option Addr) (c3:Nat),v=.agg #[.slice A1 m c1,.slice A2 m c2,.slice A3 m c3] ∧
  MtV N 0 w1.heap.size w1 (.slice A1 m c1) m n X∧LsV N 0 w1.heap.size w1 (.slice A2 m c2) m y∧LsV N 0 w1.heap.size w1 (.slice A3 m c3) m p:=by
 obtain⟨h,cap,g2,c2,g3,c3,lo,rfl,k1,k2,k3,hM,k4,k5,r2,k6,k7,r3⟩:=h;have l2:=r2.lt;have l3:=r3.lt;exact⟨_,_,_,_,_,_,rfl,MtV.all hM,r2.lsv k4 k5 (Nat.zero_le _) l2 (Nat.le_refl _),r3.lsv k6 k7 (Nat.zero_le _) l3 (Nat.le_refl _)⟩
def RetCutC (N:Nat) (w:World) (m n:Nat) (X:Nat→Nat→Rat) (y p:Nat→Rat) (e:Ending) (w':World):Prop:=∃ v,e=.returned (.tuple #[v,.int .i64 0])∧CutV N w m n X y p v w'∧Ext w w'
set_option maxRecDepth 100000 in
theorem n_Without {N lo hi lo2 hi2:Nat} {w:World} {v1 v2 v3:Value} {m n:Nat} {X:Nat→Nat→Rat} {y p:Nat→Rat} (h1:MtV N lo hi w v1 m n X) (h2:LsV N lo2 hi2 w v2 m y) (h3:LsV N lo2 hi2 w v3 m p) (hm1:1 < m) (hm:m≤64) (hn0:0 < n) (hn:n≤24) (hp:∀ i,i < m→0 < p i)
  {k:Nat} (hkx:HtM m n k X) (hky:HtL m k y) (hkp:HtL m k p) (hK:k≤29000000000) {i:Nat} {iz:Int} (hiz:iz=(i:Int)) (hi':i < m) :
  Calls Tryz.prog 72 #[.agg #[v1,v2,v3],.int .i64 iz] w (RetCutC N w (m - 1) n (fun j=>X (skip i j)) (fun j=>y (skip i j)) (fun j=>p (skip i j))):=by
 subst hiz;obtain⟨Rf,hRf⟩:=hid_eq (RetCutC N w (m - 1) n (fun j=>X (skip i j)) (fun j=>y (skip i j)) (fun j=>p (skip i j)));rw [←hRf.out];have hm0:0 < m:=by omega
 have HX:=Lib.hid hkx;have HY:=Lib.hid hky;have HP:=Lib.hid hkp
 have HCK:Hid (∀ w1,Ext w w1→Calls Tryz.prog 117 #[.agg #[v1,v2,v3]] w1 (RetV w1 (.int .i64 0))):=fun w1 e1=>by
  have h9:=n_check (linV_of (h1.ext e1) (h2.ext e1) (h3.ext e1)) (linSz_of hkx hky hkp (by omega)) (fun i hi=>(hkp i hi).sz (by omega));rw [codeOf_lin hm0 hm hn0 hn hp] at h9;exact h9
 have hN:=h1.le;obtain⟨A1,c1,rfl,hmc,hcm⟩:=h1.form;obtain⟨A2,c2,rfl,hmc2,hcm2⟩:=h2.form;obtain⟨A3,c3,rfl,hmc3,hcm3⟩:=h3.form;have hI1:=h1;have hI2:=h2;have hI3:=h3;clear h1 h2 h3 hkx hky hkp hp;go_enter Tryz.func72,Tryz.ntmps72;go_upto_region 1 with (fail);refine boxes2 ?_;intro W hE hsz B0 B4;obtain⟨a0,a1,a2,-⟩:=cells3 B0;go_wp2_with (go_at_call 117; refine Hid.out ?_);refine (HCK.out _ hE).mono ?_;rintro e w1 ⟨rfl,e1⟩;replace hE:=hE.trans e1;replace B4:=e1.block B4;replace B0:=e1.block B0;clear a0 a1 a2 e1 HCK;obtain⟨a0,a1,a2,-⟩:=cells3 B0;have t4:((m:Int) == 1)=false:=beq_eq_false_iff_ne.2 (by omega);go_wp2_with (go_at_call 118; refine Hid.out ?_);refine (n_cut (hI1.ext hE) (hI2.ext hE) (hI3.ext hE) hm hn0 (by omega) hi').mono ?_;rintro e w2 ⟨v,rfl,hV,e2⟩;have hE2:=hE.trans e2;have hlE:=blk_lt B4;replace B4:=e2.block B4;have hsE:=hE.size;obtain⟨B1,b1,B2,b2,B3,b3,rfl,-⟩:=hV.form;clear a0 a1 a2 e2;obtain⟨u0,u1,u2,u3,u4,u5⟩:=cells3 B4;go_wp2;obtain⟨w10,E10,D10,U10⟩:=ex3 B4 (.slice B1 (m - 1) b1) (.slice B2 (m - 1) b2) (.slice B3 (m - 1) b3);rw [E10];have C10:=U10.chg (NoU.mk B4 (by decide));have hE10:=C10.ext hE2 (by omega);obtain⟨x0,x1,x2,-⟩:=cells3 D10;refine bodyPost_ret (v:=.tuple #[.agg #[.slice B1 (m - 1) b1,.slice B2 (m - 1) b2,.slice B3 (m - 1) b3],.int .i64 0]) ?_ rfl ?_
 ·simp [results,x0,x1,x2,go_sem]
 ·rw [hRf.out];exact⟨_,rfl,(hV.chg C10 (by omega) (by omega)).low (by omega),hE10⟩
structure SnR where
 out:List Nat
 m:Nat
 X:Nat→Nat→Rat
 y:Nat→Rat
 p:Nat→Rat
def snF (n:Nat) (cr:Rat):Nat→(Nat→Nat→Rat)→(Nat→Rat)→(Nat→Rat)→List Nat→List Nat→SnR
 | 0,X,y,p,_,out=>⟨out,0,X,y,p⟩
 | m+1,X,y,p,left,out =>
  if m=0∨wS (m+1) n X y p < 0∨zS (m+1) n X y p (wS (m+1) n X y p).toNat≤cr then ⟨out,m+1,X,y,p⟩
  else snF n cr m (fun j=>X (skip (wS (m+1) n X y p).toNat j)) (fun j=>y (skip (wS (m+1) n X y p).toNat j)) (fun j=>p (skip (wS (m+1) n X y p).toNat j)) (left.eraseIdx (wS (m+1) n X y p).toNat) (out ++ [left[(wS (m+1) n X y p).toNat]?.getD 0])
theorem snF_stop {n:Nat} {cr:Rat} {m:Nat} {X:Nat→Nat→Rat} {y p:Nat→Rat} {left out:List Nat} (hm:0 < m) (h:m=1∨wS m n X y p < 0∨zS m n X y p (wS m n X y p).toNat≤cr):snF n cr m X y p left out=⟨out,m,X,y,p⟩:=by
 obtain⟨k,rfl⟩:∃ k,m=k+1:=⟨m - 1,by omega⟩
 unfold snF;rw [if_pos (by rcases h with h | h; exact .inl (by omega); exact .inr h)]
theorem snF_go {n:Nat} {cr:Rat} {m:Nat} {X:Nat→Nat→Rat} {y p:Nat→Rat} {left out:List Nat} (hm:1 < m) {b:Nat} (hb:wS m n X y p=(b:Int)) (hc:cr < zS m n X y p b) :
  snF n cr m X y p left out=snF n cr (m - 1) (fun j=>X (skip b j)) (fun j=>y (skip b j)) (fun j=>p (skip b j)) (left.eraseIdx b) (out ++ [left[b]?.getD 0]):=by
 obtain⟨k,rfl⟩:∃ k,m=k+1:=⟨m - 1,by omega⟩
 have e:(wS (k+1) n X y p).toNat=b:=by rw [hb]; rfl
 rw [snF,if_neg (by
  rw [e,hb];intro h9
  rcases h9 with h9 | h9 | h9
  ·omega
  ·omega
  ·exact absurd hc (Rat.not_lt.2 h9))]
 rw [e]
 rfl
theorem snF_reg {m n:Nat} {X:Nat→Nat→Rat} {y p:Nat→Rat} (d:Md m n X y p) (hr:Reg n (nmat X p m)) {b:Nat} (hb:wS m n X y p=(b:Int)) (hbm:b < m) :
  1 < m∧Md (m - 1) n (fun j=>X (skip b j)) (fun j=>y (skip b j)) (fun j=>p (skip b j))∧Reg n (nmat (fun j=>X (skip b j)) (fun j=>p (skip b j)) (m - 1)):=by
 have hk:=((wF_spec (kS m n X p) (zS m n X y p) m).2 (by have:wF (kS m n X p) (zS m n X y p) m=(b:Int):=hb; omega)).1
 have e:(wF (kS m n X p) (zS m n X y p) m).toNat=b:=by
  have:wF (kS m n X p) (zS m n X y p) m=(b:Int):=hb;rw [this]; rfl
 rw [e] at hk;have hk0:rS m n X p b≠0:=by simpa [kS] using hk
 rcases Nat.lt_or_ge 1 m with h1 | h1
 ·obtain⟨k,rfl⟩:∃ k,m=k+1:=⟨m - 1,by omega⟩
  refine⟨h1,d.cut (by omega),?_⟩;rw [Nat.add_sub_cancel];exact Classical.not_not.1 (fun h9=>hk0 ((d.zero hr hbm).2 h9))
 ·exfalso
  obtain rfl:m=1:=by have:=d.m0; omega
  obtain rfl:b=0:=by omega
  exact hk0 (d.zero1 hr)
def Fr (l h:Nat) (S:List Nat) (vO:Value):Prop:=(∀ g∈S,g < l∨h≤g)∧∀ k,vO.ownBlock=some k→k < l∨h≤k
structure Rst (N:Nat) (S:List Nat) (w:World) (v1 v2 v3 vO:Value) (m n:Nat) (X:Nat→Nat→Rat) (y p:Nat→Rat):Prop where
 A:∃ l h,MtV N l h w v1 m n X∧Fr l h S vO
 L:∃ l h,LsV N l h w v2 m y∧Fr l h S vO
 P:∃ l h,LsV N l h w v3 m p∧Fr l h S vO
section
variable {N:Nat} {S:List Nat} {w w':World} {v1 v2 v3 vO:Value} {m n:Nat} {X:Nat→Nat→Rat} {y p:Nat→Rat}
theorem Rst.ext (h:Rst N S w v1 v2 v3 vO m n X y p) (e:Ext w w'):Rst N S w' v1 v2 v3 vO m n X y p:=by
 obtain⟨⟨l1,h1,a1,b1⟩,⟨l2,h2,a2,b2⟩,⟨l3,h3,a3,b3⟩⟩:=h;exact⟨⟨l1,h1,a1.ext e,b1⟩,⟨l2,h2,a2.ext e,b2⟩,⟨l3,h3,a3.ext e,b3⟩⟩
theorem Rst.chgt (h:Rst N S w v1 v2 v3 vO m n X y p) {gt:Nat} (hgt:gt∈S) (c:Chg gt (gt+1) w w') (hN:N≤gt):Rst N S w' v1 v2 v3 vO m n X y p:=by
 obtain⟨⟨l1,h1,a1,b1⟩,⟨l2,h2,a2,b2⟩,⟨l3,h3,a3,b3⟩⟩:=h;exact⟨⟨l1,h1,a1.chg c hN (by have:=b1.1 gt hgt; omega),b1⟩,⟨l2,h2,a2.chg c hN (by have:=b2.1 gt hgt; omega),b2⟩,⟨l3,h3,a3.chg c hN (by have:=b3.1 gt hgt; omega),b3⟩⟩
theorem Rst.grow (h:Rst N S w v1 v2 v3 vO m n X y p) {g':Nat} (c:Chg g' (g'+1) w w') (hN:N≤g') (o:vO.ownBlock=some g'∨g'=w.heap.size) {vO':Value} (o':∀ k,vO'.ownBlock=some k→vO.ownBlock=some k∨k=w.heap.size):Rst N S w' v1 v2 v3 vO' m n X y p:=by
 obtain⟨⟨l1,h1,a1,b1⟩,⟨l2,h2,a2,b2⟩,⟨l3,h3,a3,b3⟩⟩:=h;have s1:=a1.2.1;have s2:=a2.2.1;have s3:=a3.2.1
 have key:∀ l h,h≤w.heap.size→Fr l h S vO→(g' < l∨h≤g')∧Fr l h S vO':=fun l h hs b=>by
  refine⟨?_,b.1,fun k hk=>?_⟩
  ·rcases o with o | o
   ·exact b.2 g' o
   ·omega
  ·rcases o' k hk with o9 | o9
   ·exact b.2 k o9
   ·omega
 exact⟨⟨l1,h1,a1.chg c hN (by have:=(key l1 h1 s1 b1).1; omega),(key l1 h1 s1 b1).2⟩,⟨l2,h2,a2.chg c hN (by have:=(key l2 h2 s2 b2).1; omega),(key l2 h2 s2 b2).2⟩,⟨l3,h3,a3.chg c hN (by have:=(key l3 h3 s3 b3).1; omega),(key l3 h3 s3 b3).2⟩⟩
theorem Rst.mt (h:Rst N S w v1 v2 v3 vO m n X y p):MtV N 0 w.heap.size w v1 m n X∧LsV N 0 w.heap.size w v2 m y∧LsV N 0 w.heap.size w v3 m p:=by
 obtain⟨⟨l1,h1,a1,b1⟩,⟨l2,h2,a2,b2⟩,⟨l3,h3,a3,b3⟩⟩:=h;exact⟨a1.all,LsV.all a2,LsV.all a3⟩
theorem Rst.cut {w0:World} {v:Value} (h:CutV N w0 m n X y p v w) (hS:∀ g∈S,g < w0.heap.size) (hO:∀ k,vO.ownBlock=some k→k < w0.heap.size) :
  ∃ (A1:Option Addr) (c1:Nat) (A2:Option Addr) (c2:Nat) (A3:Option Addr) (c3:Nat),v=.agg #[.slice A1 m c1,.slice A2 m c2,.slice A3 m c3]∧Rst N S w (.slice A1 m c1) (.slice A2 m c2) (.slice A3 m c3) vO m n X y p:=by
 obtain⟨h9,cap,g2,c2,g3,c3,lo,rfl,k1,k2,k3,hM,k4,k5,r2,k6,k7,r3⟩:=h;refine⟨_,cap,_,c2,_,c3,rfl,⟨lo,_,hM,fun g hg=>.inl (by have:=hS g hg; omega),fun k hk=>.inl (by have:=hO k hk; omega)⟩,⟨g2,g2+1,r2.lsv k4 k5 (Nat.le_refl _) (by omega) (by have:=r2.lt; omega),fun g hg=>.inl (by have:=hS g hg; omega),fun k hk=>.inl (by have:=hO k hk; omega)⟩,⟨g3,g3+1,r3.lsv k6 k7 (Nat.le_refl _) (by omega) (by have:=r3.lt; omega),fun g hg=>.inl (by have:=hS g hg; omega),fun k hk=>.inl (by have:=hO k hk; omega)⟩⟩
end
def lenOf:Value→Nat
 | .slice _ n _=>n
 | _=>0
def nats (l:List Nat):List Value:=l.map i64v
theorem nats_len (l:List Nat):(nats l).length=l.length:=by simp [nats]
theorem nats_app (l:List Nat) (z:Nat):nats (l ++ [z])=nats l ++ [i64v z]:=by simp [nats]
theorem nats_get {l:List Nat} {j:Nat} (hj:j < (nats l).length):(nats l)[j]=.int .i64 ((l[j]?.getD 0:Nat):Int):=by
 have h9:j < l.length:=by rw [nats_len] at hj; exact hj
 simp [nats,List.getElem?_eq_getElem h9]
theorem zero_int (w:World):(zeroValue 3).run Tryz.prog w=.ok (.int .i64 0) w:=by kernel_rfl
set_option maxRecDepth 100000 in
theorem sl_del_ints {w:World} {g cap n i:Nat} {cs:Array Value} (hb:w.heap[g]?=some (.cells cs 3 (0,0))) (hsz:cs.size=cap*1) (hcm:cap≤9223372036854775807) (hn:n≤cap) (hi:i < n) (hone:∀ k,k < n*1→∃ v,w.cell? ⟨g,k,none⟩=some v∧v.oneCell'=true) {J:Int} (hJ:J=(i:Int)+1) :
  Calls Tryz.prog 73 #[.slice (some ⟨g,0,none⟩) n cap,.int .i64 (i:Int),.int .i64 J] w (RetDel 1 3 g n cap i w):=by
 obtain⟨i0,hi0,hz0,hz1,hz2⟩:=info_parts info_int;have hT:NoU w g:=NoU.mk hb (by decide)
 obtain⟨news,hnl,hnv,hno⟩:∃ news:List Value,news.length=(n - (i+1))*1∧(∀ j u,news[j]?=some u→w.cell? ⟨g,(i+1)*1+j,none⟩=some u)∧∀ u∈news,u.oneCell'=true:=by
  refine⟨(List.range ((n - (i+1))*1)).map (fun j=>(w.cell? ⟨g,(i+1)*1+j,none⟩).getD undef),by simp,fun j u hu=>?_,fun u hu=>?_⟩
  ·rw [List.getElem?_map] at hu;obtain⟨j',hj',rfl⟩:=Option.map_eq_some_iff.1 hu;have hj2:=List.getElem?_eq_some_iff.1 hj';obtain⟨hj3,hj4⟩:=hj2;simp at hj3 hj4
   subst hj4;obtain⟨v,hv,-⟩:=hone ((i+1)*1+j) (by omega);rw [hv]; rfl
  ·obtain⟨j,hj,rfl⟩:=List.mem_map.1 hu;have hj3:j < (n - (i+1))*1:=by simpa using hj
   obtain⟨v,hv,h1⟩:=hone ((i+1)*1+j) (by omega);rw [hv]; exact h1
 have hfz:∀ k,w.frozen? ⟨g,k,none⟩=false:=fun k=>frozen_blk hb k
 obtain⟨AA,hAA,hsrc⟩:∃ A:Addr,(if cap=i+1 then some (⟨g,0,none⟩:Addr) else some ⟨g,(i+1)*1,none⟩)=some A∧Hid (∀ t u,news[t]?=some u→w.drew.cell? (A.add t)=some u):=by
  by_cases h:cap=i+1
  ·refine⟨⟨g,0,none⟩,by simp [h],fun t u hu=>?_⟩;have h0:news.length=0:=by rw [hnl,show n - (i+1)=0 by omega,Nat.zero_mul]
   rw [List.length_eq_zero_iff.1 h0] at hu;simp at hu
  ·refine⟨⟨g,(i+1)*1,none⟩,by simp [h],fun t u hu=>?_⟩;rw [add_none];exact hnv t u hu
 obtain⟨w1,hw1⟩:∃ w1,w1=w.drew.setCells g (0+i*1) news:=⟨_,rfl⟩
 have U1:Upd g w.drew w1:=by rw [hw1]; exact upd_cells g news _ w.drew w.drew (Upd.refl g w.drew)
 obtain⟨cs1,hb1,hs1⟩:∃ cs1,w1.heap[g]?=some (.cells cs1 3 (0,0))∧cs1.size=cs.size:=by rw [hw1]; exact blk_cells g _ _ news _ cs w.drew hb
 have hthere:∀ k,k < n*1→(w.drew.cell? ⟨g,k,none⟩).isSome=true:=fun k hk=>by obtain⟨v,hv,-⟩:=hone k hk; show (w.cell? _).isSome=true; rw [hv]; rfl
 have hin1:∀ j (hj:j < news.length),w1.cell? ⟨g,0+i*1+j,none⟩=some news[j]:=by
  rw [hw1]; exact World.cell?_setCells_in g news (0+i*1) w.drew (fun j hj=>hthere _ (by omega))
 have hout1:∀ k,k < i*1→w1.cell? ⟨g,k,none⟩=w.cell? ⟨g,k,none⟩:=fun k hk=>by
  rw [hw1]; exact World.cell?_setCells_out g news (0+i*1) w.drew ⟨g,k,none⟩ (fun _ _=>.inl (by simp only; omega))
 have hc1:∀ k,k < cap*1→(w1.cell? ⟨g,k,none⟩).isSome=true:=fun k hk=>by
  rw [cell_blk hb1,Array.getElem?_eq_getElem (by omega)]; rfl
 have hrun:=run_clear_cells (P:=Tryz.prog) w1 47 3 0 (Value.int .i64 0) Tryz.underlying47 zero_int (List.all_eq_true.1 (by rfl)) g ((n - 1)*1) (cap - (n - 1)) (fun j hj=>hc1 _ (by have h9:j < 1:=hj; omega)) (fun j hj=>frozen_blk hb1 _);obtain⟨w2,hw2⟩:∃ w2,w2=w1.setCells g ((n - 1)*1) ((Value.int .i64 0)).cells.toList:=⟨_,rfl⟩
 have U2:Upd g w1 w2:=by rw [hw2]; exact upd_cells g _ _ w1 w1 (Upd.refl g w1)
 obtain⟨cs2,hb2,hs2⟩:∃ cs2,w2.heap[g]?=some (.cells cs2 3 (0,0))∧cs2.size=cs1.size:=by rw [hw2]; exact blk_cells g _ _ _ _ cs1 w1 hb1
 have hout2:∀ k,k < (n - 1)*1→w2.cell? ⟨g,k,none⟩=w1.cell? ⟨g,k,none⟩:=fun k hk=>by
  rw [hw2]; exact World.cell?_setCells_out g _ _ w1 ⟨g,k,none⟩ (fun _ _=>.inl (by simp only; omega))
 rw [←hw2] at hrun
 have HFIN:Hid (Chg g (g+1) w w2∧(∃ cs,w2.heap[g]?=some (.cells cs 3 (0,0))∧cs.size=cap*1)∧(∀ k,k < i*1→w2.cell? ⟨g,k,none⟩=w.cell? ⟨g,k,none⟩)∧(∀ k,i*1≤k→k < (n - 1)*1→w2.cell? ⟨g,k,none⟩=w.cell? ⟨g,k+1,none⟩)):=by
  refine⟨(((Ext.refl w).drew.chg g (g+1)).trans (U1.chg hT)).trans (U2.chg (NoU.mk hb1 (by decide))),⟨cs2,hb2,by omega⟩,fun k hk=>?_,fun k hk1 hk2=>?_⟩
  ·rw [hout2 k (by omega),hout1 k hk]
  ·obtain⟨j,rfl⟩:∃ j,k=0+i*1+j:=⟨k - i*1,by omega⟩
   have hj:j < news.length:=by rw [hnl]; omega
   rw [hout2 _ hk2,hin1 j hj];have h9:=hnv j _ (List.getElem?_eq_getElem hj);rw [show 0+i*1+j+1=(i+1)*1+j by omega];exact h9.symm
 have s1:Hid (news.length=(n - (i+1))*1):=hnl;have s2:=Lib.hid hno;have s3:Hid (∀ t,t < news.length→(w.drew.cell? ⟨g,0+i*1+t,none⟩).isSome=true∧w.drew.frozen? ⟨g,0+i*1+t,none⟩=false):=fun t ht=>⟨hthere _ (by omega),hfz _⟩
 have HW1:=Lib.hid hw1;have hl9:i+(n - (i+1))=n - 1:=by omega
 have hJ1:((i:Int) == J)=false:=beq_eq_false_iff_ne.2 (by omega);have hJ2:J.toNat=i+1:=by omega
 obtain⟨q,hq⟩:=hid_eq (n - 1);rw [←hq.out] at hl9 hrun HFIN;have hqn:q+1=n:=by rw [hq.out]; omega
 have hqc:¬ cap=q:=by omega
 have hnq:n - q=1:=by omega
 clear hw1 hw2 U1 U2 hthere hin1 hout1 hout2 hc1 hfz hone hnv hnl hno hb1 hb2 hs1 hs2 hT hb hsz
 (try simp only [Nat.mul_one] at hAA hrun)
 go_enter Tryz.func73,Tryz.ntmps73;go_upto_region 5 with (fail);have eC:=(Ext.refl w).drew;refine region_late (fun w'=>True) [6] (by kernel_rfl) (by exact trivial) (fun hHeld=>?_);refine sP 0 (h:=?_);try simp only [nr]
 refine sP 1 (h:=?_);try simp only [nr]
 refine sP 2 (h:=?_);try simp only [nr]
 refine sP 3 (h:=?_);try simp only [nr]
 refine sP 4 (h:=?_);try simp only [nr]
 refine sP 5 (h:=?_);try simp only [nr]
 refine stepL_late (i:=6) rfl (by kernel_rfl) (by kernel_rfl) (fun K hK=>?_);refine step_append_room rfl _ _ 47 rfl 3 i0 1 Tryz.underlying47 hi0 hz1 g 0 i cap (by simp [Act.eval]) AA (n - (i+1)) (cap - (i+1)) news (by simp [Act.eval,hAA]) s1.out hsrc.out s2.out (by omega) s3.out ?_;rw [←HW1.out,hl9];refine hK.out _ _ ?_;clear hK K;try simp only [nr]
 refine sP 7 (h:=?_);try simp only [nr]
 refine stepL_done (by kernel_rfl) ?_ _;clear hHeld;go_wp2;go_ret;refine⟨?_,?_⟩
 ·rw [←hq.out]; rfl
 ·have h9:=HFIN.out;rw [hq.out] at h9;exact h9
theorem del_nats {w w':World} {base g n cap i:Nat} {l:List Nat} {e:Ending} (h:GrowO 3 base w (.slice (some ⟨g,0,none⟩) n cap) (nats l)) (hn:l.length=n) (hi:i < n) (hd:RetDel 1 3 g n cap i w e w') :
  e=.returned (.slice (some ⟨g,0,none⟩) (n - 1) cap)∧Chg g (g+1) w w'∧GrowO 3 base w' (.slice (some ⟨g,0,none⟩) (n - 1) cap) (nats (l.eraseIdx i)):=by
 obtain⟨rfl,hC,⟨cs,hb,hs⟩,hlo,hhi⟩:=hd;obtain⟨g',cap',hv,hbg,hgl,hcm,hnc,-,hat⟩:=h.at_ (by rw [nats_len]; omega);injection hv with e1 e2 e3
 injection e1 with e1
 injection e1 with e1
 subst e1 e3;have hlen:(nats (l.eraseIdx i)).length=n - 1:=by rw [nats_len,List.length_eraseIdx,if_pos (by omega),hn]
 refine⟨rfl,hC,Nat.le_trans h.1 hC.size,?_,.inr ⟨g,cap,cs,by rw [hlen],hbg,hb,by rw [nats_len] at hnc; omega,hcm,by omega,?_⟩⟩
 ·simp
 ·rw [hlen,Nat.mul_one]
  apply List.ext_getElem
  ·simp; rw [hlen]; omega
  ·intro k h1 h2;rw [hlen] at h2;rw [List.getElem_take,Array.getElem_toList]
   have hck:w'.cell? ⟨g,k,none⟩=some cs[k]:=by
    rw [cell_blk hb]; exact Array.getElem?_eq_getElem _
   rw [nats_get (by rw [hlen]; exact h2)]
   by_cases hki:k < i
   ·rw [hlo k (by omega),hat k (by rw [nats_len]; omega),nats_get] at hck;injection hck with hck
    rw [←hck,List.getElem?_eraseIdx,if_pos hki]
   ·rw [hhi k (by omega) (by omega),hat (k+1) (by rw [nats_len]; omega),nats_get] at hck;injection hck with hck
    rw [←hck,List.getElem?_eraseIdx,if_neg hki]
theorem nats_one {w:World} {base g n cap:Nat} {l:List Nat} (h:GrowO 3 base w (.slice (some ⟨g,0,none⟩) n cap) (nats l)) (hn:l.length=n) (hn0:0 < n) :
  n≤cap∧cap≤maxLen∧base≤g∧(∃ cs,w.heap[g]?=some (.cells cs 3 (0,0))∧cs.size=cap*1)∧∀ k,k < n*1→∃ v,w.cell? ⟨g,k,none⟩=some v∧v.oneCell'=true:=by
 obtain⟨g',cap',hv,hbg,hgl,hcm,hnc,⟨cs,hb,hs⟩,hat⟩:=h.at_ (by rw [nats_len]; omega);injection hv with e1 e2 e3
 injection e1 with e1
 injection e1 with e1
 subst e1 e3;refine⟨by rw [nats_len] at hnc; omega,hcm,hbg,⟨cs,hb,by omega⟩,fun k hk=>⟨_,hat k (by rw [nats_len]; omega),?_⟩⟩;rw [nats_get]
 rfl
theorem l38_row {N:Nat} {w:World} {g k:Nat} {f:Nat→Int} {cs:Array Value} {t:TypeId} (hN:N≤w.heap.size) (hB:w.heap[g]?=some (.cells cs t (0,0))) (hc:∀ i,i < k→cs[i]?=some (.int .i64 (f i))) (hk:k < 1000) (hf:∀ i,i < k→-1000≤f i∧f i≤1000) :
  Calls Tryz.prog 57 #[.slice (some ⟨g,0,none⟩) k k] w (RetL N w k (fun i=>((f i:Int):Rat))):=by
 have HC:Hid (∀ wr,Ext w wr→∀ i,i < k→wr.cell? ⟨g,i,none⟩=some (.int .i64 (f i))):=fun wr e i hi=>e.cell (by rw [cell_blk hB,hc i hi])
 have HF:=Lib.hid hf;clear hB hc hf;go_enter Tryz.func57,Tryz.ntmps57;go_wp2
 go_loopw [3,8] (fun v i wr=>∃ a:Nat,a≤k∧i=.int .i64 a∧Ext w wr∧∃ A c,v=.slice A a c∧Grow N w.heap.size wr (.slice A a c) a (fun i=>((f i:Int):Rat))) (fun _ i _=>k - (intOf i).toNat)
 case atStart=>exact⟨0,Nat.zero_le _,rfl,Ext.refl w,_,_,rfl,Grow.nil hN (Nat.le_refl _) _⟩
 case round =>
  obtain⟨a,ha,rfl,hE,A',c',rfl,hR⟩:=hrel;have hsE:=hE.size
  by_cases hlt:a < k
  ·have p0:=HC.out _ hE a hlt;have hf1:=(HF.out a hlt).1;have hf2:=(HF.out a hlt).2;obtain⟨z,hz⟩:=hid_eq (f a);rw [←hz.out] at p0 hf1 hf2;go_wp2_with (go_at_call 50; refine Hid.out ?_);refine (r2_Whole (N:=N) (by omega) z (by omega) (by omega)).mono ?_;rw [hz.out];intro e w1 hh;obtain⟨b1,A1,k1,c1,A2,k2,c2,rfl,hb1,g1,g2,e1⟩:=hh.form;go_wp2_with (at_builtin; refine Hid.out ?_);refine boxes1 ?_;intro w2 e2 hsz2 BX;replace hE:=(hE.trans e1).trans e2;replace hR:=(hR.ext e1).ext e2;refine wpList_append_rat rfl _ _ 24 Tryz.underlying24 rfl rfl hR rfl BX hb1 (g1.ext e2) (g2.ext e2) (by omega) ?_;rintro g' cap w3 hR3 ⟨g2',hg2,c3,-⟩ -;replace hE:=c3.ext hE (by omega);replace hR3:=hR3.congr (y:=fun i=>((f i:Int):Rat)) (fun i _=>by unfold upd; split <;> simp_all);clear hR c3 g1 g2 e1 e2 BX p0 hh hf1 hf2;go_wp2;go_roundw
   case rel=>exact⟨a+1,by omega,by go_num,hE,_,_,rfl,hR3⟩
   case measure=>simp [intOf]; omega
  ·obtain rfl:a=k:=by omega
   go_wp2;go_ret;exact⟨A',c',rfl,hR.lsv (Nat.le_refl _) rfl,hE⟩
theorem nats_isv {base:Nat} {w:World} {v:Value} {l:List Nat} (h:GrowO 3 base w v (nats l)):IsV 0 w.heap.size w v l:=by
 refine⟨Nat.le_refl _,?_⟩
 rcases Nat.eq_zero_or_pos l.length with h0 | h0
 ·rcases h.2.2 with ⟨rfl,-⟩ | ⟨g,cap,cur,rfl,hb,hh,h1,h2,-⟩
  ·exact⟨none,0,by rw [h0],by omega,Nat.zero_le _,fun h=>absurd h (by omega)⟩
  ·exact⟨_,cap,by rw [nats_len],by rw [nats_len] at h1; exact h1,h2,fun h=>absurd h (by omega)⟩
 ·obtain⟨g,cap,rfl,-,hgl,hcm,hnc,-,hat⟩:=h.at_ (by rw [nats_len]; exact h0);rw [nats_len] at hnc;refine⟨_,cap,by rw [nats_len],hnc,hcm,fun _=>⟨g,0,rfl,Nat.zero_le _,hgl,fun i hi=>?_⟩⟩;rw [Nat.zero_add,hat i (by rw [nats_len]; exact hi),nats_get]
theorem sl_eqInts {lo hi lo2 hi2:Nat} {w:World} {v u:Value} {l:List Nat} (h:IsV lo hi w v l) (h':IsV lo2 hi2 w u l) :
  Calls Tryz.prog 25 #[v,u] w (RetV w (.bool true)):=by
 obtain⟨A,c,rfl,hnc,hcm⟩:=h.form;obtain⟨A',c',rfl,hnc',hcm'⟩:=h'.form;unfold maxLen at hcm hcm';have hI:=h;have hI':=h';obtain⟨n,hn⟩:∃ n,n=l.length:=⟨_,rfl⟩
 rw [←hn] at hI hI' hnc hnc' ⊢;have HN:=Lib.hid hn;clear h h' hn;go_enter Tryz.func25,Tryz.ntmps25;go_wp2
 go_loopw [13] (fun i wr=>∃ k:Nat,k≤n∧i=.int .i64 k∧Ext w wr) (fun i _=>n - (intOf i).toNat)
 case atStart=>exact⟨0,Nat.zero_le _,rfl,Ext.refl w⟩
 case round =>
  obtain⟨k,hk,rfl,hE⟩:=hrel
  by_cases hlt:k < n
  ·have hkl:k < l.length:=by rw [←HN.out]; exact hlt
   obtain⟨b,off,z,rfl,p0,hz⟩:=(hI.ext hE).at_ hkl;obtain⟨b',off',z',rfl,p1,hz'⟩:=(hI'.ext hE).at_ hkl;obtain rfl:z=z':=by rw [hz.out,hz'.out]
   clear hz hz';go_upto_region 6 with (fail);refine regI [Mn.eq (.slice (some ⟨b,off,none⟩) n c),Mn.eq (.int .i64 (k:Int)),Mn.eq (.pointer (some ⟨b,off+k,none⟩)),Mn.eq (.int .i64 (z:Int)),Mn.eq (.slice (some ⟨b',off',none⟩) n c'),Mn.eq (.int .i64 (k:Int)),Mn.eq (.pointer (some ⟨b',off'+k,none⟩)),Mn.eq (.int .i64 (z:Int)),Mn.eq (.bool false)] [some 16,some 17,some 18,some 19,some 20,some 21,some 22,some 23,some 24] [] [true,true,true,true,true,true,true,true,true] 0 (by kernel_rfl) ?_ ?_
   ·show ∀ i,i < 9→_
    iterate 9 refine fs ?_ ?_
    ·exact fz
    all_goals intro hl
    all_goals clear hl
    all_goals refine stp rfl ?_
    all_goals intro ac wi eI hB hA K hK
    have o0:=oOf (hB 0 (by kernel_rfl)) rfl
    rotate_left
    have o5:=oOf (hB 5 (by kernel_rfl)) rfl
    rotate_left
    obtain⟨_,s16,rfl⟩:=hA 0 (by kernel_rfl) 16 rfl;obtain⟨_,s17,rfl⟩:=hA 1 (by kernel_rfl) 17 rfl
    rotate_left
    obtain⟨_,s18,rfl⟩:=hA 2 (by kernel_rfl) 18 rfl;have cc0:=eI.cell p0
    rotate_left
    have o1:=oOf (hB 1 (by kernel_rfl)) rfl
    rotate_left
    have o5:=oOf (hB 5 (by kernel_rfl)) rfl
    rotate_left
    obtain⟨_,s20,rfl⟩:=hA 4 (by kernel_rfl) 20 rfl;obtain⟨_,s21,rfl⟩:=hA 5 (by kernel_rfl) 21 rfl
    rotate_left
    obtain⟨_,s22,rfl⟩:=hA 6 (by kernel_rfl) 22 rfl;have cc0:=eI.cell p1
    rotate_left
    obtain⟨_,s19,rfl⟩:=hA 3 (by kernel_rfl) 19 rfl;obtain⟨_,s23,rfl⟩:=hA 7 (by kernel_rfl) 23 rfl
    rotate_left
    all_goals clear hB hA
    all_goals go_simp
    all_goals exact hK.out _ _ (Ext.refl _) rfl
   intro vals wz eZ hJ;have J24:vals 8=_:=hJ 8 (by decide) (by decide);clear hJ;simp only [pr,Nat.reduceAdd,J24];clear J24;refine stepL_done (by kernel_rfl) ?_ _;go_wp2;go_roundw
   case rel=>exact⟨k+1,by omega,by go_num,hE.trans eZ⟩
   case measure=>simp [intOf]; omega
  ·go_wp2;go_ret;exact⟨rfl,hE⟩
set_option maxRecDepth 100000 in
theorem sn_Detectable {N lo hi lo2 hi2:Nat} {w:World} {v1 v2 v3 u:Value} {m n:Nat} {X:Nat→Nat→Rat} {y p:Nat→Rat} {dl:Rat} (h1:MtV N lo hi w v1 m n X) (h2:LsV N lo2 hi2 w v2 m y) (h3:LsV N lo2 hi2 w v3 m p) (hx:RatV N w u dl) (d:Md m n X y p) (hr:Reg n (nmat X p m)) (hdh:Ht 400 dl) (z:Int) (hz:inB m z=true) (hd:0 < dl) (h0:rS m n X p z.toNat≠0) :
  Calls Tryz.prog 42 #[.agg #[v1,v2,v3],.int .i64 z,u] w (RetRC N w (dl / (p z.toNat*rS m n X p z.toNat))):=by
 have HT:Hid (∀ W,Ext w W→Calls Tryz.prog 86 #[.agg #[v1,v2,v3],.int .i64 z,u] W (RetTd N W (rS m n X p z.toNat))):=fun W e=>sn_tested (h1.ext e) (h2.ext e) (h3.ext e) (hx.ext e) d hr (hdh.sz (by omega)) z hz hd h0
 obtain⟨i,hi'⟩:∃ i,i=z.toNat:=⟨_,rfl⟩
 have him:i < m:=by rw [hi']; exact (inB_true hz).2
 have hzi:z=(i:Int):=by rw [hi']; exact (inB_true hz).1
 rw [←hi'] at HT h0 ⊢;subst hzi;have hm0:=d.m0;have HR0:=Lib.hid h0;have HZD:=Lib.hid (hdh.sz (by omega));have HZP:=Lib.hid ((d.hp i him).sz (by omega));have HZR:=Lib.hid ((d.r_ht i him).sz (by omega));have HZ1:Hid (Sz ((1:Int):Rat)):=(ht_nat 1 1 (by decide) (by omega)).sz (by omega);have HPR:=Lib.hid (((d.hp i him).mul (d.r_ht i him)).sz (by omega))
 have HPR0:Hid (p i*rS m n X p i≠0):=fun e=>by
  rcases Rat.mul_eq_zero.1 e with e9 | e9
  ·exact absurd (d.pos i him) (by rw [e9]; decide)
  ·exact h0 e9
 have H1R:=Lib.hid ((Ht.sub Ht.one (d.r_ht i him)).sz (by omega));have HDR:=Lib.hid ((hdh.mul (Ht.sub Ht.one (d.r_ht i him))).sz (by omega));have hN:=h1.le;have hI3:=h3;have hIx:=hx;obtain⟨A1,c1,rfl,-⟩:=h1.form;obtain⟨A2,c2,rfl,-⟩:=h2.form;obtain⟨A3,c3,rfl,-⟩:=h3.form;obtain⟨b9,Q1,k1,l1,Q2,k2,l2,rfl,-⟩:=RatV.parts hx;obtain⟨e3,off3,rfl,-,-,hx3⟩:=LsV.addr hI3 hm0;clear h1 h2 h3 hx d hr hi' hz hd h0 hdh;go_enter Tryz.func42,Tryz.ntmps42;go_upto_region 1 with (fail);refine boxes3 ?_;intro W hE hsz B0 B1 B4;obtain⟨a0,a1,a2,-⟩:=cells3 B0;obtain⟨d0,d1,d2,d3,-⟩:=cells4 B1;go_wp2_with (go_at_call 86; refine Hid.out ?_);refine (HT.out _ hE).mono ?_;rintro e w1 ⟨v,v9,rfl,⟨E1,p1,q1,E2,p2,q2,E3,p3,q3,E4,p4,q4,E5,p5,q5,fn,f1,f2,rfl⟩,h9,e1⟩;obtain⟨nb,A9,n9,c9,A8,n8,c8,rfl,hnb,g9,g8⟩:=RatV.parts h9;replace hE:=hE.trans e1;replace B0:=e1.block B0;replace B1:=e1.block B1;replace B4:=e1.block B4;clear a0 a1 a2 d0 d1 d2 d3 e1;go_upto_region 4 with (fail);refine boxes2 ?_;intro w2 e2 hsz2 B8 B9;replace h9:=h9.ext e2;replace hE:=hE.trans e2;replace B0:=e2.block B0;replace B1:=e2.block B1;replace B4:=e2.block B4;obtain⟨g9',hg9'⟩:∃ g9',g9'=w1.heap.size+1:=⟨_,rfl⟩
 rw [←hg9'] at B9 ⊢;clear e2 hsz2 hg9' B8 g9 g8;obtain⟨a0,a1,a2,-⟩:=cells3 B0;obtain⟨d0,d1,d2,d3,-⟩:=cells4 B1;obtain⟨t0,t1,t2,t3,-⟩:=cells4 B9;have hRd:=hIx.ext hE;obtain⟨n7,A7,k7,c7,A6,k6,c6,s0,s1,s2,s3,hb7,g7,g6⟩:=((hx3 i him).ext hE).open;have hRp:RatV N w2 (.agg #[.bool n7,.slice A7 k7 c7,.bool false,.slice A6 k6 c6]) (p i):=RatV.mk hb7 g7 g6;refine regI [Mn.rat N (dl),Mn.eq (.pointer (some ⟨w.heap.size,2,none⟩)),Mn.eq (.slice (some ⟨e3,off3,none⟩) m c3),Mn.eq (.int .i64 (i:Int)),Mn.eq (.pointer (some ⟨e3,off3+i*4,none⟩)),Mn.rat N (p i),Mn.rat N (rS m n X p i),Mn.rat N (p i*rS m n X p i),Mn.rc N (dl / (p i*rS m n X p i)),Mn.rat N (dl / (p i*rS m n X p i)),Mn.eq (.int .i64 0),Mn.any,Mn.any] [some 23,some 24,some 25,some 26,some 27,some 28,some 29,some 30,some 31,some 32,some 33,none,some 7] [11,12] [true,true,true,true,true,true,true,true,true,true,true,false,false] 2 (by kernel_rfl) ?_ ?_
 ·show ∀ i,i < 13→_
  iterate 13 refine fs ?_ ?_
  ·exact fz
  all_goals intro hl
  all_goals first | exact absurd hl (by decide) | skip
  all_goals clear hl
  all_goals refine stp rfl ?_
  all_goals intro ac wi eI hB hA K hK
  have o5:=oOf (hB 5 (by kernel_rfl)) rfl;clear hB hA;have cc0:=eI.cell d0;have cc1:=eI.cell d1;have cc2:=eI.cell d2;have cc3:=eI.cell d3
  ·go_simp;exact hK.out _ _ (Ext.refl _) (hRd.ext eI)
  have o3:=oOf (hB 3 (by kernel_rfl)) rfl
  rotate_left
  obtain⟨_,s24,rfl⟩:=hA 1 (by kernel_rfl) 24 rfl;have cc0:=eI.cell a2
  rotate_left
  have o1:=oOf (hB 1 (by kernel_rfl)) rfl
  rotate_left
  obtain⟨_,s25,rfl⟩:=hA 2 (by kernel_rfl) 25 rfl;obtain⟨_,s26,rfl⟩:=hA 3 (by kernel_rfl) 26 rfl
  rotate_left
  obtain⟨_,s27,rfl⟩:=hA 4 (by kernel_rfl) 27 rfl;clear hB hA;have cc0:=eI.cell s0;have cc1:=eI.cell s1;have cc2:=eI.cell s2;have cc3:=eI.cell s3
  ·go_simp;exact hK.out _ _ (Ext.refl _) (hRp.ext eI)
  have o9:=oOf (hB 9 (by kernel_rfl)) rfl;clear hB hA;have cc0:=eI.cell t0;have cc1:=eI.cell t1;have cc2:=eI.cell t2;have cc3:=eI.cell t3
  ·go_simp;exact hK.out _ _ (Ext.refl _) (h9.ext eI)
  obtain⟨x28,s28,j28⟩:=hA 5 (by kernel_rfl) 28 rfl;replace j28:Mn.p (Mn.rat N (p i)) x28 wi:=j28;obtain⟨x29,s29,j29⟩:=hA 6 (by kernel_rfl) 29 rfl;replace j29:Mn.p (Mn.rat N (rS m n X p i)) x29 wi:=j29;clear hB hA
  ·go_simp;refine (f_mul j28 j29 HZP.out HZR.out).mono ?_;rintro e wj ⟨vj,rfl,hj,ej⟩;go_wp2_with fail;exact hK.out _ _ ej hj
  obtain⟨x23,s23,j23⟩:=hA 0 (by kernel_rfl) 23 rfl;replace j23:Mn.p (Mn.rat N (dl)) x23 wi:=j23;obtain⟨x30,s30,j30⟩:=hA 7 (by kernel_rfl) 30 rfl;replace j30:Mn.p (Mn.rat N (p i*rS m n X p i)) x30 wi:=j30;clear hB hA
  ·go_simp;refine (f_divide j23 j30 HZD.out HPR.out HPR0.out).mono ?_;rintro e wj ⟨vj,rfl,hj,ej⟩;go_wp2_with fail;exact hK.out _ _ ej ⟨vj,rfl,hj⟩
  obtain⟨x31,s31,j31⟩:=hA 8 (by kernel_rfl) 31 rfl;replace j31:Mn.p (Mn.rc N (dl / (p i*rS m n X p i))) x31 wi:=j31;clear hB hA
  ·obtain⟨vj,rfl,hj⟩:=j31;go_simp;exact hK.out _ _ (Ext.refl _) hj
  obtain⟨x31,s31,j31⟩:=hA 8 (by kernel_rfl) 31 rfl;replace j31:Mn.p (Mn.rc N (dl / (p i*rS m n X p i))) x31 wi:=j31;clear hB hA
  ·obtain⟨vj,rfl,hj⟩:=j31;go_simp;exact hK.out _ _ (Ext.refl _) rfl
  all_goals clear hB hA
  all_goals go_simp
  all_goals exact hK.out _ _ (Ext.refl _) rfl
 intro vals wz eZ hJ;have J30:Mn.p (Mn.rat N (p i*rS m n X p i)) (vals 7) wz:=hJ 7 (by decide) (by decide);have J32:Mn.p (Mn.rat N (dl / (p i*rS m n X p i))) (vals 9) wz:=hJ 9 (by decide) (by decide);have J33:vals 10=_:=hJ 10 (by decide) (by decide);clear hJ;simp only [pr,Nat.reduceAdd,J33];clear J33
 generalize vals 7=z30 at J30 ⊢
 generalize vals 9=z32 at J32 ⊢
 replace hE:=hE.trans eZ;replace B4:=eZ.block B4;obtain⟨bz,Az,kz,cz,Az',kz',cz',rfl,hbz,gz1,gz2⟩:=RatV.parts J32;obtain⟨u0,u1,u2,u3,u4,u5,u6,u7⟩:=cells4 B4;refine stepL_late (i:=11) rfl (by kernel_rfl) (by kernel_rfl) (fun K hK=>?_);go_simp;refine hK.out _ _ ?_;clear hK K;try simp only [nr]
 refine stepL_late (i:=12) rfl (by kernel_rfl) (by kernel_rfl) (fun K hK=>?_);go_simp;refine hK.out _ _ ?_;clear hK K;try simp only [nr]
 refine stepL_done (by kernel_rfl) ?_ _;go_wp2;exact fin_ratT rfl rfl rfl rfl hE B4 (by omega) hN gz1 gz2 hbz (fun v w' hv he=>⟨v,rfl,hv,he⟩)
set_option maxRecDepth 100000 in
theorem sn_Reach {N lo hi lo2 hi2:Nat} {w:World} {v1 v2 v3 u:Value} {m n:Nat} {X:Nat→Nat→Rat} {y p:Nat→Rat} {dl:Rat} (h1:MtV N lo hi w v1 m n X) (h2:LsV N lo2 hi2 w v2 m y) (h3:LsV N lo2 hi2 w v3 m p) (hx:RatV N w u dl) (d:Md m n X y p) (hr:Reg n (nmat X p m)) (hdh:Ht 400 dl) (z:Int) (hz:inB m z=true) (hd:0 < dl) (h0:rS m n X p z.toNat≠0) :
  Calls Tryz.prog 44 #[.agg #[v1,v2,v3],.int .i64 z,u] w (RetRC N w (dl*(1 - rS m n X p z.toNat) / rS m n X p z.toNat)):=by
 have HT:Hid (∀ W,Ext w W→Calls Tryz.prog 86 #[.agg #[v1,v2,v3],.int .i64 z,u] W (RetTd N W (rS m n X p z.toNat))):=fun W e=>sn_tested (h1.ext e) (h2.ext e) (h3.ext e) (hx.ext e) d hr (hdh.sz (by omega)) z hz hd h0
 obtain⟨i,hi'⟩:∃ i,i=z.toNat:=⟨_,rfl⟩
 have him:i < m:=by rw [hi']; exact (inB_true hz).2
 have hzi:z=(i:Int):=by rw [hi']; exact (inB_true hz).1
 rw [←hi'] at HT h0 ⊢;subst hzi;have hm0:=d.m0;have HR0:=Lib.hid h0;have HZD:=Lib.hid (hdh.sz (by omega));have HZP:=Lib.hid ((d.hp i him).sz (by omega));have HZR:=Lib.hid ((d.r_ht i him).sz (by omega));have HZ1:Hid (Sz ((1:Int):Rat)):=(ht_nat 1 1 (by decide) (by omega)).sz (by omega);have HPR:=Lib.hid (((d.hp i him).mul (d.r_ht i him)).sz (by omega))
 have HPR0:Hid (p i*rS m n X p i≠0):=fun e=>by
  rcases Rat.mul_eq_zero.1 e with e9 | e9
  ·exact absurd (d.pos i him) (by rw [e9]; decide)
  ·exact h0 e9
 have H1R:=Lib.hid ((Ht.sub Ht.one (d.r_ht i him)).sz (by omega));have HDR:=Lib.hid ((hdh.mul (Ht.sub Ht.one (d.r_ht i him))).sz (by omega));have hN:=h1.le;have hI3:=h3;have hIx:=hx;obtain⟨A1,c1,rfl,-⟩:=h1.form;obtain⟨A2,c2,rfl,-⟩:=h2.form;obtain⟨A3,c3,rfl,-⟩:=h3.form;obtain⟨b9,Q1,k1,l1,Q2,k2,l2,rfl,-⟩:=RatV.parts hx;obtain⟨e3,off3,rfl,-,-,hx3⟩:=LsV.addr hI3 hm0;clear h1 h2 h3 hx d hr hi' hz hd h0 hdh;go_enter Tryz.func44,Tryz.ntmps44;go_upto_region 1 with (fail);refine boxes3 ?_;intro W hE hsz B0 B1 B4;obtain⟨a0,a1,a2,-⟩:=cells3 B0;obtain⟨d0,d1,d2,d3,-⟩:=cells4 B1;go_wp2_with (go_at_call 86; refine Hid.out ?_);refine (HT.out _ hE).mono ?_;rintro e w1 ⟨v,v9,rfl,⟨E1,p1,q1,E2,p2,q2,E3,p3,q3,E4,p4,q4,E5,p5,q5,fn,f1,f2,rfl⟩,h9,e1⟩;obtain⟨nb,A9,n9,c9,A8,n8,c8,rfl,hnb,g9,g8⟩:=RatV.parts h9;replace hE:=hE.trans e1;replace B0:=e1.block B0;replace B1:=e1.block B1;replace B4:=e1.block B4;clear a0 a1 a2 d0 d1 d2 d3 e1;go_upto_region 4 with (fail);refine boxes2 ?_;intro w2 e2 hsz2 B8 B9;replace h9:=h9.ext e2;replace hE:=hE.trans e2;replace B0:=e2.block B0;replace B1:=e2.block B1;replace B4:=e2.block B4;obtain⟨g9',hg9'⟩:∃ g9',g9'=w1.heap.size+1:=⟨_,rfl⟩
 rw [←hg9'] at B9 ⊢;clear e2 hsz2 hg9' B8 g9 g8;obtain⟨a0,a1,a2,-⟩:=cells3 B0;obtain⟨d0,d1,d2,d3,-⟩:=cells4 B1;obtain⟨t0,t1,t2,t3,-⟩:=cells4 B9;have hRd:=hIx.ext hE;obtain⟨n7,A7,k7,c7,A6,k6,c6,s0,s1,s2,s3,hb7,g7,g6⟩:=((hx3 i him).ext hE).open;have hRp:RatV N w2 (.agg #[.bool n7,.slice A7 k7 c7,.bool false,.slice A6 k6 c6]) (p i):=RatV.mk hb7 g7 g6;have hNe:N≤w2.heap.size:=by have:=hE.size; omega
 refine regI [Mn.rat N (dl),Mn.rat N ((1:Int):Rat),Mn.rat N (rS m n X p i),Mn.rat N (1 - rS m n X p i),Mn.rat N (dl*(1 - rS m n X p i)),Mn.rat N (rS m n X p i),Mn.rc N (dl*(1 - rS m n X p i) / rS m n X p i),Mn.rat N (dl*(1 - rS m n X p i) / rS m n X p i),Mn.eq (.int .i64 0),Mn.any,Mn.any] [some 23,some 24,some 25,some 26,some 27,some 28,some 29,some 30,some 31,none,some 7] [9,10] [true,true,true,true,true,true,true,true,true,false,false] 2 (by kernel_rfl) ?_ ?_
 ·show ∀ i,i < 11→_
  iterate 11 refine fs ?_ ?_
  ·exact fz
  all_goals intro hl
  all_goals first | exact absurd hl (by decide) | skip
  all_goals clear hl
  all_goals refine stp rfl ?_
  all_goals intro ac wi eI hB hA K hK
  have o5:=oOf (hB 5 (by kernel_rfl)) rfl;clear hB hA;have cc0:=eI.cell d0;have cc1:=eI.cell d1;have cc2:=eI.cell d2;have cc3:=eI.cell d3
  ·go_simp;exact hK.out _ _ (Ext.refl _) (hRd.ext eI)
  clear hB hA
  ·go_simp;refine (f_whole (N:=N) (by have:=eI.size; omega) 1 (by omega) (by omega)).mono ?_;rintro e wj ⟨vj,rfl,hj,ej⟩;go_wp2_with fail;exact hK.out _ _ ej hj
  have o9:=oOf (hB 9 (by kernel_rfl)) rfl;clear hB hA;have cc0:=eI.cell t0;have cc1:=eI.cell t1;have cc2:=eI.cell t2;have cc3:=eI.cell t3
  ·go_simp;exact hK.out _ _ (Ext.refl _) (h9.ext eI)
  obtain⟨x24,s24,j24⟩:=hA 1 (by kernel_rfl) 24 rfl;replace j24:Mn.p (Mn.rat N ((1:Int):Rat)) x24 wi:=j24;obtain⟨x25,s25,j25⟩:=hA 2 (by kernel_rfl) 25 rfl;replace j25:Mn.p (Mn.rat N (rS m n X p i)) x25 wi:=j25;clear hB hA
  ·go_simp;refine (f_sub j24 j25 HZ1.out HZR.out).mono ?_;rintro e wj ⟨vj,rfl,hj,ej⟩;go_wp2_with fail;exact hK.out _ _ ej hj
  obtain⟨x23,s23,j23⟩:=hA 0 (by kernel_rfl) 23 rfl;replace j23:Mn.p (Mn.rat N (dl)) x23 wi:=j23;obtain⟨x26,s26,j26⟩:=hA 3 (by kernel_rfl) 26 rfl;replace j26:Mn.p (Mn.rat N (1 - rS m n X p i)) x26 wi:=j26;clear hB hA
  ·go_simp;refine (f_mul j23 j26 HZD.out H1R.out).mono ?_;rintro e wj ⟨vj,rfl,hj,ej⟩;go_wp2_with fail;exact hK.out _ _ ej hj
  have o9:=oOf (hB 9 (by kernel_rfl)) rfl;clear hB hA;have cc0:=eI.cell t0;have cc1:=eI.cell t1;have cc2:=eI.cell t2;have cc3:=eI.cell t3
  ·go_simp;exact hK.out _ _ (Ext.refl _) (h9.ext eI)
  obtain⟨x27,s27,j27⟩:=hA 4 (by kernel_rfl) 27 rfl;replace j27:Mn.p (Mn.rat N (dl*(1 - rS m n X p i))) x27 wi:=j27;obtain⟨x28,s28,j28⟩:=hA 5 (by kernel_rfl) 28 rfl;replace j28:Mn.p (Mn.rat N (rS m n X p i)) x28 wi:=j28;clear hB hA
  ·go_simp;refine (f_divide j27 j28 HDR.out HZR.out HR0.out).mono ?_;rintro e wj ⟨vj,rfl,hj,ej⟩;go_wp2_with fail;exact hK.out _ _ ej ⟨vj,rfl,hj⟩
  obtain⟨x29,s29,j29⟩:=hA 6 (by kernel_rfl) 29 rfl;replace j29:Mn.p (Mn.rc N (dl*(1 - rS m n X p i) / rS m n X p i)) x29 wi:=j29;clear hB hA
  ·obtain⟨vj,rfl,hj⟩:=j29;go_simp;exact hK.out _ _ (Ext.refl _) hj
  obtain⟨x29,s29,j29⟩:=hA 6 (by kernel_rfl) 29 rfl;replace j29:Mn.p (Mn.rc N (dl*(1 - rS m n X p i) / rS m n X p i)) x29 wi:=j29;clear hB hA
  ·obtain⟨vj,rfl,hj⟩:=j29;go_simp;exact hK.out _ _ (Ext.refl _) rfl
 intro vals wz eZ hJ;have J30:Mn.p (Mn.rat N (dl*(1 - rS m n X p i) / rS m n X p i)) (vals 7) wz:=hJ 7 (by decide) (by decide);have J31:vals 8=_:=hJ 8 (by decide) (by decide);clear hJ;simp only [pr,Nat.reduceAdd,J31];clear J31
 generalize vals 7=z30 at J30 ⊢
 replace hE:=hE.trans eZ;replace B4:=eZ.block B4;obtain⟨bz,Az,kz,cz,Az',kz',cz',rfl,hbz,gz1,gz2⟩:=RatV.parts J30;obtain⟨u0,u1,u2,u3,u4,u5,u6,u7⟩:=cells4 B4;refine stepL_late (i:=9) rfl (by kernel_rfl) (by kernel_rfl) (fun K hK=>?_);go_simp;refine hK.out _ _ ?_;clear hK K;try simp only [nr]
 refine stepL_late (i:=10) rfl (by kernel_rfl) (by kernel_rfl) (fun K hK=>?_);go_simp;refine hK.out _ _ ?_;clear hK K;try simp only [nr]
 refine stepL_done (by kernel_rfl) ?_ _;go_wp2;exact fin_ratT rfl rfl rfl rfl hE B4 (by omega) hN gz1 gz2 hbz (fun v w' hv he=>⟨v,rfl,hv,he⟩)
end Go.Proofs.YthkkknjcoidioaaGreat
