import Derived.Test.YthkkknjcoidioaaGreatWb26
import Derived.Test.YthkkknjcoidioaaGreatWb24
import Derived.Deep.CutBlock
set_option linter.all false
set_option maxHeartbeats 8000000
namespace Go.Proofs.YthkkknjcoidioaaGreat
open Go.RowKit
def RetEch (N:Nat) (w:World) (m n:Nat) (M:Nat→Nat→Rat) (p:List Nat) (e:Ending) (w':World):Prop :=
 ∃ h cap β κ A c,e=.returned (.tuple #[.slice (some ⟨h,0,none⟩) m cap,.slice A p.length c])∧cap≤maxLen∧OwnM N w.heap.size w'.heap.size w' h cap m n β κ M∧IsV w.heap.size w'.heap.size w' (.slice A p.length c) p∧Ext w w'
set_option maxRecDepth 100000 in
theorem r5_echelon {N lo hi:Nat} {w:World} {v:Value} {m n:Nat} {X:Nat→Nat→Rat} (h:MtV N lo hi w v m n X) (hm0:0 < m) (hm:m < 1000000) (hn0:0 < n) (hn:n < 1000000)
  {q P:Nat} (hq:HtM m n q X) (hP:m≤P∨n≤P) (hK:5*(5 ^ P*q)≤29000000000) :
  Calls Tryz.prog 82 #[v] w (RetEch N w m n (rref m X n).1 (rref m X n).2):=by
 have hN:=h.le;obtain⟨A,c,rfl,hmc,hcm⟩:=h.form;unfold maxLen at hcm;have hI:=h;have HQ:Hid (∀ j,j≤n→HtM m n (5 ^ P*q) (rref m X j).1):=fun j hj=>rref_ht' hq hj (by omega)
 have HK:=Lib.hid hK;obtain⟨Rf,hRf⟩:=hid_eq (RetEch N w m n (rref m X n).1 (rref m X n).2);rw [←hRf.out];obtain⟨b,off,rfl,-,-,hx⟩:=h.addr hm0;obtain⟨A1,c1,p0,hnc,hcm1,-⟩:=hx 0 hm0;rw [Nat.add_zero] at p0;unfold maxLen at hcm1;have P0:=Lib.hid p0;clear h hx hq hP hK p0;go_enter Tryz.func82,Tryz.ntmps82;go_wp2_with (go_at_call 123; refine Hid.out ?_);refine (r5_copy hI hm hn0 hn).mono ?_;rintro e w1 ⟨h,cap,β,κ,rfl,hcap,ho,hE⟩;have hs1:=hE.size;go_upto_region 3 with (fail);refine boxes1 ?_;intro W hE2 hsz B0;have hG:GrowI w1.heap.size W (.slice (some ⟨w1.heap.size,0,none⟩) 0 0) []:=GrowI.empty (Nat.le_refl _) B0;replace hE:=hE.trans hE2;replace ho:=ho.ext hE2;clear hE2 B0 hI;go_wp2
 go_loopw [5,6] (fun pv i wr=>∃ j:Nat,j≤n∧i=.int .i64 j∧Ext w wr∧∃ M p r β κ A' c',Hid (rref m X j=(M,p))∧Hid (r=p.length)∧pv=.slice A' r c'∧OwnM N w.heap.size w1.heap.size wr h cap m n β κ M∧GrowI w1.heap.size wr (.slice A' r c') p) (fun _ i _=>n - (intOf i).toNat)
 case atStart=>exact⟨0,Nat.zero_le _,rfl,hE,X,[],0,β,κ,_,_,rfl,rfl,rfl,ho,hG⟩
 case round =>
  clear hE ho hG hsz β κ W;obtain⟨j,hj,rfl,hE,M,p,r,β,κ,A',c',Hst,Hr,rfl,ho,hG⟩:=hrel;have hrm:r≤m:=by have:=rref_len m X j; rw [Hst.out] at this; have:=Hr.out; simp only at *; omega
  have hsz:w1.heap.size≤wr.heap.size:=hG.1;have HM:Hid (HtM m n (5 ^ P*q) M):=by have:=HQ.out j hj; rw [Hst.out] at this; exact this
  have p0:=hE.cell P0.out;obtain⟨wq,hwq⟩:∃ wq,wq=wr:=⟨wr,rfl⟩
  subst hwq
  by_cases hlt:j < n
  ·by_cases hrlt:r < m
   ·go_upto_block 2 with (fail)
    go_cut [8,9] (fun at_ i_ wx=>((at_=.int .i64 (-1)∧Hid (∀ i,r≤i→i < m→M i j=0))∨(∃ a:Nat,at_=.int .i64 a∧r≤a∧a < m∧Hid (∀ i,r≤i→i < a→M i j=0)∧Hid (M a j≠0)))∧Ext wq wx)
    case first =>
     go_wp2_with fail
     go_loopw [8,9] (fun at_ i_ wx=>∃ i:Nat,r≤i∧i≤m∧i_=.int .i64 i∧Ext wq wx∧((at_=.int .i64 (-1)∧Hid (∀ i',r≤i'→i' < i→M i' j=0))∨(∃ a:Nat,at_=.int .i64 a∧r≤a∧a < i∧Hid (∀ i,r≤i→i < a→M i j=0)∧Hid (M a j≠0)))) (fun _ i_ _=>m - (intOf i_).toNat)
     case atStart=>exact⟨r,Nat.le_refl _,hrm,rfl,Ext.refl _,.inl ⟨rfl,fun i h1 h2=>by omega⟩⟩
     case round =>
      obtain⟨i,hri,him,rfl,hEq,hat⟩:=hrel
      rcases hat with ⟨rfl,HA⟩ | ⟨a,rfl,hra,hai,HA,HN⟩
      ·by_cases hi:i < m
       ·have ho2:=ho.ext hEq;have r0:=ho2.hcell hi;obtain⟨zb,zA,zn,zc,zA2,zn2,zc2,t0,t1,t2,t3,t4,t5,t6,t7,hb1,g1,g2⟩:=(ho2.row i hi).at_ hlt;obtain⟨s,hs⟩:=hid_eq (M i j).num.sign;have HS:Hid (Sz (M i j)):=(HM.out i hi j hlt).sz (by have:=HK.out; omega);go_wp2_with (go_at_call 35; refine Hid.out ?_);refine (r2_sign (RatV.mk hb1 g1 g2) HS.out).mono ?_;rintro e w2 ⟨rfl,e2⟩;rw [←hs.out];replace hEq:=hEq.trans e2;clear r0 t0 t1 t2 t3 t4 t5 t6 t7 g1 g2 ho2
        by_cases hz:M i j=0
        ·have hs0:s=0:=by rw [hs.out,hz]; rfl
         have HZ:=Lib.hid hz;clear hz;subst hs0;go_wp2;go_roundw
         case rel=>exact⟨i+1,by omega,by omega,by go_num,hEq,.inl ⟨rfl,fun i' h1 h2=>by rcases Nat.lt_or_ge i' i with h3 | h3; exact HA.out i' h1 h3; (obtain rfl:i'=i:=by omega); exact HZ.out⟩⟩
         case measure=>simp [intOf]; omega
        ·have hs0:(s == 0)=false:=by
          have:s≠0:=by rw [hs.out]; intro e; exact hz (Rat.num_eq_zero.1 (Int.sign_eq_zero_iff_zero.1 e))
          simpa using this
         have hs1:(s != 0)=true:=by simpa using hs0
         have HZ:=Lib.hid hz;clear hz hs;go_wp2;go_roundw
         case rel=>exact⟨i+1,by omega,by omega,by go_num,hEq,.inr ⟨i,rfl,hri,by omega,HA,HZ⟩⟩
         case measure=>simp [intOf]; omega
       ·obtain rfl:i=m:=by omega
        go_wp2_with fail
        go_meet
        exact⟨.inl ⟨rfl,HA⟩,hEq⟩
      ·by_cases hi:i < m
       all_goals
        go_wp2_with fail
        go_meet
        exact⟨.inr ⟨a,rfl,hra,by omega,HA,HN⟩,hEq⟩
    case rest =>
     obtain⟨hat,hEq⟩:=hcut;replace hE:=hE.trans hEq;replace ho:=ho.ext hEq;replace hG:=hG.ext hEq;clear p0;have hszc:w1.heap.size≤wc.heap.size:=hG.1;clear hEq
     rcases hat with ⟨rfl,HA⟩ | ⟨a,rfl,hra,ham,HA,HN⟩
     ·have HS:Hid (rref m X (j+1)=(M,p)):=by
       rw [Hid,rref_skip,Hst.out];rw [Hst.out];simp only;rw [←Hr.out];exact seek_none hrm HA.out
      go_wp2;go_roundw
      case rel=>exact⟨j+1,by omega,by go_num,hE,M,p,r,β,κ,_,_,HS,Hr,rfl,ho,hG⟩
      case measure=>simp [intOf]; omega
     ·have r0:=ho.hcell hrlt;have q0:=ho.hcell ham;have f0:=ho.hfrozen r;have f1:=ho.hfrozen a;obtain⟨v9,s9⟩:=cell?_setCell_some (w:=wc) (p:=⟨h,r,none⟩) (x:=.slice (some ⟨β a,0,none⟩) n (κ a)) (q:=⟨h,a,none⟩) (v:=.slice (some ⟨β a,0,none⟩) n (κ a)) q0;go_upto_region 14 with (fail);have eC:=(Ext.refl wc).drew;refine region_late (fun w'=>w'.cell? ⟨h,r,none⟩=some (.slice (some ⟨β r,0,none⟩) n (κ r))∧w'.cell? ⟨h,a,none⟩=some (.slice (some ⟨β a,0,none⟩) n (κ a))) [13,15] (by kernel_rfl) (by exact⟨eC.cell r0,eC.cell q0⟩) (fun hHeld=>?_);refine sP 0 (h:=?_);try simp only [nr]
      refine sP 1 (h:=?_);try simp only [nr]
      refine sP 2 (h:=?_);try simp only [nr]
      refine sP 3 (h:=?_);try simp only [nr]
      refine sP 4 (h:=?_);try simp only [nr]
      refine sP 5 (h:=?_);try simp only [nr]
      refine sP 6 (h:=?_);try simp only [nr]
      refine sT 7 (h:=?_);try simp only [nr]
      refine sP 8 (h:=?_);try simp only [nr]
      refine sP 9 (h:=?_);try simp only [nr]
      refine sP 10 (h:=?_);try simp only [nr]
      refine sT 11 (h:=?_);try simp only [nr]
      refine sP 12 (h:=?_);try simp only [nr]
      refine stepL_late (i:=13) rfl (by kernel_rfl) (by kernel_rfl) (fun K hK=>?_);go_simp;refine hK.out _ _ ?_;clear hK K;try simp only [nr]
      refine sP 14 (h:=?_);try simp only [nr]
      refine stepL_late (i:=15) rfl (by kernel_rfl) (by kernel_rfl) (fun K hK=>?_);go_simp;refine hK.out _ _ ?_;clear hK K;try simp only [nr]
      refine stepL_done (by kernel_rfl) ?_ _;clear hHeld;obtain⟨w2,E2,C2,hs2,ho2⟩:=ho.swap hrlt ham;rw [E2];obtain⟨β2,κ2,ho2⟩:∃ β2 κ2,OwnM N w.heap.size w1.heap.size w2 h cap m n β2 κ2 (swp M r a):=⟨_,_,ho2⟩
      have hlo:=ho.hlo;have hhi:=ho.hhi;replace hE:=C2.ext hE hlo;replace hG:=hG.chg C2 (by omega);obtain⟨M1,hM1⟩:=hid_eq (swp M r a);rw [←hM1.out] at ho2;have HM1:Hid (HtM m n (5 ^ P*q) M1):=by rw [hM1.out]; exact HM.out.swp hrlt ham
      have HPV:Hid (M1 r j≠0):=by rw [hM1.out]; unfold swp; rw [if_pos rfl]; exact HN.out
      have hsz2:w1.heap.size≤w2.heap.size:=by omega
      clear r0 q0 f0 f1 v9 s9 E2 C2 ho eC hs2;have r0:=ho2.hcell hrlt;obtain⟨zb,zA,zn,zc,zA2,zn2,zc2,t0,t1,t2,t3,t4,t5,t6,t7,hb1,g1,g2⟩:=(ho2.row r hrlt).at_ hlt;go_upto_region 16 with (fail);refine boxesD1 ?_;intro w3 e3 hsz3 BP;have hP:BoxR N w3 w2.heap.size (M1 r j):=BoxR.mk BP hb1 (g1.ext e3) (g2.ext e3);replace hE:=hE.trans e3;replace hG:=hG.ext e3;replace ho2:=ho2.ext e3;clear r0 t0 t1 t2 t3 t4 t5 t6 t7 hb1 g1 g2 e3 BP;go_wp2
      go_loopw [11] (fun i wr=>∃ k:Nat,k≤n∧i=.int .i64 k∧Ext w wr∧w2.heap.size < wr.heap.size∧OwnM N w.heap.size w1.heap.size wr h cap m n β2 κ2 (updM M1 r (nrmTo M1 r j k))∧BoxR N wr w2.heap.size (M1 r j)∧GrowI w1.heap.size wr (.slice A' r c') p) (fun i _=>n - (intOf i).toNat)
      case atStart=>exact⟨0,Nat.zero_le _,rfl,hE,by omega,ho2.congr (fun i _ c _=>by unfold updM; split; (rename_i e; subst e; unfold nrmTo; rw [if_neg (Nat.not_lt_zero _)]); rfl),hP,hG⟩
      case round =>
       clear hE ho2 hP hG hsz3;obtain⟨k,hk,rfl,hE,hsz3,ho2,hP,hG⟩:=hrel;have r0:=ho2.hcell hrlt
       by_cases hkn:k < n
       ·obtain⟨b1,A1,k1,c1,A2,k2,c2,BS,hb1,g1,g2⟩:=hP;obtain⟨s0,s1,s2,s3,s4,s5,s6,s7⟩:=cells4 BS;obtain⟨n1,A3,k3,c3,A4,k4,c4,t0,t1,t2,t3,t4,t5,t6,t7,hb3,g3,g4⟩:=(ho2.row r hrlt).at_ hkn;have HV:Hid (updM M1 r (nrmTo M1 r j k) r k=M1 r k):=by rw [Hid,updM_same]; unfold nrmTo; rw [if_neg (Nat.lt_irrefl _)]
        rw [HV.out] at hb3 g3 g4;have HS1:Hid (Sz (M1 r k)):=(HM1.out r hrlt k hkn).sz (by have:=HK.out; omega);have HS2:Hid (Sz (M1 r j)):=(HM1.out r hrlt j hlt).sz (by have:=HK.out; omega);go_upto_region 19 with (fail);have eC:=(Ext.refl wr).drew;refine region_late (fun w'=>w'.cell? ⟨h,r,none⟩=some (.slice (some ⟨β2 r,0,none⟩) n (κ2 r))∧w'.cell? ⟨β2 r,k*4,none⟩=some (.bool n1)∧w'.cell? ⟨β2 r,k*4+1,none⟩=some (.slice A3 k3 c3)∧w'.cell? ⟨β2 r,k*4+2,none⟩=some (.bool false)∧w'.cell? ⟨β2 r,k*4+3,none⟩=some (.slice A4 k4 c4)∧w'.cell? ⟨w2.heap.size,0,none⟩=some (.bool b1)∧w'.cell? ⟨w2.heap.size,1,none⟩=some (.slice A1 k1 c1)∧w'.cell? ⟨w2.heap.size,2,none⟩=some (.bool false)∧w'.cell? ⟨w2.heap.size,3,none⟩=some (.slice A2 k2 c2)) [18] (by kernel_rfl) (by exact⟨eC.cell r0,eC.cell t0,eC.cell t1,eC.cell t2,eC.cell t3,eC.cell s0,eC.cell s1,eC.cell s2,eC.cell s3⟩) (fun hHeld=>?_);refine sP 0 (h:=?_);try simp only [nr]
        refine sP 1 (h:=?_);try simp only [nr]
        refine sP 2 (h:=?_);try simp only [nr]
        refine sT 3 (h:=?_);try simp only [nr]
        refine sP 4 (h:=?_);try simp only [nr]
        refine sP 5 (h:=?_);try simp only [nr]
        refine sP 6 (h:=?_);try simp only [nr]
        refine sP 7 (h:=?_);try simp only [nr]
        refine sT 8 (h:=?_);try simp only [nr]
        refine sP 9 (h:=?_);try simp only [nr]
        refine sP 10 (h:=?_);try simp only [nr]
        refine sT 11 (h:=?_);try simp only [nr]
        refine sT 12 (h:=?_);try simp only [nr]
        refine stepL_only (i:=13) rfl (by kernel_rfl) (fun K hK=>?_);go_simp;refine (r2_divide (x:=M1 r k) (y:=M1 r j) (by exact (RatV.mk hb3 g3 g4).ext eC) (by exact (RatV.mk hb1 g1 g2).ext eC) HS1.out HS2.out HPV.out).mono ?_;intro e w5 hh;obtain⟨b9,A9,k9,c9,A10,k10,c10,rfl,hb9,g9,g10,e5⟩:=hh.form;replace eC:=eC.trans e5;have ho5:=ho2.ext eC;obtain⟨zb,zA,zn,zc,zA2,zn2,zc2,u0,u1,u2,u3,u4,u5,u6,u7,-⟩:=(ho5.row r hrlt).at_ hkn;go_wp2_with fail;clear hHeld;refine hK.out _ _ (by exact⟨eC.cell r0,eC.cell t0,eC.cell t1,eC.cell t2,eC.cell t3,eC.cell s0,eC.cell s1,eC.cell s2,eC.cell s3⟩) fun hHeld=>?_
        clear hK K;try simp only [nr]
        refine sP 14 (h:=?_);try simp only [nr]
        refine sP 15 (h:=?_);try simp only [nr]
        refine sP 16 (h:=?_);try simp only [nr]
        refine sP 17 (h:=?_);try simp only [nr]
        refine stepL_late (i:=18) rfl (by kernel_rfl) (by kernel_rfl) (fun K hK=>?_);go_simp;refine hK.out _ _ ?_;clear hK K;try simp only [nr]
        refine stepL_done (by kernel_rfl) ?_ _;clear hHeld;obtain⟨w6,E6,C6,hs6,hr6⟩:=(ho5.row r hrlt).set (i:=k) (q:=M1 r k / M1 r j) (by have:=(ho5.row r hrlt).2.1; omega) (by omega) hb9 g9 g10;rw [E6];have ho6:=ho5.setRow hrlt C6 (hr6.less (n':=n) (by omega));have hlo6:=ho5.lo_ r hrlt;have hhi6:=ho5.hi_ r hrlt;replace hE:=C6.ext (hE.trans eC) hlo6;replace hG:=(hG.ext eC).chg C6 (by omega);have hP6:=(BoxR.mk (eC.block BS) hb1 (g1.ext eC) (g2.ext eC)).chg C6 (by omega) (.inr (by omega));have hsz6:w2.heap.size < w6.heap.size:=by have:=eC.size; omega
        clear E6 hs6 C6 ho5 u0 u1 u2 u3 u4 u5 u6 u7 t0 t1 t2 t3 t4 t5 t6 t7 s0 s1 s2 s3 s4 s5 s6 s7 r0 BS;go_wp2;go_roundw
        case rel=>exact⟨k+1,by omega,by go_num,hE,hsz6,ho6.congr (fun i _ c _=>(by
          unfold updM
          split
          ·rename_i e; subst e
           simp only [if_true];unfold upd nrmTo
           by_cases e1:c=k
           ·subst e1; rw [if_pos rfl,if_pos (by omega)]
           ·rw [if_neg e1]
            by_cases e2:c < k
            ·rw [if_pos e2,if_pos (by omega)]
            ·rw [if_neg e2,if_neg (by omega)]
          ·rfl)),hP6,hG⟩
        case measure=>simp [intOf]; omega
       ·obtain rfl:k=n:=by omega
        obtain⟨M2,hM2⟩:=hid_eq (nrm M1 r j);replace ho2:=ho2.congr (B:=M2) (fun i _ c hc=>by rw [hM2.out]; unfold updM nrm nrmTo; split; (simp only [hc,if_true]); rfl)
        have HM2:Hid (HtM m k (2*(5 ^ P*q)) M2):=fun i hi c hc=>by
         rw [hM2.out]; unfold nrm
         split
         ·exact ((HM1.out r hrlt c hc).div (HM1.out r hrlt j hlt)).mono (by omega)
         ·exact (HM1.out i hi c hc).mono (by omega)
        clear hP HPV;go_upto_region 20 with (fail);clear r0;go_wp2
        go_loopw [12] (fun i wr=>∃ i':Nat,i'≤m∧i=.int .i64 i'∧Ext w wr∧OwnM N w.heap.size w1.heap.size wr h cap m k β2 κ2 (clrTo M2 r j i')∧GrowI w1.heap.size wr (.slice A' r c') p) (fun i _=>m - (intOf i).toNat)
        case atStart=>exact⟨0,Nat.zero_le _,rfl,hE,ho2.congr (fun i _ c _=>by unfold clrTo; simp),hG⟩
        case round =>
         clear hE ho2 hG hsz3;obtain⟨i,him,rfl,hE,ho2,hG⟩:=hrel;have hszr:w1.heap.size≤wr.heap.size:=hG.1
         by_cases hi:i < m
         ·have r0:=ho2.hcell hi;obtain⟨n1,A3,k3,c3,A4,k4,c4,t0,t1,t2,t3,t4,t5,t6,t7,hb3,g3,g4⟩:=(ho2.row i hi).at_ hlt;have HV:Hid (clrTo M2 r j i i j=M2 i j):=by rw [Hid]; unfold clrTo; rw [if_neg (Nat.lt_irrefl _)]
          rw [HV.out] at hb3 g3 g4;have HS1:Hid (Sz (M2 i j)):=(HM2.out i hi j hlt).sz (by have:=HK.out; omega);go_upto_region 24 with (fail);refine boxes1 ?_;intro w4 e4 hsz4 BF;replace hE:=hE.trans e4;replace ho2:=ho2.ext e4;replace hG:=hG.ext e4;replace g3:=g3.ext e4;replace g4:=g4.ext e4;clear r0 t0 t1 t2 t3 t4 t5 t6 t7 e4;obtain⟨s0,s1,s2,s3,s4,s5,s6,s7⟩:=cells4 BF
          by_cases hir:i=r
          ·subst hir;go_wp2;go_roundw
           case rel=>exact⟨i+1,by omega,by go_num,hE,ho2.congr (fun i' _ c _=>(by
             unfold clrTo
             by_cases e1:i' < i
             ·rw [if_pos e1,if_pos (by omega)]
             ·rw [if_neg e1]
              by_cases e2:i'=i
              ·subst e2; rw [if_pos (by omega)]; unfold clr; rw [if_pos rfl]
              ·rw [if_neg (by omega)])),hG⟩
           case measure=>simp [intOf]; omega
          ·have hir1:((i:Int) == (r:Int))=false:=beq_eq_false_iff_ne.2 (by omega);obtain⟨s,hs⟩:=hid_eq (M2 i j).num.sign;go_wp2_with (go_at_call 35; refine Hid.out ?_);refine (r2_sign (RatV.mk hb3 g3 g4) HS1.out).mono ?_;rintro e w5 ⟨rfl,e5⟩;rw [←hs.out];replace hE:=hE.trans e5;replace ho2:=ho2.ext e5;replace hG:=hG.ext e5;have hF:BoxR N w5 wr.heap.size (M2 i j):=BoxR.mk (e5.block BF) hb3 (g3.ext e5) (g4.ext e5);have hsz5:wr.heap.size < w5.heap.size:=by have:=e5.size; omega
           clear s0 s1 s2 s3 s4 s5 s6 s7 BF e5 hb3 g3 g4
           by_cases hz:M2 i j=0
           ·have hs0:s=0:=by rw [hs.out,hz]; rfl
            have HZ:=Lib.hid hz;clear hz hs;subst hs0;go_wp2;go_roundw
            case rel=>exact⟨i+1,by omega,by go_num,hE,ho2.congr (fun i' _ c _=>(by
              unfold clrTo
              by_cases e1:i' < i
              ·rw [if_pos e1,if_pos (by omega)]
              ·rw [if_neg e1]
               by_cases e2:i'=i
               ·subst e2; rw [if_pos (by omega)]; unfold clr; rw [if_neg hir,HZ.out]; exact sub_zero_mul _ _
               ·rw [if_neg (by omega)])),hG⟩
            case measure=>simp [intOf]; omega
           ·have hs0:(s == 0)=false:=by
             have:s≠0:=by rw [hs.out]; intro e; exact hz (Rat.num_eq_zero.1 (Int.sign_eq_zero_iff_zero.1 e))
             simpa using this
            clear hz hs
            generalize hgF:wr.heap.size=gF at *
            clear hgF;have hgF1:w1.heap.size≤gF:=by omega
            go_wp2
            go_loopw [14] (fun i_ wr=>∃ t:Nat,t≤k∧i_=.int .i64 t∧Ext w wr∧gF < wr.heap.size∧OwnM N w.heap.size w1.heap.size wr h cap m k β2 κ2 (updM (clrTo M2 r j i) i (rowTo M2 r j i t))∧BoxR N wr gF (M2 i j)∧GrowI w1.heap.size wr (.slice A' r c') p) (fun i_ _=>k - (intOf i_).toNat)
            case atStart=>exact⟨0,Nat.zero_le _,rfl,hE,hsz5,ho2.congr (fun i' _ c _=>(by unfold updM; split; (rename_i e; subst e; unfold clrTo rowTo; rw [if_neg (Nat.lt_irrefl _),if_neg (Nat.not_lt_zero _)]); rfl)),hF,hG⟩
            case round =>
             clear hE ho2 hF hG hsz5;obtain⟨t,ht,rfl,hE,hsz5,ho2,hF,hG⟩:=hrel;have r0:=ho2.hcell hi
             by_cases htk:t < k
             ·have q0:=ho2.hcell hrlt;obtain⟨b1,A1,k1,c1,A2,k2,c2,BS,hb1,g1,g2⟩:=hF;obtain⟨s0,s1,s2,s3,-⟩:=cells4 BS;obtain⟨n1,A3,k3,c3,A4,k4,c4,t0,t1,t2,t3,t4,t5,t6,t7,hb3,g3,g4⟩:=(ho2.row i hi).at_ htk;obtain⟨n5,A5,k5,c5,A6,k6,c6,o0,o1,o2,o3,-,-,-,-,hb5,g5,g6⟩:=(ho2.row r hrlt).at_ htk;have HV:Hid (updM (clrTo M2 r j i) i (rowTo M2 r j i t) i t=M2 i t):=by rw [Hid,updM_same]; unfold rowTo; rw [if_neg (Nat.lt_irrefl _)]
              have HW:Hid (updM (clrTo M2 r j i) i (rowTo M2 r j i t) r t=M2 r t):=by
               rw [Hid,updM_ne _ _ (by omega)]; unfold clrTo clr
               split
               ·rw [if_pos rfl]
               ·rfl
              rw [HV.out] at hb3 g3 g4;rw [HW.out] at hb5 g5 g6;have HS2:Hid (Sz (M2 r t)∧Sz (M2 i t)∧Sz (M2 i j*M2 r t)):=⟨(HM2.out r hrlt t htk).sz (by have:=HK.out; omega),(HM2.out i hi t htk).sz (by have:=HK.out; omega),((HM2.out i hi j hlt).mul (HM2.out r hrlt t htk)).sz (by have:=HK.out; omega)⟩
              go_upto_region 28 with (fail);have eC:=(Ext.refl wr).drew;refine region_late (fun w'=>w'.cell? ⟨h,i,none⟩=some (.slice (some ⟨β2 i,0,none⟩) k (κ2 i))∧w'.cell? ⟨h,r,none⟩=some (.slice (some ⟨β2 r,0,none⟩) k (κ2 r))∧w'.cell? ⟨β2 i,t*4,none⟩=some (.bool n1)∧w'.cell? ⟨β2 i,t*4+1,none⟩=some (.slice A3 k3 c3)∧w'.cell? ⟨β2 i,t*4+2,none⟩=some (.bool false)∧w'.cell? ⟨β2 i,t*4+3,none⟩=some (.slice A4 k4 c4)∧w'.cell? ⟨β2 r,t*4,none⟩=some (.bool n5)∧w'.cell? ⟨β2 r,t*4+1,none⟩=some (.slice A5 k5 c5)∧w'.cell? ⟨β2 r,t*4+2,none⟩=some (.bool false)∧w'.cell? ⟨β2 r,t*4+3,none⟩=some (.slice A6 k6 c6)∧w'.cell? ⟨gF,0,none⟩=some (.bool b1)∧w'.cell? ⟨gF,1,none⟩=some (.slice A1 k1 c1)∧w'.cell? ⟨gF,2,none⟩=some (.bool false)∧w'.cell? ⟨gF,3,none⟩=some (.slice A2 k2 c2)) [23] (by kernel_rfl) (by exact⟨eC.cell r0,eC.cell q0,eC.cell t0,eC.cell t1,eC.cell t2,eC.cell t3,eC.cell o0,eC.cell o1,eC.cell o2,eC.cell o3,eC.cell s0,eC.cell s1,eC.cell s2,eC.cell s3⟩) (fun hHeld=>?_);refine sP 0 (h:=?_);try simp only [nr]
              refine sP 1 (h:=?_);try simp only [nr]
              refine sP 2 (h:=?_);try simp only [nr]
              refine sT 3 (h:=?_);try simp only [nr]
              refine sP 4 (h:=?_);try simp only [nr]
              refine sP 5 (h:=?_);try simp only [nr]
              refine sP 6 (h:=?_);try simp only [nr]
              refine sP 7 (h:=?_);try simp only [nr]
              refine sT 8 (h:=?_);try simp only [nr]
              refine sP 9 (h:=?_);try simp only [nr]
              refine sP 10 (h:=?_);try simp only [nr]
              refine sT 11 (h:=?_);try simp only [nr]
              refine sT 12 (h:=?_);try simp only [nr]
              refine sP 13 (h:=?_);try simp only [nr]
              refine sP 14 (h:=?_);try simp only [nr]
              refine sP 15 (h:=?_);try simp only [nr]
              refine sT 16 (h:=?_);try simp only [nr]
              refine sP 17 (h:=?_);try simp only [nr]
              refine sP 18 (h:=?_);try simp only [nr]
              refine sT 19 (h:=?_);try simp only [nr]
              refine stepL_only (i:=20) rfl (by kernel_rfl) (fun K hK=>?_);go_simp;refine (r2_mul (x:=M2 i j) (y:=M2 r t) (by exact (RatV.mk hb1 g1 g2).ext eC) (by exact (RatV.mk hb5 g5 g6).ext eC) HS1.out HS2.out.1).mono ?_;rintro e w4 ⟨v4,rfl,h4,e4⟩;replace eC:=eC.trans e4;go_wp2_with fail;clear hHeld;refine hK.out _ _ (by exact⟨eC.cell r0,eC.cell q0,eC.cell t0,eC.cell t1,eC.cell t2,eC.cell t3,eC.cell o0,eC.cell o1,eC.cell o2,eC.cell o3,eC.cell s0,eC.cell s1,eC.cell s2,eC.cell s3⟩) fun hHeld=>?_
              clear hK K;try simp only [nr]
              refine stepL_only (i:=21) rfl (by kernel_rfl) (fun K hK=>?_);go_simp;refine (r2_sub (x:=M2 i t) (y:=M2 i j*M2 r t) (by exact (RatV.mk hb3 g3 g4).ext eC) (by exact h4) HS2.out.2.1 HS2.out.2.2).mono ?_;intro e w5 hh;obtain⟨b9,A9,k9,c9,A10,k10,c10,rfl,hb9,g9,g10,e5⟩:=hh.form;replace eC:=eC.trans e5;have ho5:=ho2.ext eC;obtain⟨zb,zA,zn,zc,zA2,zn2,zc2,u0,u1,u2,u3,u4,u5,u6,u7,-⟩:=(ho5.row i hi).at_ htk;go_wp2_with fail;clear hHeld;refine hK.out _ _ (by exact⟨eC.cell r0,eC.cell q0,eC.cell t0,eC.cell t1,eC.cell t2,eC.cell t3,eC.cell o0,eC.cell o1,eC.cell o2,eC.cell o3,eC.cell s0,eC.cell s1,eC.cell s2,eC.cell s3⟩) fun hHeld=>?_
              clear hK K;try simp only [nr]
              refine sP 22 (h:=?_);try simp only [nr]
              refine stepL_late (i:=23) rfl (by kernel_rfl) (by kernel_rfl) (fun K hK=>?_);go_simp;refine hK.out _ _ ?_;clear hK K;try simp only [nr]
              refine stepL_done (by kernel_rfl) ?_ _;clear hHeld;obtain⟨w6,E6,C6,hs6,hr6⟩:=(ho5.row i hi).set (i:=t) (q:=M2 i t - M2 i j*M2 r t) (by have:=(ho5.row i hi).2.1; omega) (by omega) hb9 g9 g10;rw [E6];have ho6:=ho5.setRow hi C6 (hr6.less (n':=k) (by omega));have hlo6:=ho5.lo_ i hi;have hhi6:=ho5.hi_ i hi;replace hE:=C6.ext (hE.trans eC) hlo6;replace hG:=(hG.ext eC).chg C6 (by omega);have hP6:=(BoxR.mk (eC.block BS) hb1 (g1.ext eC) (g2.ext eC)).chg C6 (by omega) (.inr (by omega));have hsz6:gF < w6.heap.size:=by have:=eC.size; omega
              clear E6 hs6 C6 ho5 u0 u1 u2 u3 u4 u5 u6 u7 t0 t1 t2 t3 t4 t5 t6 t7 s0 s1 s2 s3 o0 o1 o2 o3 r0 q0 BS;go_wp2;go_roundw
              case rel=>exact⟨t+1,by omega,by go_num,hE,hsz6,ho6.congr (fun i' _ c _=>(by
                unfold updM
                split
                ·rename_i e; subst e
                 simp only [if_true];unfold upd rowTo
                 by_cases e1:c=t
                 ·subst e1; rw [if_pos rfl,if_pos (by omega)]
                 ·rw [if_neg e1]
                  by_cases e2:c < t
                  ·rw [if_pos e2,if_pos (by omega)]
                  ·rw [if_neg e2,if_neg (by omega)]
                ·rfl)),hP6,hG⟩
              case measure=>simp [intOf]; omega
             ·obtain rfl:t=k:=by omega
              go_wp2;go_roundw
              case rel=>exact⟨i+1,by omega,by go_num,hE,ho2.congr (fun i' _ c hc=>(by
                unfold updM
                split
                ·rename_i e; subst e
                 unfold clrTo;rw [if_pos (by omega)];exact rowTo_full hc hir
                ·rename_i e
                 unfold clrTo
                 by_cases e1:i' < i
                 ·rw [if_pos e1,if_pos (by omega)]
                 ·rw [if_neg e1,if_neg (by omega)])),hG⟩
              case measure=>simp [intOf]; omega
         ·obtain rfl:i=m:=by omega
          have HF:Hid (rref i X (j+1)=(clr M2 r j,p ++ [j])):=by
           have hseek:seek (rref i X j).1 i j (i - (rref i X j).2.length) (rref i X j).2.length=a:=by
            rw [Hst.out];simp only;rw [←Hr.out];exact seek_some hra ham HA.out HN.out
           rw [Hid,rref_step ham hseek,Hst.out];simp only;rw [←Hr.out,hM2.out,hM1.out]
          have HR2:Hid (r+1=(p ++ [j]).length):=by rw [Hid,List.length_append,←Hr.out]; rfl
          have ho3:=ho2.congr (B:=clr M2 r j) (fun i' h1 c _=>by unfold clrTo; rw [if_pos h1]);have hpl:p.length < 1000000000:=by have:=Hr.out; omega
          have HRe:=Lib.hid Hr.out;go_wp2_with (at_builtin; refine Hid.out ?_);refine boxes1 ?_;intro w4 e4 hsz4 BX;replace hE:=hE.trans e4;replace ho3:=ho3.ext e4;replace hG:=hG.ext e4;refine wpList_append_int rfl _ _ 47 Tryz.underlying47 rfl rfl hG rfl BX hpl ?_;rintro g cap' w5 hG5 ⟨g',hg',c5,-⟩;rw [←HRe.out] at hG5 ⊢;replace hE:=c5.ext hE (by omega);replace ho3:=ho3.chg c5 (by omega) (.inl hg');clear hG c5 BX e4 ho2;go_wp2;go_roundw
          case rel=>exact⟨j+1,by omega,by go_num,hE,_,_,r+1,β2,κ2,_,_,HF,HR2,rfl,ho3,hG5⟩
          case measure=>simp [intOf]; omega
   ·obtain rfl:r=m:=by omega
    have HF:Hid (rref r X n=(M,p)):=by rw [Hid,←Hst.out]; exact rref_full (by rw [Hst.out]; have:=Hr.out; simp only; omega) n hj
    have hI2:=hG.isv (lo:=w.heap.size) hs1;have HR:=Lib.hid Hr.out;go_wp2;rw [hRf.out,HF.out];refine⟨h,cap,β,κ,A',c',by rw [←HR.out]; rfl,hcap,ho.wide (Nat.le_refl _) hN (by omega) (Nat.le_refl _),by rw [←HR.out]; exact hI2,hE⟩
  ·obtain rfl:j=n:=by omega
   have hI2:=hG.isv (lo:=w.heap.size) hs1;have HR:=Lib.hid Hr.out;go_wp2;rw [hRf.out,Hst.out];refine⟨h,cap,β,κ,A',c',by rw [←HR.out]; rfl,hcap,ho.wide (Nat.le_refl _) hN (by omega) (Nat.le_refl _),by rw [←HR.out]; exact hI2,hE⟩
end Go.Proofs.YthkkknjcoidioaaGreat
