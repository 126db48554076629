import Derived.Test.YtflhlobiipejeaaGreatWb15
import Derived.Test.YtflhlobiipejeaaGreatWb16
set_option linter.all false
set_option maxHeartbeats 8000000
namespace Go.Proofs.YtflhlobiipejeaaGreat
open Go.RowKit
variable {w:World} {N n lo hi k i m c j:Nat}
def q6u (N lo hi:Nat) (w:World) (h cap m n:Nat) (M:q_m) (p:List Nat) (e:Ending) (w':World):Prop :=
 ∃β κ A c,e=.returned (.slice A p.length c)/\qU N lo hi w' h cap m n β κ M/\IsV w.heap.size w'.heap.size w' (.slice A p.length c) p/\Chg lo hi w w'
def Ja (x:q_v) (q:Rat) (j k c:Nat):Rat:=if j<=c/\c<k then q*x c else x c
theorem q0T (x:q_v) (q:Rat)(h:j<=k) (c:Nat):Ja x q j (k+1) c=upd (Ja x q j k) k (q*x k) c:=by
 unfold Ja upd
 by_cases e:c=k
 ·subst e;rw[if_pos (by omega),if_pos rfl]
 ·rw[if_neg e]
  show (if j<=c/\c<k+1 then q*x c else x c)=(if j<=c/\c<k then q*x c else x c)
  by_cases e2:j<=c/\c<k
  ·rw[if_pos e2,if_pos (by omega)]
  ·rw[if_neg e2,if_neg (by omega)]
theorem q2F {M:q_m}{r:Nat}(hz:∀c,c<j->M r c=0) (hc:c<n):Ja (M r) (1 / M r j) j n c=M r c / M r j:=by
 unfold Ja
 by_cases h:j<=c
 ·rw[if_pos ⟨h,hc⟩,Rat.div_def,Rat.div_def];grind
 ·rw[if_neg (by omega),hz c (by omega),Rat.div_def];grind
theorem q1H {M:q_m}{r:Nat}(hz:∀c,c<j->M r c=0) (hc:c<n) (hir:¬i=r):yZ (M i) (M r) (M i j) j n c=clr M r j i c:=by
 unfold yZ clr;rw[if_neg hir]
 by_cases h:j<=c
 ·rw[if_pos ⟨h,hc⟩]
 ·rw[if_neg (by omega),hz c (by omega)];grind
set_option maxRecDepth 100000 in
theorem q52{h cap:Nat}{β κ:Nat->Nat}{X:q_m}{cc:Nat}(ho:qU N lo hi w h cap m n β κ X) (hm:m<1000000) (hn:n<1000000) (cols:Nat){C:Int}(hC':C=(cols:Int)) (hcn:cols<=n)
  {q P:Nat}(hq:HtM m n q X) (hP:m<=P\/cols<=P) (hK:5*(5 ^ P*q)<=29000000000) :
  Calls Tryz.prog 95 #[.slice (some ⟨h,0,none⟩) m cc,.int .i64 C] w (q6u N lo hi w h cap m n (zI m X cols).1 (zI m X cols).2):=by
 subst hC';have hN:=ho.le;have hlo:=ho.hlo;have hhi:=ho.hhi;have his:=ho.his;have HQ:Hid (∀j,j<=cols->HtM m n (5 ^ P*q) (zI m X j).1):=fun j hj=>XO hq (by omega) (by omega)
 have HK:=q_h hK;obtain⟨Rf,hRf⟩:=qc (q6u N lo hi w h cap m n (zI m X cols).1 (zI m X cols).2);rw[<-hRf.out];clear hq hP hK;go_enter Tryz.func95,Tryz.ntmps95;go_wp2
 go_loopw [5,13] (fun pv i wr=>∃j:Nat,j<=cols/\i=.int .i64 j/\Chg lo hi w wr/\∃M p r β κ A' c',Hid (zI m X j=(M,p))/\Hid (r=p.length)/\pv=.slice A' r c'/\qU N lo hi wr h cap m n β κ M/\jm w.heap.size wr (.slice A' r c') p) (fun _ i _=>cols-(intOf i).toNat)
 case atStart=>exact⟨0,Nat.zero_le _,rfl,Chg.refl _ _ _,X,[],0,β,κ,_,_,rfl,rfl,rfl,ho,jm.nil (q_r)⟩
 case round =>
  clear ho β κ;obtain⟨j,hj,rfl,hC,M,p,r,β,κ,A',c',Hst,Hr,rfl,ho,hG⟩:=hrel;have hrm:r<=m:=by have:=vX m X j;rw[Hst.out] at this;have:=Hr.out;simp only at *;omega
  have hsz:w.heap.size<=wr.heap.size:=hG.1;have HM:Hid (HtM m n (5 ^ P*q) M):=by have:=HQ.out j hj;rw[Hst.out] at this;exact this
  have HZR:Hid (∀i,r<=i->i<m->∀c,c<j->M i c=0):=by
   have h9:=(xY m X j).zero;rw[Hst.out] at h9;simp only at h9;rw[<-Hr.out] at h9;exact h9
  obtain⟨wq,hwq⟩:∃wq,wq=wr:=⟨wr,rfl⟩
  subst hwq
  by_cases hlt:j<cols
  ·have hjn:j<n:=by omega
   go_upto_block 2 with (fail)
   go_cut [8] (fun k_ wx=>(∃a:Nat,k_=.int .i64 a/\r<=a/\a<=m/\Hid (∀i,r<=i->i<a->M i j=0)/\Hid (a<m->M a j≠0))/\Ext wq wx)
   case first =>
    go_wp2_with fail
    go_loopw [8] (fun k_ wx=>∃i:Nat,r<=i/\i<=m/\k_=.int .i64 i/\Ext wq wx/\Hid (∀i',r<=i'->i' < i->M i' j=0)) (fun k_ _=>m-(intOf k_).toNat)
    case atStart=>exact⟨r,q_r,hrm,rfl,Ext.refl _,fun i h1 h2=>by omega⟩
    case round =>
     obtain⟨i,hri,him,rfl,hEq,HA⟩:=hrel
     by_cases hi:i<m
     ·have ho2:=ho.ext hEq;have r0:=ho2.hcell hi;obtain⟨zb,zA,zn,zc,zA2,zn2,zc2,t0,t1,t2,t3,t4,t5,t6,t7,hb1,g1,g2⟩:=(ho2.row i hi).at_ hjn;obtain⟨s,hs⟩:=qc (M i j).num.sign;have HS:Hid (Sz (M i j)):=(HM.out i hi j hjn).sz (by have:=HK.out;omega);go_wp2_with (go_at_call 106;refine q_o ?_);refine (Xn (qX.mk hb1 g1 g2) HS.out).mono ?_;rintro e w2 ⟨rfl,e2⟩;rw[<-hs.out];replace hEq:=hEq.trans e2;clear r0 t0 t1 t2 t3 t4 t5 t6 t7 g1 g2 ho2
      by_cases hz:M i j=0
      ·have hs0:s=0:=by rw[hs.out,hz];rfl
       have HZ:=q_h hz;clear hz;subst hs0;go_wp2;go_roundw
       case rel=>exact⟨i+1,by omega,by omega,by go_num,hEq,fun i' h1 h2=>by rcases Nat.lt_or_ge i' i with h3|h3;exact HA.out i' h1 h3;(obtain rfl:i'=i:=by omega);exact HZ.out⟩
       case measure=>simp[intOf];omega
      ·have hs0:(s == 0)=false:=by
        have:s≠0:=by rw[hs.out];intro e;exact hz (Rat.num_eq_zero.1 (Int.sign_eq_zero_iff_zero.1 e))
        simpa using this
       have HZ:=q_h hz;clear hz hs;go_wp2_with fail
       go_meet
       exact⟨⟨i,rfl,hri,him,HA,fun _=>HZ.out⟩,hEq⟩
     ·obtain rfl:i=m:=by omega
      go_wp2_with fail
      go_meet
      exact⟨⟨i,rfl,hri,him,HA,fun h9=>absurd h9 (by omega)⟩,hEq⟩
   case rest =>
    obtain⟨⟨a,rfl,hra,ham,HA,HN⟩,hEq⟩:=hcut;replace hC:=hC.trans (hEq.chg _ _);replace ho:=ho.ext hEq;replace hG:=hG.ext hEq;have hszc:w.heap.size<=wc.heap.size:=hG.1;clear hEq
    by_cases hae:a=m
    ·have HS:Hid (zI m X (j+1)=(M,p)):=by
      rw[Hid,q1Z,Hst.out];rw[Hst.out];simp only;rw[<-Hr.out];exact q1S hrm (fun i h1 h2=>HA.out i h1 (by omega))
     have hae1:((a:Int) == (m:Int))=true:=by rw[hae];simp
     clear hae;go_wp2;go_roundw
     case rel=>exact⟨j+1,by omega,by go_num,hC,M,p,r,β,κ,_,_,HS,Hr,rfl,ho,hG⟩
     case measure=>simp[intOf];omega
    ·have hae1:((a:Int) == (m:Int))=false:=beq_eq_false_iff_ne.2 (by omega);have ham':a<m:=by omega
     have hrlt:r<m:=by omega
     clear hae;have r0:=ho.hcell hrlt;have q0:=ho.hcell ham';have f0:=ho.hfrozen r;have f1:=ho.hfrozen a;obtain⟨v9,s9⟩:=cell?_setCell_some (w:=wc) (p:=⟨h,r,none⟩) (x:=.slice (some ⟨β a,0,none⟩) n (κ a)) (q:=⟨h,a,none⟩) (v:=.slice (some ⟨β a,0,none⟩) n (κ a)) q0;go_upto_region 10 with (fail);have eC:=(Ext.refl wc).drew;refine qw (fun w'=>w'.cell? ⟨h,r,none⟩=some (.slice (some ⟨β r,0,none⟩) n (κ r))/\w'.cell? ⟨h,a,none⟩=some (.slice (some ⟨β a,0,none⟩) n (κ a))) [13,15] (by kernel_rfl) (by exact⟨eC.cell r0,eC.cell q0⟩) (fun hHeld=>?_);refine sP 0 (h:=?_);refine sP 1 (h:=?_);refine sP 2 (h:=?_);refine sP 3 (h:=?_);refine sP 4 (h:=?_);refine sP 5 (h:=?_);refine sP 6 (h:=?_);refine sT 7 (h:=?_);refine sP 8 (h:=?_);refine sP 9 (h:=?_);refine sP 10 (h:=?_);refine sT 11 (h:=?_);refine sP 12 (h:=?_);refine qj (i:=13) rfl (by kernel_rfl) (by kernel_rfl) (fun K hK=>?_);go_simp;refine hK.out _ _ ?_;clear hK K;try simp only[nr]
     refine sP 14 (h:=?_);refine qj (i:=15) rfl (by kernel_rfl) (by kernel_rfl) (fun K hK=>?_);go_simp;refine hK.out _ _ ?_;clear hK K;try simp only[nr]
     refine qg (by kernel_rfl) ?_ _;clear hHeld;obtain⟨w2,E2,C2,hs2,ho2⟩:=ho.swap hrlt ham';rw[E2];obtain⟨β2,κ2,ho2⟩:∃β2 κ2,qU N lo hi w2 h cap m n β2 κ2 (swp M r a):=⟨_,_,ho2⟩
     replace hC:=hC.trans (C2.wide hlo (by omega));replace hG:=hG.chg C2 (by omega);obtain⟨M1,hM1⟩:=qc (swp M r a);rw[<-hM1.out] at ho2;have HM1:Hid (HtM m n (5 ^ P*q) M1):=by rw[hM1.out];exact HM.out.swp hrlt ham'
     have HPV:Hid (M1 r j≠0):=by rw[hM1.out];unfold swp;rw[if_pos rfl];exact HN.out ham'
     have HZ1:Hid (∀c,c<j->M1 r c=0):=by intro c hc;rw[hM1.out];unfold swp;rw[if_pos rfl];exact HZR.out a hra ham' c hc
     have hsz2:w.heap.size<=w2.heap.size:=by omega
     clear r0 q0 f0 f1 v9 s9 E2 C2 ho eC hs2;have ho3:=ho2.ext (Ext.refl w2).drew;have hC3:=hC.trans ((Ext.refl w2).drew.chg lo hi);have hG3:=hG.ext (Ext.refl w2).drew;have hsz3:w.heap.size<=w2.drew.heap.size:=hsz2;clear ho2 hC hG hsz2
     generalize w2.drew=w3 at *
     have r0:=ho3.hcell hrlt;obtain⟨zb,zA,zn,zc,zA2,zn2,zc2,t0,t1,t2,t3,-,-,-,-,hb1,g1,g2⟩:=(ho3.row r hrlt).at_ hjn;have HS1:Hid (Sz (M1 r j)):=(HM1.out r hrlt j hjn).sz (by have:=HK.out;omega);go_upto_region 11 with (fail)
     go_cut [9] (fun pb wx=>∃g:Nat,pb=.pointer (some ⟨g,0,none⟩)/\w3.heap.size<=g/\g<wx.heap.size/\je N wx g (1 / M1 r j)/\Ext w3 wx)
     case first =>
      have eC:=(Ext.refl w3).drew;refine qw (fun w'=>w'.cell? ⟨h,r,none⟩=some (.slice (some ⟨β2 r,0,none⟩) n (κ2 r))/\w'.cell? ⟨β2 r,j*4,none⟩=some (.bool zb)/\w'.cell? ⟨β2 r,j*4+1,none⟩=some (.slice zA zn zc)/\w'.cell? ⟨β2 r,j*4+2,none⟩=some (.bool false)/\w'.cell? ⟨β2 r,j*4+3,none⟩=some (.slice zA2 zn2 zc2)) [10] (by kernel_rfl) (by exact⟨eC.cell r0,eC.cell t0,eC.cell t1,eC.cell t2,eC.cell t3⟩) (fun hHeld=>?_);refine sP 1 (h:=?_);refine sP 2 (h:=?_);refine sP 3 (h:=?_);refine sT 4 (h:=?_);refine sP 5 (h:=?_);refine sP 6 (h:=?_);refine sT 7 (h:=?_);refine jW (i:=0) (j:=9) rfl rfl (by kernel_rfl) (fun K hK=>?_) (fun K hK=>?_)
      ·go_simp;refine (f_whole (N:=N) (by have h8:=eC.size;have h9:N<=w3.heap.size:=(by omega);omega) 1 (by omega) (by omega)).mono ?_;rintro e w4 ⟨v4,rfl,h4,e4⟩;replace eC:=eC.trans e4
       (try replace eA2:=eA2.trans e4)
       go_wp2_with fail;clear hHeld;refine hK.out _ _ (by exact⟨eC.cell r0,eC.cell t0,eC.cell t1,eC.cell t2,eC.cell t3⟩) fun hHeld=>?_
       clear hK K;try simp only[nr]
       refine jW (i:=8) (j:=9) rfl rfl (by kernel_rfl) (fun K hK=>?_) (fun K hK=>?_)
       ·go_simp;refine (Qy (x:=((1:Int):Rat)) (y:=M1 r j) (by first|exact h4|exact h4.ext eA) (by exact (qX.mk hb1 g1 g2).ext eC) (Ht.one.sz (by omega)) HS1.out HPV.out).mono ?_;intro e w5 hh;obtain⟨b9,A9,k9,c9,A10,k10,c10,rfl,hb9,g9,g10,e5⟩:=hh.form;replace eC:=eC.trans e5
        (try replace eA2:=eA2.trans e5)
        go_wp2_with fail;clear hHeld;refine hK.out _ _ (by exact⟨eC.cell r0,eC.cell t0,eC.cell t1,eC.cell t2,eC.cell t3⟩) fun hHeld=>?_
        clear hK K;try simp only[nr]
        refine qp (i:=9) rfl (by kernel_rfl) (fun K hK=>?_);go_simp
        first|refine qo ?_|refine yu ?_
        intro wA eA hszA BA;have hgl:w3.heap.size<=_:=eC.size;replace eC:Ext w3 wA:=by first|exact eC.trans eA|exact eA
        have eA2:=Ext.refl wA
        (try replace g9:=g9.ext eA)
        (try replace g10:=g10.ext eA)
        clear hHeld;refine hK.out _ _ (by exact⟨eC.cell r0,eC.cell t0,eC.cell t1,eC.cell t2,eC.cell t3⟩) fun hHeld=>?_
        clear hK K;try simp only[nr]
        refine qj (i:=10) rfl (by kernel_rfl) (by kernel_rfl) (fun K hK=>?_);obtain⟨u0,u1,u2,u3,u4,u5,u6,u7⟩:=cells4 (eA2.block BA);go_simp;refine hK.out _ _ ?_;clear hK K;try simp only[nr]
        refine qg (by kernel_rfl) ?_ _;clear hHeld;go_wp2_with fail
        go_meet
        obtain⟨w7,E7,hB7,K7,hs7⟩:=Q7 (q:=1 / M1 r j) (eA2.block BA) (by omega) hb9 g9 g10;rw[E7];exact⟨_,rfl,hgl,by have h8:=eA2.size;omega,hB7,K7.ext eC hgl⟩
       ·go_simp
        first|refine qo ?_|refine yu ?_
        intro wA eA hszA BA;have hgl:w3.heap.size<=_:=eC.size;replace eC:Ext w3 wA:=by first|exact eC.trans eA|exact eA
        have eA2:=Ext.refl wA
        (try replace g9:=g9.ext eA)
        (try replace g10:=g10.ext eA)
        clear hHeld;refine hK.out _ _ (by exact⟨eC.cell r0,eC.cell t0,eC.cell t1,eC.cell t2,eC.cell t3⟩) fun hHeld=>?_
        clear hK K;try simp only[nr]
        refine qp (i:=8) rfl (by kernel_rfl) (fun K hK=>?_);go_simp;refine (Qy (x:=((1:Int):Rat)) (y:=M1 r j) (by first|exact h4|exact h4.ext eA) (by exact (qX.mk hb1 g1 g2).ext eC) (Ht.one.sz (by omega)) HS1.out HPV.out).mono ?_;intro e w5 hh;obtain⟨b9,A9,k9,c9,A10,k10,c10,rfl,hb9,g9,g10,e5⟩:=hh.form;replace eC:=eC.trans e5
        (try replace eA2:=eA2.trans e5)
        go_wp2_with fail;clear hHeld;refine hK.out _ _ (by exact⟨eC.cell r0,eC.cell t0,eC.cell t1,eC.cell t2,eC.cell t3⟩) fun hHeld=>?_
        clear hK K;try simp only[nr]
        refine qj (i:=10) rfl (by kernel_rfl) (by kernel_rfl) (fun K hK=>?_);obtain⟨u0,u1,u2,u3,u4,u5,u6,u7⟩:=cells4 (eA2.block BA);go_simp;refine hK.out _ _ ?_;clear hK K;try simp only[nr]
        refine qg (by kernel_rfl) ?_ _;clear hHeld;go_wp2_with fail
        go_meet
        obtain⟨w7,E7,hB7,K7,hs7⟩:=Q7 (q:=1 / M1 r j) (eA2.block BA) (by omega) hb9 g9 g10;rw[E7];exact⟨_,rfl,hgl,by have h8:=eA2.size;omega,hB7,K7.ext eC hgl⟩
      ·go_simp
       first|refine qo ?_|refine yu ?_
       intro wA eA hszA BA;have hgl:w3.heap.size<=_:=eC.size;replace eC:Ext w3 wA:=by first|exact eC.trans eA|exact eA
       have eA2:=Ext.refl wA
       (try replace g9:=g9.ext eA)
       (try replace g10:=g10.ext eA)
       clear hHeld;refine hK.out _ _ (by exact⟨eC.cell r0,eC.cell t0,eC.cell t1,eC.cell t2,eC.cell t3⟩) fun hHeld=>?_
       clear hK K;try simp only[nr]
       refine qp (i:=0) rfl (by kernel_rfl) (fun K hK=>?_);go_simp;refine (f_whole (N:=N) (by have h8:=eC.size;have h9:N<=w3.heap.size:=(by omega);omega) 1 (by omega) (by omega)).mono ?_;rintro e w4 ⟨v4,rfl,h4,e4⟩;replace eC:=eC.trans e4
       (try replace eA2:=eA2.trans e4)
       go_wp2_with fail;clear hHeld;refine hK.out _ _ (by exact⟨eC.cell r0,eC.cell t0,eC.cell t1,eC.cell t2,eC.cell t3⟩) fun hHeld=>?_
       clear hK K;try simp only[nr]
       refine qp (i:=8) rfl (by kernel_rfl) (fun K hK=>?_);go_simp;refine (Qy (x:=((1:Int):Rat)) (y:=M1 r j) (by first|exact h4|exact h4.ext eA) (by exact (qX.mk hb1 g1 g2).ext eC) (Ht.one.sz (by omega)) HS1.out HPV.out).mono ?_;intro e w5 hh;obtain⟨b9,A9,k9,c9,A10,k10,c10,rfl,hb9,g9,g10,e5⟩:=hh.form;replace eC:=eC.trans e5
       (try replace eA2:=eA2.trans e5)
       go_wp2_with fail;clear hHeld;refine hK.out _ _ (by exact⟨eC.cell r0,eC.cell t0,eC.cell t1,eC.cell t2,eC.cell t3⟩) fun hHeld=>?_
       clear hK K;try simp only[nr]
       refine qj (i:=10) rfl (by kernel_rfl) (by kernel_rfl) (fun K hK=>?_);obtain⟨u0,u1,u2,u3,u4,u5,u6,u7⟩:=cells4 (eA2.block BA);go_simp;refine hK.out _ _ ?_;clear hK K;try simp only[nr]
       refine qg (by kernel_rfl) ?_ _;clear hHeld;go_wp2_with fail
       go_meet
       obtain⟨w7,E7,hB7,K7,hs7⟩:=Q7 (q:=1 / M1 r j) (eA2.block BA) (by omega) hb9 g9 g10;rw[E7];exact⟨_,rfl,hgl,by have h8:=eA2.size;omega,hB7,K7.ext eC hgl⟩
     case rest =>
      obtain⟨gB,rfl,hgB1,hgB2,hB,hE4⟩:=hcut;have ho4:=ho3.ext hE4;have hC4:=hC3.trans (hE4.chg lo hi);have hG4:=hG3.ext hE4;have hgB:w.heap.size<=gB:=by omega
      clear ho3 hC3 hG3 r0 t0 t1 t2 t3 hb1 g1 g2 hE4 hgB1;obtain⟨qi,hqi⟩:=qc (1 / M1 r j);rw[<-hqi.out] at hB;have HQI:Hid (Ht (5 ^ P*q+1) qi):=by rw[hqi.out];exact (Ht.one.div (HM1.out r hrlt j hjn)).mono (by omega)
      go_wp2
      go_loopw [10] (fun i wr=>∃k:Nat,j<=k/\k<=n/\i=.int .i64 k/\Chg lo hi w wr/\gB<wr.heap.size/\qU N lo hi wr h cap m n β2 κ2 (xE M1 r (Ja (M1 r) qi j k))/\je N wr gB qi/\jm w.heap.size wr (.slice A' r c') p) (fun i _=>n-(intOf i).toNat)
      case atStart=>exact⟨j,q_r,by omega,rfl,hC4,hgB2,ho4.congr (fun i _ c _=>by unfold xE;split;(rename_i e;subst e;unfold Ja;rw[if_neg (by omega)]);rfl),hB,hG4⟩
      case round =>
       clear hC4 ho4 hB hG4 hgB2;obtain⟨k,hjk,hk,rfl,hC4,hgB2,ho4,hB,hG4⟩:=hrel;have r0:=ho4.hcell hrlt
       by_cases hkn:k<n
       ·obtain⟨b1,A1,k1,c1,A2,k2,c2,BS,hb1,g1,g2⟩:=hB;obtain⟨s0,s1,s2,s3,-⟩:=cells4 BS;obtain⟨n1,A3,k3,c3,A4,k4,c4,t0,t1,t2,t3,t4,t5,t6,t7,hb3,g3,g4⟩:=(ho4.row r hrlt).at_ hkn;have HV:Hid (xE M1 r (Ja (M1 r) qi j k) r k=M1 r k):=by rw[Hid,xq];unfold Ja;rw[if_neg (by omega)]
        rw[HV.out] at hb3 g3 g4;have HS2:Hid (Sz (M1 r k)):=(HM1.out r hrlt k hkn).sz (by have:=HK.out;omega);have HS3:Hid (Sz qi):=HQI.out.sz (by have:=HK.out;omega);have HSU:=q_h (q0T (M1 r) qi hjk);go_upto_region 15 with (fail);have eC:=(Ext.refl wr).drew;refine qw (fun w'=>w'.cell? ⟨h,r,none⟩=some (.slice (some ⟨β2 r,0,none⟩) n (κ2 r))/\w'.cell? ⟨β2 r,k*4,none⟩=some (.bool n1)/\w'.cell? ⟨β2 r,k*4+1,none⟩=some (.slice A3 k3 c3)/\w'.cell? ⟨β2 r,k*4+2,none⟩=some (.bool false)/\w'.cell? ⟨β2 r,k*4+3,none⟩=some (.slice A4 k4 c4)/\w'.cell? ⟨gB,0,none⟩=some (.bool b1)/\w'.cell? ⟨gB,1,none⟩=some (.slice A1 k1 c1)/\w'.cell? ⟨gB,2,none⟩=some (.bool false)/\w'.cell? ⟨gB,3,none⟩=some (.slice A2 k2 c2)) [15] (by kernel_rfl) (by exact⟨eC.cell r0,eC.cell t0,eC.cell t1,eC.cell t2,eC.cell t3,eC.cell s0,eC.cell s1,eC.cell s2,eC.cell s3⟩) (fun hHeld=>?_);refine sP 0 (h:=?_);refine sP 1 (h:=?_);refine sP 2 (h:=?_);refine sT 3 (h:=?_);refine sP 4 (h:=?_);refine sT 5 (h:=?_);refine sP 6 (h:=?_);refine sP 7 (h:=?_);refine sP 8 (h:=?_);refine sT 9 (h:=?_);refine sP 10 (h:=?_);refine sP 11 (h:=?_);refine sT 12 (h:=?_);refine qp (i:=13) rfl (by kernel_rfl) (fun K hK=>?_);go_simp;refine (q5k (x:=qi) (y:=M1 r k) (by exact (qX.mk hb1 g1 g2).ext eC) (by exact (qX.mk hb3 g3 g4).ext eC) HS3.out HS2.out).mono ?_;intro e w5 hh;obtain⟨b9,A9,k9,c9,A10,k10,c10,rfl,hb9,g9,g10,e5⟩:=hh.form
        replace eC:=eC.trans e5;have ho5:=ho4.ext eC;obtain⟨zb,zA,zn,zc,zA2,zn2,zc2,u0,u1,u2,u3,u4,u5,u6,u7,-⟩:=(ho5.row r hrlt).at_ hkn;go_wp2_with fail;clear hHeld;refine hK.out _ _ (by exact⟨eC.cell r0,eC.cell t0,eC.cell t1,eC.cell t2,eC.cell t3,eC.cell s0,eC.cell s1,eC.cell s2,eC.cell s3⟩) fun hHeld=>?_
        clear hK K;try simp only[nr]
        refine sP 14 (h:=?_);refine qj (i:=15) rfl (by kernel_rfl) (by kernel_rfl) (fun K hK=>?_);go_simp;refine hK.out _ _ ?_;clear hK K;try simp only[nr]
        refine qg (by kernel_rfl) ?_ _;clear hHeld;obtain⟨w6,E6,C6,hs6,hr6⟩:=(ho5.row r hrlt).set (i:=k) (q:=qi*M1 r k) (by have:=(ho5.row r hrlt).2.1;omega) (by omega) hb9 g9 g10;rw[E6];have ho6:=ho5.setRow hrlt C6 (hr6.less (n':=n) (by omega));have hlo6:=ho5.lo_ r hrlt;have hhi6:=ho5.hi_ r hrlt;replace hC4:=(hC4.trans (eC.chg lo hi)).trans (C6.wide hlo6 (by omega));replace hG4:=(hG4.ext eC).chg C6 (by omega);have hP6:=(je.mk (eC.block BS) hb1 (g1.ext eC) (g2.ext eC)).chg C6 (by omega) (.inr (by omega));have hsz6:gB<w6.heap.size:=by have:=eC.size;omega
        clear E6 hs6 C6 ho5 u0 u1 u2 u3 u4 u5 u6 u7 t0 t1 t2 t3 t4 t5 t6 t7 s0 s1 s2 s3 r0 BS;go_wp2;go_roundw
        case rel=>exact⟨k+1,by omega,by omega,by go_num,hC4,hsz6,ho6.congr (fun i _ c _=>(by
          unfold xE
          split
          ·rename_i e;subst e
           simp only[if_true];exact (HSU.out c).symm
          ·rfl)),hP6,hG4⟩
        case measure=>simp[intOf];omega
       ·obtain rfl:k=n:=by omega
        obtain⟨M2,hM2⟩:=qc (nrm M1 r j);replace ho4:=ho4.congr (B:=M2) (fun i _ c hc=>by rw[hM2.out];unfold xE nrm;split;(rw[hqi.out];exact q2F HZ1.out hc);rfl)
        have HM2:Hid (HtM m k (2*(5 ^ P*q)) M2):=fun i hi c hc=>by
         rw[hM2.out];unfold nrm
         split
         ·exact ((HM1.out r hrlt c hc).div (HM1.out r hrlt j hjn)).mono (by omega)
         ·exact (HM1.out i hi c hc).mono (by omega)
        have HZ2:Hid (∀c,c<j->M2 r c=0):=fun c hc=>by rw[hM2.out];unfold nrm;rw[if_pos rfl,HZ1.out c hc,Rat.div_def];exact Rat.zero_mul _
        clear hB HPV HQI hgB2;go_upto_region 16 with (fail);clear r0;go_wp2
        go_loopw [90] (fun i wr=>∃i':Nat,i'<=m/\i=.int .i64 i'/\Chg lo hi w wr/\qU N lo hi wr h cap m k β2 κ2 (ZW M2 r j i')/\jm w.heap.size wr (.slice A' r c') p) (fun i _=>m-(intOf i).toNat)
        case atStart=>exact⟨0,Nat.zero_le _,rfl,hC4,ho4.congr (fun i _ c _=>by unfold ZW;rw[if_neg (Nat.not_lt_zero _)]),hG4⟩
        case round =>
         clear hC4 ho4 hG4;obtain⟨i,him,rfl,hC4,ho4,hG4⟩:=hrel;have hszr:w.heap.size<=wr.heap.size:=hG4.1
         by_cases him2:i<m
         ·by_cases hir:i=r
          ·have hir1:((i:Int) != (r:Int))=false:=by rw[hir];simp
           have HIR:=q_h hir;clear hir;go_wp2;go_roundw
           case rel=>exact⟨i+1,by omega,by go_num,hC4,ho4.congr (fun i' _ c _=>(by
             have hir:=HIR.out;unfold ZW
             by_cases e1:i' < i
             ·rw[if_pos e1,if_pos (by omega)]
             ·rw[if_neg e1]
              by_cases e2:i'=i
              ·subst e2;rw[if_pos (by omega)];unfold clr;rw[if_pos hir,hir]
              ·rw[if_neg (by omega)])),hG4⟩
           case measure=>simp[intOf];omega
          ·have hir1:((i:Int) != (r:Int))=true:=by rw[bne_iff_ne];omega
           have r0:=ho4.hcell him2;obtain⟨n1,A3,k3,c3,A4,k4,c4,t0,t1,t2,t3,-,-,-,-,hb3,g3,g4⟩:=(ho4.row i him2).at_ hjn;have HV:Hid (ZW M2 r j i i j=M2 i j):=by rw[Hid];unfold ZW;rw[if_neg (Nat.lt_irrefl _)]
           rw[HV.out] at hb3 g3 g4;have HS2:Hid (Sz (M2 i j)):=(HM2.out i him2 j hjn).sz (by have:=HK.out;omega);obtain⟨s,hs⟩:=qc (M2 i j).num.sign;go_wp2_with (go_at_call 106;refine q_o ?_);refine (Xn (qX.mk hb3 g3 g4) HS2.out).mono ?_;rintro e w5 ⟨rfl,e5⟩;rw[<-hs.out];replace hC4:=hC4.trans (e5.chg _ _);replace ho4:=ho4.ext e5;replace hG4:=hG4.ext e5;replace g3:=g3.ext e5;replace g4:=g4.ext e5;replace r0:=e5.cell r0;replace t0:=e5.cell t0;replace t1:=e5.cell t1;replace t2:=e5.cell t2;replace t3:=e5.cell t3;clear e5
           by_cases hz:M2 i j=0
           ·have hs0:s=0:=by rw[hs.out,hz];rfl
            have HZ:=q_h hz;clear hz hs;subst hs0;go_wp2;go_roundw
            case rel=>exact⟨i+1,by omega,by go_num,hC4,ho4.congr (fun i' _ c _=>(by
              unfold ZW
              by_cases e1:i' < i
              ·rw[if_pos e1,if_pos (by omega)]
              ·rw[if_neg e1]
               by_cases e2:i'=i
               ·subst e2;rw[if_pos (by omega)];unfold clr;rw[if_neg hir,HZ.out];exact JX _ _
               ·rw[if_neg (by omega)])),hG4⟩
            case measure=>simp[intOf];omega
           ·have hs0:(s == 0)=false:=by
             have:s≠0:=by rw[hs.out];intro e;exact hz (Rat.num_eq_zero.1 (Int.sign_eq_zero_iff_zero.1 e))
             simpa using this
            have hs1:(s != 0)=true:=by simpa using hs0
            clear hz hs;have q0:=ho4.hcell hrlt;go_upto_region 20 with (fail);have eC:=(Ext.refl w5).drew;refine qw (fun w'=>w'.cell? ⟨h,i,none⟩=some (.slice (some ⟨β2 i,0,none⟩) k (κ2 i))/\w'.cell? ⟨h,r,none⟩=some (.slice (some ⟨β2 r,0,none⟩) k (κ2 r))/\w'.cell? ⟨β2 i,j*4,none⟩=some (.bool n1)/\w'.cell? ⟨β2 i,j*4+1,none⟩=some (.slice A3 k3 c3)/\w'.cell? ⟨β2 i,j*4+2,none⟩=some (.bool false)/\w'.cell? ⟨β2 i,j*4+3,none⟩=some (.slice A4 k4 c4)) [16] (by kernel_rfl) (by exact⟨eC.cell r0,eC.cell q0,eC.cell t0,eC.cell t1,eC.cell t2,eC.cell t3⟩) (fun hHeld=>?_);refine sP 0 (h:=?_);refine sP 1 (h:=?_);refine sP 2 (h:=?_);refine sT 3 (h:=?_);refine sP 4 (h:=?_);refine sP 5 (h:=?_);refine sP 6 (h:=?_);refine sT 7 (h:=?_);refine sP 8 (h:=?_);refine sP 9 (h:=?_);refine sP 10 (h:=?_);refine sT 11 (h:=?_);refine sP 12 (h:=?_);refine sP 13 (h:=?_);refine sT 14 (h:=?_);refine sP 15 (h:=?_);refine qj (i:=16) rfl (by kernel_rfl) (by kernel_rfl) (fun K hK=>?_);go_simp;have hro:=((ho4.ext eC).row r hrlt).congr (y:=M2 r) (fun c _=>by unfold ZW clr;split;(rw[if_pos rfl]);rfl);have hri:=((ho4.ext eC).row i him2).congr (y:=M2 i) (fun c _=>by unfold ZW;rw[if_neg (Nat.lt_irrefl _)]);refine (q0V (K:=2*(5 ^ P*q)) hri hro (ho4.inj r i hrlt him2 (by omega)) ((qX.mk hb3 g3 g4).ext eC) rfl (by omega) hn (HM2.out i him2) (HM2.out r hrlt) (HM2.out i him2 j hjn) (by have:=HK.out;omega)).mono ?_
            rintro e w6 ⟨rfl,C6,hr6⟩;go_wp2_with fail;refine hK.out _ _ ?_;clear hK K;try simp only[nr]
            refine qg (by kernel_rfl) ?_ _;clear hHeld;have hlo6:=ho4.lo_ i him2;have hhi6:=ho4.hi_ i him2;have ho6:=(ho4.ext eC).setRow him2 C6 hr6;replace hC4:=(hC4.trans (eC.chg _ _)).trans (C6.wide hlo6 (by omega));replace hG4:=(hG4.ext eC).chg C6 (by omega);clear C6 hr6 ho4 r0 q0 t0 t1 t2 t3 g3 g4 hb3 hro hri;go_wp2;go_roundw
            case rel=>exact⟨i+1,by omega,by go_num,hC4,ho6.congr (fun i' _ c hc=>(by
              unfold xE
              split
              ·rename_i e;subst e
               unfold ZW;rw[if_pos (by omega)];exact q1H HZ2.out hc hir
              ·rename_i e
               unfold ZW
               by_cases e1:i' < i
               ·rw[if_pos e1,if_pos (by omega)]
               ·rw[if_neg e1,if_neg (by omega)])),hG4⟩
            case measure=>simp[intOf];omega
         ·obtain rfl:i=m:=by omega
          have HF:Hid (zI i X (j+1)=(clr M2 r j,p ++ [j])):=by
           have hseek:XJ (zI i X j).1 i j (i-(zI i X j).2.length) (zI i X j).2.length=a:=by
            rw[Hst.out];simp only;rw[<-Hr.out];exact q1R hra ham' HA.out (HN.out ham')
           rw[Hid,q1Y ham' hseek,Hst.out];simp only;rw[<-Hr.out,hM2.out,hM1.out]
          have HR2:Hid (r+1=(p ++ [j]).length):=by rw[Hid,List.length_append,<-Hr.out];rfl
          have ho5:=ho4.congr (B:=clr M2 r j) (fun i' h1 c _=>by unfold ZW;rw[if_pos h1]);have hpl:p.length<1000000000:=by have:=Hr.out;omega
          have HRe:=q_h Hr.out;go_wp2_with (at_builtin;refine q_o ?_);refine qo ?_;intro w4 e4 hsz4 BX;replace hC4:=hC4.trans (e4.chg _ _);replace ho5:=ho5.ext e4;replace hG4:=hG4.ext e4;refine Qi rfl _ _ 25 Tryz.underlying25 rfl rfl hG4 rfl BX hpl ?_;rintro g cap' w5 hG5 ⟨g',hg',c5,-⟩;rw[<-HRe.out] at hG5 ⊢
          have hC5:Chg lo hi w w5:=by
           have e5:=(hC4.size)
           exact⟨c5.os.trans hC4.os,c5.tape.trans hC4.tape,c5.output.trans hC4.output,q_l hC4.size c5.size,fun k hk hc=>by
            have h8:=hC4.block k hk hc
            exact (c5.block k (Nat.lt_of_lt_of_le hk e5) (.inl (by omega))).trans h8⟩
          replace ho5:=ho5.chg c5 (by omega) (.inl (by omega));clear hG4 c5 BX e4 ho4 hC4;go_wp2;go_roundw
          case rel=>exact⟨j+1,by omega,by go_num,hC5,_,_,r+1,β2,κ2,_,_,HF,HR2,rfl,ho5,hG5⟩
          case measure=>simp[intOf];omega
  ·obtain rfl:j=cols:=by omega
   have hI2:=hG.isv (lo:=w.heap.size) (q_r);have HR:=q_h Hr.out;go_wp2;rw[hRf.out,Hst.out];refine⟨β,κ,A',c',by rw[<-HR.out];rfl,ho,by rw[<-HR.out];exact hI2,hC⟩
end Go.Proofs.YtflhlobiipejeaaGreat
