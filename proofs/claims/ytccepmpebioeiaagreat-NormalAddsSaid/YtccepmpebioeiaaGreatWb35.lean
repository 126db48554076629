import Derived.Test.YtccepmpebioeiaaGreatWb33
import Derived.Test.YtccepmpebioeiaaGreatWb31
import Derived.Test.YtccepmpebioeiaaGreatWb26
import Derived.Test.YtccepmpebioeiaaGreatWb34
import Derived.Test.YtccepmpebioeiaaGreatWb07
import Derived.Shelf.Bits.Mul64
import Derived.Laws.IdiomCopy
import Derived.Deep.RegionLaw
import Derived.Lib.SliceRun
set_option linter.all false
set_option maxHeartbeats 8000000
namespace Go.Proofs.YtccepmpebioeiaaGreat
open Go.RowKit
def linOf (m n:Nat) (X:Nat→Nat→Rat) (y p:Nat→Rat):Lin:=⟨m,fun _=>n,fun i j=>raw (X i j),m,fun i=>raw (y i),m,fun i=>raw (p i)⟩
theorem num_pos {q:Rat} (h:0 < q):0 < q.num:=by
 rcases Int.lt_trichotomy q.num 0 with h1 | h1 | h1
 ·exact absurd h (by rw [Rat.lt_iff]; simp; omega)
 ·rw [Rat.num_eq_zero.1 h1] at h; exact absurd h (Rat.lt_irrefl)
 ·exact h1
theorem codeOf_lin {m n:Nat} {X:Nat→Nat→Rat} {y p:Nat→Rat} (hm0:0 < m) (hm:m≤64) (hn0:0 < n) (hn:n≤24) (hp:∀ i,i < m→0 < p i):codeOf (linOf m n X y p)=0:=by
 have h1:canonB (linOf m n X y p)=true:=by
  unfold canonB canonA linOf;simp only [Bool.and_eq_true];exact⟨allB_true.2 (fun i _=>allB_true.2 (fun j _=>okR_raw _)),allB_true.2 (fun i _=>okR_raw _),allB_true.2 (fun i _=>okR_raw _)⟩
 have h2:sizeB (linOf m n X y p)=true:=by
  unfold sizeB linOf;simp only [Bool.and_eq_true,decide_eq_true_eq]; omega
 have h3:fitB (linOf m n X y p)=true:=by
  unfold fitB evenB linOf;simp only [Bool.and_eq_true,decide_eq_true_eq];exact⟨allB_true.2 (fun i _=>by simp),trivial,trivial⟩
 have h4:allB m (fun i=>posB (raw (p i)))=true:=allB_true.2 (fun i hi=>by
  rw [posB_raw,decide_eq_true_eq]; exact num_pos (hp i hi))
 unfold codeOf;rw [if_neg (by rw [h1]; simp),if_neg (by rw [h2]; simp),if_neg (by rw [h3]; simp)]
 show (if allB m (fun i=>posB (raw (p i)))=false then (2:Int) else 0)=0
 rw [if_neg (by rw [h4]; simp)]
theorem linV_of {N lo hi lo2 hi2 lo3 hi3:Nat} {w:World} {v1 v2 v3:Value} {m n:Nat} {X:Nat→Nat→Rat} {y p:Nat→Rat} (h1:MtV N lo hi w v1 m n X) (h2:LsV N lo2 hi2 w v2 m y) (h3:LsV N lo3 hi3 w v3 m p) :
  LinV N 0 w.heap.size w (.agg #[v1,v2,v3]) (linOf m n X y p) :=
 ⟨v1,v2,v3,rfl,MtR.wide h1 (Nat.zero_le _) h1.2.1 (Nat.le_refl _),LsR.wide h2 (Nat.zero_le _) h2.2.1 (Nat.le_refl _),LsR.wide h3 (Nat.zero_le _) h3.2.1 (Nat.le_refl _)⟩
theorem linSz_of {m n k:Nat} {X:Nat→Nat→Rat} {y p:Nat→Rat} (hkx:HtM m n k X) (hky:HtL m k y) (hkp:HtL m k p) (hk:k≤29000000000):LinSz (linOf m n X y p) :=
 ⟨fun i hi j hj=>((hkx i hi j hj).sz hk).raw,fun i hi=>((hky i hi).sz hk).raw,fun i hi=>((hkp i hi).sz hk).raw⟩
theorem m_made_turned {N:Nat} {w:World} (hN:N≤w.heap.size) (m n:Nat) {M' N':Int} (hM':M'=(m:Int)) (hN':N'=(n:Int)) (hm:m < 1000000) (hn:n < 1000000) (X:Nat→Nat→Rat) {gb:Nat}
  (hf:∀ i,i < m→∀ j,j < n→∀ w',Ext w w'→Calls Tryz.prog 173 #[.int .i64 (i:Int),.int .i64 (j:Int),.pointer (some ⟨gb,0,none⟩)] w' (RetR N w' (X i j))) :
  Calls Tryz.prog 120 #[.int .i64 M',.int .i64 N',.func (.func 173) #[] #[.pointer (some ⟨gb,0,none⟩)]] w (RetOwn N w m n X):=by
 subst hM' hN';have HF:=Lib.hid hf;clear hf;go_enter Tryz.func120,Tryz.ntmps120;go_wp2_with (at_make; refine Hid.out ?_);refine wpList_make_rows rfl _ _ rfl .i64 .i64 _ _ m rfl rfl rfl rfl hm ?_;intro w1 cs B0 hcs e1;have ho:OwnM N w.heap.size w1.heap.size w1 w.heap.size m 0 n (fun _=>0) (fun _=>0) X:=OwnM.start hN (Nat.le_refl _) B0 hcs X (blk_lt B0) (Nat.le_refl _);have hs1:w.heap.size < w1.heap.size:=blk_lt B0;clear B0;have HCS:=Lib.hid hcs;clear hcs;go_wp2
 go_loopw [14] (fun i wr=>∃ k:Nat,k≤m∧i=.int .i64 k∧Ext w wr∧∃ β κ,OwnM N w.heap.size wr.heap.size wr w.heap.size m k n β κ X) (fun i _=>m - (intOf i).toNat)
 case atStart=>exact⟨0,Nat.zero_le _,rfl,e1,_,_,ho⟩
 case round =>
  clear ho e1;obtain⟨k,hk,rfl,hE,β,κ,ho⟩:=hrel;have hsr:w.heap.size < wr.heap.size:=by have:=ho.hhi; omega
  by_cases hlt:k < m
  ·go_wp2_with (at_make; refine Hid.out ?_);refine wpList_make_rats rfl _ _ rfl .i64 .i64 _ _ n rfl rfl rfl rfl hn ?_;intro w2 cs2 B2 hcs2 e2;have ho2:=ho.ext e2;have hR:RowB N w2 wr.heap.size n 0 (X k):=⟨by omega,Nat.zero_le _,⟨cs2,B2,hcs2⟩,fun j hj=>by omega⟩
   obtain⟨u0,z0⟩:=ho2.hthere hlt;have z1:=ho2.hfrozen k;have hs2:wr.heap.size < w2.heap.size:=blk_lt B2;have HCS2:=Lib.hid hcs2;clear B2 hcs2 ho;go_upto_region 6 with (fail);obtain⟨w3,E3,C3,hs3,y0,ho3⟩:=ho2.setHead (Nat.le_refl k) hlt (.slice (some ⟨wr.heap.size,0,none⟩) n n);rw [E3];replace hE:=C3.ext (hE.trans e2) (Nat.le_refl _);replace hR:=hR.chg C3 (by omega) (by omega);have hs4:wr.heap.size < w3.heap.size:=by omega
   generalize hgr:wr.heap.size=gr at *
   clear hgr E3 C3 hs3 ho2 z0 z1 e2 hs2;have Y0:=y0;go_wp2
   go_loopw [27] (fun i ws=>∃ j:Nat,j≤n∧i=.int .i64 j∧Ext w ws∧gr < ws.heap.size∧ws.cell? ⟨w.heap.size,k,none⟩=some (.slice (some ⟨gr,0,none⟩) n n)∧OwnM N w.heap.size gr ws w.heap.size m k n β κ X∧RowB N ws gr n j (X k)) (fun i _=>n - (intOf i).toNat)
   case atStart=>exact⟨0,Nat.zero_le _,rfl,hE,hs4,y0,ho3,hR⟩
   case round =>
    clear hE y0 ho3 hR hs4 Y0;obtain⟨j,hj,rfl,hE,hs4,y0,ho3,hR⟩:=hrel
    by_cases hlt':j < n
    ·go_upto_region 9 with (fail);have eC:=(Ext.refl wr).drew;refine region_late (fun w'=>w'.cell? ⟨w.heap.size,k,none⟩=some (.slice (some ⟨gr,0,none⟩) n n)) [10] (by kernel_rfl) (by exact eC.cell y0) (fun hHeld=>?_);refine sP 0 (h:=?_);try simp only [nr]
     refine sP 1 (h:=?_);try simp only [nr]
     refine sP 2 (h:=?_);try simp only [nr]
     refine sT 3 (h:=?_);try simp only [nr]
     refine sP 4 (h:=?_);try simp only [nr]
     refine sP 5 (h:=?_);try simp only [nr]
     refine sP 6 (h:=?_);try simp only [nr]
     refine sP 7 (h:=?_);try simp only [nr]
     refine stepL_only (i:=8) rfl (by kernel_rfl) (fun K hK=>?_);go_simp;refine (HF.out k hlt j hlt' _ (hE.trans eC)).mono ?_;intro e w5 hh;obtain⟨b9,A9,k9,c9,A10,k10,c10,rfl,hb9,g9,g10,e5⟩:=hh.form;replace eC:=eC.trans e5;have hR5:=hR.ext eC;obtain⟨x0,v0⟩:=hR5.there (o:=j*4) (by omega);obtain⟨x1,v1⟩:=hR5.there (o:=j*4+1) (by omega);obtain⟨x2,v2⟩:=hR5.there (o:=j*4+2) (by omega);obtain⟨x3,v3⟩:=hR5.there (o:=j*4+3) (by omega);have f0:=hR5.frozen (j*4);have f1:=hR5.frozen (j*4+1);have f2:=hR5.frozen (j*4+2);have f3:=hR5.frozen (j*4+3);go_wp2_with fail;clear hHeld;refine hK.out _ _ (by exact eC.cell y0) fun hHeld=>?_
     clear hK K;try simp only [nr]
     refine sP 9 (h:=?_);try simp only [nr]
     refine stepL_late (i:=10) rfl (by kernel_rfl) (by kernel_rfl) (fun K hK=>?_);go_simp;refine hK.out _ _ ?_;clear hK K;try simp only [nr]
     refine stepL_done (by kernel_rfl) ?_ _;clear hHeld;obtain⟨w6,E6,C6,hs6,hr6⟩:=hR5.set (i:=j) (q:=X k j) hlt' (Nat.le_refl _) hb9 g9 g10;rw [E6];replace hE:=C6.ext (hE.trans eC) (by omega);replace ho3:=(ho3.ext eC).chg C6 (by omega) (.inl (Nat.le_refl _));replace y0:=C6.cell (p:=⟨w.heap.size,k,none⟩) (eC.cell y0) (.inl (by simp only; omega));have hr7:=(hr6.less (n':=j+1) (by omega)).congr (y:=X k) (fun c hc=>by unfold upd; split; (rename_i e; rw [e]); rfl);have hs7:gr < w6.heap.size:=by have:=eC.size; omega
     clear E6 C6 hs6 hr6 hR hR5 v0 v1 v2 v3 f0 f1 f2 f3;go_wp2;go_roundw
     case rel=>exact⟨j+1,by omega,by go_num,hE,hs7,y0,ho3,hr7⟩
     case measure=>simp [intOf]; omega
    ·obtain rfl:j=n:=by omega
     have ho4:=(ho3.more hlt y0 hR (Nat.le_refl _) (by unfold maxLen; omega)).congr (B:=X) (fun i _ c _=>by unfold updM; split; (rename_i e; rw [e]); rfl);go_wp2;go_roundw
     case rel=>exact⟨k+1,by omega,by go_num,hE,_,_,ho4⟩
     case measure=>simp [intOf]; omega
  ·obtain rfl:k=m:=by omega
   go_wp2;go_ret;exact⟨_,_,β,κ,rfl,by unfold maxLen; omega,ho,hE⟩
theorem m_made_column {N:Nat} {w:World} (hN:N≤w.heap.size) (m n:Nat) {M' N':Int} (hM':M'=(m:Int)) (hN':N'=(n:Int)) (hm:m < 1000000) (hn:n < 1000000) (X:Nat→Nat→Rat) {gb:Nat}
  (hf:∀ i,i < m→∀ j,j < n→∀ w',Ext w w'→Calls Tryz.prog 198 #[.int .i64 (i:Int),.int .i64 (j:Int),.pointer (some ⟨gb,0,none⟩)] w' (RetR N w' (X i j))) :
  Calls Tryz.prog 120 #[.int .i64 M',.int .i64 N',.func (.func 198) #[] #[.pointer (some ⟨gb,0,none⟩)]] w (RetOwn N w m n X):=by
 subst hM' hN';have HF:=Lib.hid hf;clear hf;go_enter Tryz.func120,Tryz.ntmps120;go_wp2_with (at_make; refine Hid.out ?_);refine wpList_make_rows rfl _ _ rfl .i64 .i64 _ _ m rfl rfl rfl rfl hm ?_;intro w1 cs B0 hcs e1;have ho:OwnM N w.heap.size w1.heap.size w1 w.heap.size m 0 n (fun _=>0) (fun _=>0) X:=OwnM.start hN (Nat.le_refl _) B0 hcs X (blk_lt B0) (Nat.le_refl _);have hs1:w.heap.size < w1.heap.size:=blk_lt B0;clear B0;have HCS:=Lib.hid hcs;clear hcs;go_wp2
 go_loopw [14] (fun i wr=>∃ k:Nat,k≤m∧i=.int .i64 k∧Ext w wr∧∃ β κ,OwnM N w.heap.size wr.heap.size wr w.heap.size m k n β κ X) (fun i _=>m - (intOf i).toNat)
 case atStart=>exact⟨0,Nat.zero_le _,rfl,e1,_,_,ho⟩
 case round =>
  clear ho e1;obtain⟨k,hk,rfl,hE,β,κ,ho⟩:=hrel;have hsr:w.heap.size < wr.heap.size:=by have:=ho.hhi; omega
  by_cases hlt:k < m
  ·go_wp2_with (at_make; refine Hid.out ?_);refine wpList_make_rats rfl _ _ rfl .i64 .i64 _ _ n rfl rfl rfl rfl hn ?_;intro w2 cs2 B2 hcs2 e2;have ho2:=ho.ext e2;have hR:RowB N w2 wr.heap.size n 0 (X k):=⟨by omega,Nat.zero_le _,⟨cs2,B2,hcs2⟩,fun j hj=>by omega⟩
   obtain⟨u0,z0⟩:=ho2.hthere hlt;have z1:=ho2.hfrozen k;have hs2:wr.heap.size < w2.heap.size:=blk_lt B2;have HCS2:=Lib.hid hcs2;clear B2 hcs2 ho;go_upto_region 6 with (fail);obtain⟨w3,E3,C3,hs3,y0,ho3⟩:=ho2.setHead (Nat.le_refl k) hlt (.slice (some ⟨wr.heap.size,0,none⟩) n n);rw [E3];replace hE:=C3.ext (hE.trans e2) (Nat.le_refl _);replace hR:=hR.chg C3 (by omega) (by omega);have hs4:wr.heap.size < w3.heap.size:=by omega
   generalize hgr:wr.heap.size=gr at *
   clear hgr E3 C3 hs3 ho2 z0 z1 e2 hs2;have Y0:=y0;go_wp2
   go_loopw [27] (fun i ws=>∃ j:Nat,j≤n∧i=.int .i64 j∧Ext w ws∧gr < ws.heap.size∧ws.cell? ⟨w.heap.size,k,none⟩=some (.slice (some ⟨gr,0,none⟩) n n)∧OwnM N w.heap.size gr ws w.heap.size m k n β κ X∧RowB N ws gr n j (X k)) (fun i _=>n - (intOf i).toNat)
   case atStart=>exact⟨0,Nat.zero_le _,rfl,hE,hs4,y0,ho3,hR⟩
   case round =>
    clear hE y0 ho3 hR hs4 Y0;obtain⟨j,hj,rfl,hE,hs4,y0,ho3,hR⟩:=hrel
    by_cases hlt':j < n
    ·go_upto_region 9 with (fail);have eC:=(Ext.refl wr).drew;refine region_late (fun w'=>w'.cell? ⟨w.heap.size,k,none⟩=some (.slice (some ⟨gr,0,none⟩) n n)) [10] (by kernel_rfl) (by exact eC.cell y0) (fun hHeld=>?_);refine sP 0 (h:=?_);try simp only [nr]
     refine sP 1 (h:=?_);try simp only [nr]
     refine sP 2 (h:=?_);try simp only [nr]
     refine sT 3 (h:=?_);try simp only [nr]
     refine sP 4 (h:=?_);try simp only [nr]
     refine sP 5 (h:=?_);try simp only [nr]
     refine sP 6 (h:=?_);try simp only [nr]
     refine sP 7 (h:=?_);try simp only [nr]
     refine stepL_only (i:=8) rfl (by kernel_rfl) (fun K hK=>?_);go_simp;refine (HF.out k hlt j hlt' _ (hE.trans eC)).mono ?_;intro e w5 hh;obtain⟨b9,A9,k9,c9,A10,k10,c10,rfl,hb9,g9,g10,e5⟩:=hh.form;replace eC:=eC.trans e5;have hR5:=hR.ext eC;obtain⟨x0,v0⟩:=hR5.there (o:=j*4) (by omega);obtain⟨x1,v1⟩:=hR5.there (o:=j*4+1) (by omega);obtain⟨x2,v2⟩:=hR5.there (o:=j*4+2) (by omega);obtain⟨x3,v3⟩:=hR5.there (o:=j*4+3) (by omega);have f0:=hR5.frozen (j*4);have f1:=hR5.frozen (j*4+1);have f2:=hR5.frozen (j*4+2);have f3:=hR5.frozen (j*4+3);go_wp2_with fail;clear hHeld;refine hK.out _ _ (by exact eC.cell y0) fun hHeld=>?_
     clear hK K;try simp only [nr]
     refine sP 9 (h:=?_);try simp only [nr]
     refine stepL_late (i:=10) rfl (by kernel_rfl) (by kernel_rfl) (fun K hK=>?_);go_simp;refine hK.out _ _ ?_;clear hK K;try simp only [nr]
     refine stepL_done (by kernel_rfl) ?_ _;clear hHeld;obtain⟨w6,E6,C6,hs6,hr6⟩:=hR5.set (i:=j) (q:=X k j) hlt' (Nat.le_refl _) hb9 g9 g10;rw [E6];replace hE:=C6.ext (hE.trans eC) (by omega);replace ho3:=(ho3.ext eC).chg C6 (by omega) (.inl (Nat.le_refl _));replace y0:=C6.cell (p:=⟨w.heap.size,k,none⟩) (eC.cell y0) (.inl (by simp only; omega));have hr7:=(hr6.less (n':=j+1) (by omega)).congr (y:=X k) (fun c hc=>by unfold upd; split; (rename_i e; rw [e]); rfl);have hs7:gr < w6.heap.size:=by have:=eC.size; omega
     clear E6 C6 hs6 hr6 hR hR5 v0 v1 v2 v3 f0 f1 f2 f3;go_wp2;go_roundw
     case rel=>exact⟨j+1,by omega,by go_num,hE,hs7,y0,ho3,hr7⟩
     case measure=>simp [intOf]; omega
    ·obtain rfl:j=n:=by omega
     have ho4:=(ho3.more hlt y0 hR (Nat.le_refl _) (by unfold maxLen; omega)).congr (B:=X) (fun i _ c _=>by unfold updM; split; (rename_i e; rw [e]); rfl);go_wp2;go_roundw
     case rel=>exact⟨k+1,by omega,by go_num,hE,_,_,ho4⟩
     case measure=>simp [intOf]; omega
  ·obtain rfl:k=m:=by omega
   go_wp2;go_ret;exact⟨_,_,β,κ,rfl,by unfold maxLen; omega,ho,hE⟩
theorem m_turned1 {N lo hi:Nat} {w:World} {gb:Nat} {A:Option Addr} {m n c:Nat} {X:Nat→Nat→Rat} (hb:w.cell? ⟨gb,0,none⟩=some (.slice A m c)) (h:MtV N lo hi w (.slice A m c) m n X) {i j:Nat} (hi':i < n) (hj:j < m) (hm:m < 1000000) (hn:n < 1000000) :
  Calls Tryz.prog 173 #[.int .i64 (i:Int),.int .i64 (j:Int),.pointer (some ⟨gb,0,none⟩)] w (RetR N w (X j i)):=by
 have hN:=h.le;obtain⟨b,off,rfl,-,-,hx⟩:=h.addr (by omega);obtain⟨A1,c1,p0,-,-,hl⟩:=hx j hj;obtain⟨b2,off2,rfl,-,-,hx⟩:=hl.addr (by omega);obtain⟨n1,A3,k3,c3,A4,k4,c4,q0,q1,q2,q3,hb1,g1,g2⟩:=(hx i hi').open;have l0:=cell_lt hb;have l1:=cell_lt p0;have l2:=cell_lt q0;simp only at l0 l1 l2;obtain⟨q,hq⟩:=hid_eq (X j i);rw [←hq.out] at hb1 g1 g2 ⊢;clear hx hl h;go_enter Tryz.func173,Tryz.ntmps173;go_wp2;have eA:=(Ext.refl w).alloc (Obj.cells #[Value.bool n1,Value.slice A3 k3 c3,Value.bool false,Value.slice A4 k4 c4] 44);exact fin_ratB rfl rfl rfl eA (BoxR.mk (heap_alloc_new w _) hb1 (g1.ext eA) (g2.ext eA))
theorem m_turned {N lo hi:Nat} {w:World} {v:Value} {m n:Nat} {X:Nat→Nat→Rat} (h:MtV N lo hi w v m n X) (hm0:0 < m) (hm:m < 1000000) (hn:n < 1000000) :
  Calls Tryz.prog 125 #[v] w (RetOwn N w n m (fun i j=>X j i)):=by
 have hN:=h.le;obtain⟨A,c,rfl,hmc,hcm⟩:=h.form;have hI:=h;obtain⟨Z,hZ⟩:=hid_eq (fun i j=>X j i);have HZ:Hid (∀ i j,X j i=Z i j):=fun i j=>by rw [hZ.out]
 rw [←hZ.out];obtain⟨b,off,rfl,-,-,hx⟩:=h.addr hm0;obtain⟨A1,c1,p0,hnc,hcm1,-⟩:=hx 0 hm0;rw [Nat.add_zero] at p0;have l0:=cell_lt p0;simp only at l0;clear h hx;go_enter Tryz.func125,Tryz.ntmps125;go_upto_region 1 with (fail);refine boxes1 ?_;intro W hE hsz B0;obtain⟨a0,-⟩:=cells1 B0;replace p0:=hE.cell p0;have eC:=(Ext.refl W).drew;refine region_late (fun w'=>w'.cell? ⟨w.heap.size,0,none⟩=some (.slice (some ⟨b,off,none⟩) m c)∧w'.cell? ⟨b,off,none⟩=some (.slice A1 n c1)) [] (by kernel_rfl) (by exact⟨eC.cell a0,eC.cell p0⟩) (fun hHeld=>?_);refine sT 0 (h:=?_);try simp only [nr]
 refine sP 1 (h:=?_);try simp only [nr]
 refine sT 2 (h:=?_);try simp only [nr]
 refine sP 3 (h:=?_);try simp only [nr]
 refine sT 4 (h:=?_);try simp only [nr]
 refine sP 5 (h:=?_);try simp only [nr]
 refine sP 6 (h:=?_);try simp only [nr]
 refine stepL_only (i:=7) rfl (by kernel_rfl) (fun K hK=>?_);go_simp;refine (m_made_turned (N:=N) (by have:=hE.size; show N≤W.heap.size; omega) n m rfl rfl hn hm Z (fun i hi' j hj w' e=>by rw [←HZ.out i j]; exact m_turned1 ((eC.trans e).cell a0) (hI.ext (hE.trans (eC.trans e))) hi' hj hm hn)).mono ?_;rintro e w2 ⟨h2,cap2,β2,κ2,rfl,hcap2,ho2,e2⟩;replace eC:=eC.trans e2;go_wp2_with fail;clear hHeld;refine hK.out _ _ (by exact⟨eC.cell a0,eC.cell p0⟩) fun hHeld=>?_
 clear hK K;try simp only [nr]
 refine sP 8 (h:=?_);try simp only [nr]
 refine stepL_done (by kernel_rfl) ?_ _;clear hHeld;go_wp2;go_ret;exact⟨h2,cap2,β2,κ2,rfl,hcap2,ho2.wide (by have:=hE.size; show w.heap.size≤W.heap.size; omega) hN (Nat.le_refl _) (Nat.le_refl _),hE.trans eC⟩
def RetOwn2 (N:Nat) (w:World) (m n:Nat) (A:Nat→Nat→Rat) (e:Ending) (w':World):Prop:=∃ h cap β κ,e=.returned (.tuple #[.slice (some ⟨h,0,none⟩) m cap,.int .i64 0])∧cap≤maxLen∧OwnM N w.heap.size w'.heap.size w' h cap m n β κ A∧Ext w w'
theorem m_column1 {N lo hi:Nat} {w:World} {gb:Nat} {A:Option Addr} {n c:Nat} {x:Nat→Rat} (hb:w.cell? ⟨gb,0,none⟩=some (.slice A n c)) (h:LsV N lo hi w (.slice A n c) n x) {i j:Nat} (hi':i < n) (hj:j < 1000000) (hn:n < 1000000) :
  Calls Tryz.prog 198 #[.int .i64 (i:Int),.int .i64 (j:Int),.pointer (some ⟨gb,0,none⟩)] w (RetR N w (x i)):=by
 have hN:=h.le;obtain⟨b2,off2,rfl,-,-,hx⟩:=h.addr (by omega);obtain⟨n1,A3,k3,c3,A4,k4,c4,q0,q1,q2,q3,hb1,g1,g2⟩:=(hx i hi').open;have l0:=cell_lt hb;have l2:=cell_lt q0;simp only at l0 l2;obtain⟨q,hq⟩:=hid_eq (x i);rw [←hq.out] at hb1 g1 g2 ⊢;clear hx h;go_enter Tryz.func198,Tryz.ntmps198;go_wp2;have eA:=(Ext.refl w).alloc (Obj.cells #[Value.bool n1,Value.slice A3 k3 c3,Value.bool false,Value.slice A4 k4 c4] 44);exact fin_ratB rfl rfl rfl eA (BoxR.mk (heap_alloc_new w _) hb1 (g1.ext eA) (g2.ext eA))
theorem m_column {N lo hi:Nat} {w:World} {v:Value} {n:Nat} {x:Nat→Rat} (h:LsV N lo hi w v n x) (hn:n < 1000000) :
  Calls Tryz.prog 167 #[v] w (RetOwn N w n 1 (fun i _=>x i)):=by
 have hN:=h.le;obtain⟨A,c,rfl,hmc,hcm⟩:=h.form;have hI:=h;clear h;go_enter Tryz.func167,Tryz.ntmps167;go_wp2_with (go_at_call 120; refine Hid.out ?_);refine boxesC1 ?_;intro W hE hsz B0;obtain⟨a0,-⟩:=cells1 B0;refine (m_made_column (N:=N) (by have:=hE.size; omega) n 1 rfl rfl hn (by omega) (fun i _=>x i) (fun i hi' j hj w' e=>m_column1 (e.cell a0) (hI.ext (hE.trans e)) hi' (by omega) hn)).mono ?_;rintro e w2 ⟨h2,cap2,β2,κ2,rfl,hcap2,ho2,e2⟩;have hs1:=hE.size;go_wp2;go_ret;exact⟨h2,cap2,β2,κ2,rfl,hcap2,ho2.wide hs1 hN (Nat.le_refl _) (Nat.le_refl _),hE.trans e2⟩
theorem m_solve1 {w:World} {gb:Nat} {A:Option Addr} {m c:Nat} (hb:w.cell? ⟨gb,0,none⟩=some (.slice A m c)) (hc:c≤maxLen) (hm:m≤c) :
  Calls Tryz.prog 166 #[.pointer (some ⟨gb,0,none⟩)] w (RetV w (.int .i64 (m:Int))):=by
 unfold maxLen at hc;go_enter Tryz.func166,Tryz.ntmps166;go_wp2;go_ret;exact⟨rfl,Ext.refl w⟩
theorem m_list2 {N lo hi lo' hi':Nat} {w:World} {u:Value} {gb:Nat} {A:Option Addr} {m n c:Nat} {X:Nat→Nat→Rat} {x:Nat→Rat} (hb:w.cell? ⟨gb,0,none⟩=some (.slice A m c)) (h:MtV N lo hi w (.slice A m c) m n X) (h':LsV N lo' hi' w u m x) (hm0:0 < m) (hm:m≤64) (hn0:0 < n) (hn:n≤64) (hs:∀ i,i < m→∀ j,j < n→Sz (X i j)) (hs':∀ i,i < m→Sz (x i)) :
  Calls Tryz.prog 130 #[.slice A m c,u,.func (.func 166) #[] #[.pointer (some ⟨gb,0,none⟩)]] w (RetV w (.int .i64 0)):=by
 obtain⟨A1,c1,rfl,hn1,hm1⟩:=h'.form;obtain⟨_,_,hv,hmc,hcm⟩:=h.form;injection hv with e1 e2 e3
 subst e1 e3;clear e2;have HMC:=Lib.hid hmc;have HCM:=Lib.hid hcm;clear hmc hcm;unfold maxLen at hm1;have hI:=h;have hI':=h';have HS:=Lib.hid hs;have HS':=Lib.hid hs';have t1:((m:Int) != (m:Int))=false:=by simp
 clear h h' hs hs';go_enter Tryz.func130,Tryz.ntmps130;go_wp2_with (go_at_call 169; refine Hid.out ?_);refine (m_check hI hm0 hm hn0 hn HS.out).mono ?_;rintro e w1 ⟨rfl,e1⟩;go_wp2_with (go_at_call 174; refine Hid.out ?_);refine (m_canonicalV (hI'.ext e1) HS'.out).mono ?_;rintro e w2 ⟨rfl,e2⟩;go_wp2_with (go_at_call 166; refine Hid.out ?_);refine (m_solve1 ((e1.trans e2).cell hb) HCM.out HMC.out).mono ?_;rintro e w3 ⟨rfl,e3⟩;go_wp2;go_ret;exact⟨rfl,(e1.trans e2).trans e3⟩
theorem solve_end (m n:Nat) (Y:Nat→Nat→Rat) :
  ((∃ i,(rref m Y n).2.length≤i∧i < m∧(rref m Y n).1 i n≠0)→(rref m Y (n+1)).2.contains n=true) ∧
  ((∀ i,(rref m Y n).2.length≤i→i < m→(rref m Y n).1 i n=0)→rref m Y (n+1)=rref m Y n∧(rref m Y (n+1)).2.contains n=false):=by
 have hl:=(rref_ok m Y n).len
 constructor
 ·rintro⟨i,h1,h2,h3⟩;obtain⟨s1,s2,s3,s4⟩:=seek_spec (rref m Y n).1 m n (m - (rref m Y n).2.length) (rref m Y n).2.length (Nat.le_refl _) hl
  have ha:seek (rref m Y n).1 m n (m - (rref m Y n).2.length) (rref m Y n).2.length < m:=by
   rcases Nat.lt_or_ge (seek (rref m Y n).1 m n (m - (rref m Y n).2.length) (rref m Y n).2.length) m with h | h
   ·exact h
   ·exact absurd (s3 i h1 (by omega)) h3
  rw [rref_step ha rfl]
  simp
 ·intro h;have e:=rref_skip (X:=Y) (seek_none hl h);refine⟨e,?_⟩;rw [e];cases hc:(rref m Y n).2.contains n with
  | false=>rfl
  | true =>
   rw [List.contains_iff_mem] at hc;obtain⟨s,hs,he⟩:=List.getElem_of_mem hc;have:=(rref_ok m Y n).low s hs;rw [List.getElem?_eq_getElem hs] at this;simp only [Option.getD_some] at this;omega
def RetSolM (N:Nat) (w:World) (n:Nat) (ok:Bool) (x:Nat→Rat) (e:Ending) (w':World):Prop :=
 Ext w w'∧((ok=false∧e=.returned (.tuple #[.slice none 0 0,.int .i64 6]))∨(ok=true∧∃ A c,e=.returned (.tuple #[.slice A n c,.int .i64 0])∧LsV N w.heap.size w'.heap.size w' (.slice A n c) n x))
def Mn.own (N lo m n:Nat) (X:Nat→Nat→Rat):Mn:=⟨fun v w=>∃ h cap β κ hi,v=.slice (some ⟨h,0,none⟩) m cap∧cap≤maxLen∧OwnM N lo hi w h cap m n β κ X,fun e h=>by
  obtain⟨h,cap,β,κ,hi,h0,h1,h2⟩:=h
  exact⟨h,cap,β,κ,hi,h0,h1,h2.ext e⟩⟩
theorem aug_ht {m n q:Nat} {X:Nat→Nat→Rat} {y:Nat→Rat} (hq:HtM m n q X) (hq':HtL m q y):HtM m (n+1) q (aug n X y):=fun i hi c hc=>by
 unfold aug; split
 ·exact hq i hi c (by assumption)
 ·exact hq' i hi
set_option maxRecDepth 100000 in
theorem m_solve {N lo hi lo' hi':Nat} {w:World} {v v':Value} {m n:Nat} {X:Nat→Nat→Rat} {y:Nat→Rat} (h:MtV N lo hi w v m n X) (h':LsV N lo' hi' w v' m y) (hm0:0 < m) (hm:m≤64) (hn0:0 < n) (hn:n≤64)
  {q P:Nat} (hq:HtM m n q X) (hq':HtL m q y) (hP:m≤P∨n≤P) (hK:5*(5 ^ P*q)≤29000000000) :
  Calls Tryz.prog 114 #[v,v'] w (RetSolM N w n (!(rref m (aug n X y) (n+1)).2.contains n) (sol n (rref m (aug n X y) (n+1)).1 (rref m (aug n X y) (n+1)).2)):=by
 have hI:=h;have hI':=h';have hN:=h.le;have hqq:q≤5 ^ P*q:=Nat.le_mul_of_pos_left _ (Nat.pow_pos (by omega));have HSX:Hid (∀ i,i < m→∀ j,j < n→Sz (X i j)):=fun i hi j hj=>(hq i hi j hj).sz (by omega)
 have HSY:Hid (∀ i,i < m→Sz (y i)):=fun i hi=>(hq' i hi).sz (by omega)
 have HE:Hid (∀ w1 lo1 hi1 h1 cap1 β1 κ1 cc,OwnM N lo1 hi1 w1 h1 cap1 m (n+1) β1 κ1 (aug n X y)→Calls Tryz.prog 122 #[.slice (some ⟨h1,0,none⟩) m cc,.int .i64 (n:Int)] w1 (RetRed N lo1 hi1 w1 h1 cap1 m (n+1) (rref m (aug n X y) n).1 (rref m (aug n X y) n).2)) :=
  fun w1 lo1 hi1 h1 cap1 β1 κ1 cc o=>m_reduce o (by omega) (by omega) n rfl (by omega) (aug_ht hq hq') hP hK
 have hR:=rref_ok m (aug n X y) n;have hRh:HtM m (n+1) (5 ^ P*q) (rref m (aug n X y) n).1:=rref_ht' (aug_ht hq hq') (by omega) hP;have hEnd:=solve_end m n (aug n X y);obtain⟨Rf,hRf⟩:=hid_eq (RetSolM N w n (!(rref m (aug n X y) (n+1)).2.contains n) (sol n (rref m (aug n X y) (n+1)).1 (rref m (aug n X y) (n+1)).2));rw [←hRf.out];obtain⟨M,hM⟩:=hid_eq (rref m (aug n X y) n).1;obtain⟨p,hp⟩:=hid_eq (rref m (aug n X y) n).2
 have HBAD:Hid ((∃ i,p.length≤i∧i < m∧M i n≠0)→Rf=RetSolM N w n false (fun _=>0)):=fun h9=>by
  rw [hM.out,hp.out] at h9;have h8:=hEnd.1 h9;rw [hRf.out,h8]
  funext e w'
  refine propext ⟨fun ⟨a,b⟩=>⟨a,?_⟩,fun ⟨a,b⟩=>⟨a,?_⟩⟩
  ·rcases b with b | ⟨b,-⟩
   ·exact .inl b
   ·cases b
  ·rcases b with b | ⟨b,-⟩
   ·exact .inl b
   ·cases b
 have HGOOD:Hid ((∀ i,p.length≤i→i < m→M i n=0)→Rf=RetSolM N w n true (sol n M p)):=fun h9=>by
  rw [hM.out,hp.out] at h9;obtain⟨h8,h7⟩:=hEnd.2 h9;rw [hRf.out,h7,h8,hM.out,hp.out]; rfl
 rw [←hM.out,←hp.out] at HE hR;rw [←hM.out] at hRh;have HR:=Lib.hid hR;have HRH:Hid (∀ i,i < m→Sz (M i n)):=fun i hi=>(hRh i hi n (by omega)).sz (by omega)
 obtain⟨np,hnp⟩:=hid_eq p.length;have hnpm:np≤m:=by rw [hnp.out]; exact hR.len
 rw [←hnp.out] at HBAD HGOOD;obtain⟨A,c,rfl,hmc,hcm⟩:=h.form;obtain⟨A0,c0,rfl,hmc0,hcm0⟩:=h'.form;unfold maxLen at hcm hcm0;obtain⟨b,off,rfl,-,-,hx⟩:=h.addr hm0;obtain⟨A1,c1,pp0,hnc,hcm1,-⟩:=hx 0 hm0;rw [Nat.add_zero] at pp0;unfold maxLen at hcm1;obtain⟨Y,hY⟩:=hid_eq (aug n X y);rw [←hY.out] at HE;clear h h' hx hR hRh hq hq' hP hK hqq hEnd;go_enter Tryz.func114,Tryz.ntmps114;go_wp2_with (go_at_call 130; refine Hid.out ?_);refine boxesC1 ?_;intro W hE hsz B0;obtain⟨a0,-⟩:=cells1 B0;refine (m_list2 a0 (hI.ext hE) (hI'.ext hE) hm0 hm hn0 hn HSX.out HSY.out).mono ?_;rintro e w1 ⟨rfl,e1⟩;replace hE:=hE.trans e1;replace B0:=e1.block B0;have hl0:=blk_lt B0;clear a0 e1 hsz;obtain⟨a0,-⟩:=cells1 B0;have p0:=hE.cell pp0;go_upto_region 5 with (fail);refine regI [Mn.eq (.slice (some ⟨b,off,none⟩) m c),Mn.eq (.slice A0 m c0),Mn.mt N m 1 (fun i _=>y i),Mn.own N w.heap.size m (n+1) Y,Mn.own N w.heap.size m (n+1) Y] [some 27,some 28,some 29,some 30,some 8] [] [true,true,true,true,true] 0 (by kernel_rfl) ?_ ?_
 ·show ∀ i,i < 5→_
  iterate 5 refine fs ?_ ?_
  ·exact fz
  all_goals intro hl
  all_goals clear hl
  all_goals refine stp rfl ?_
  all_goals intro ac wi eI hB hA K hK
  have o2:=oOf (hB 2 (by kernel_rfl)) rfl;have cc0:=eI.cell a0
  rotate_left
  have o1:=oOf (hB 1 (by kernel_rfl)) rfl
  rotate_left
  obtain⟨x28,s28,j28⟩:=hA 1 (by kernel_rfl) 28 rfl;obtain rfl:x28=(.slice A0 m c0):=j28;clear hB hA
  ·go_simp;refine (m_column (hI'.ext (hE.trans eI)) (by omega)).mono ?_;intro e wj hh;obtain⟨Aj,cj,rfl,hj,ej⟩:=hh.mt;go_wp2_with fail;exact hK.out _ _ ej (MtR.wide hj (Nat.zero_le _) (Nat.le_refl _) (Nat.le_refl _))
  obtain⟨x27,s27,j27⟩:=hA 0 (by kernel_rfl) 27 rfl;obtain rfl:x27=(.slice (some ⟨b,off,none⟩) m c):=j27;obtain⟨x29,s29,j29⟩:=hA 2 (by kernel_rfl) 29 rfl;replace j29:Mn.p (Mn.mt N m 1 (fun i _=>y i)) x29 wi:=j29;clear hB hA
  ·go_simp;refine (m_beside (hI.ext (hE.trans eI)) j29 hm0 (by omega) (by omega) (by omega)).mono ?_;rintro e wj ⟨hb,capb,βb,κb,rfl,hcb,hob,ej⟩;go_wp2_with fail
   have hob2:OwnM N w.heap.size wj.heap.size wj hb capb m (n+1) βb κb Y:=by
    rw [hY.out];exact hob.wide (by have:=hE.size; have:=eI.size; omega) hN (Nat.le_refl _) (Nat.le_refl _)
   exact hK.out _ _ ej ⟨_,_,_,_,_,rfl,hcb,hob2⟩
  obtain⟨x30,s30,j30⟩:=hA 3 (by kernel_rfl) 30 rfl;replace j30:Mn.p (Mn.own N w.heap.size m (n+1) Y) x30 wi:=j30;clear hB hA
  ·go_simp;exact hK.out _ _ (Ext.refl _) j30
  all_goals clear hB hA
  all_goals go_simp
  all_goals exact hK.out _ _ (Ext.refl _) rfl
 intro vals wz eZ hJ;have J29:Mn.p (Mn.mt N m 1 (fun i _=>y i)) (vals 2) wz:=hJ 2 (by decide) (by decide);have J30:Mn.p (Mn.own N w.heap.size m (n+1) Y) (vals 3) wz:=hJ 3 (by decide) (by decide);have J8:Mn.p (Mn.own N w.heap.size m (n+1) Y) (vals 4) wz:=hJ 4 (by decide) (by decide);clear hJ;simp only [pr,Nat.reduceAdd]
 generalize vals 2=z29 at J29 ⊢
 generalize vals 3=z30 at J30 ⊢
 generalize vals 4=z8 at J8 ⊢
 refine stepL_done (by kernel_rfl) ?_ _;obtain⟨hb,capb,βb,κb,hib,rfl,hcb,ho⟩:=J8;replace hE:=hE.trans eZ;clear J29 J30 eZ a0 p0;have hcb':=hcb;unfold maxLen at hcb';have hhw:=ho.his;go_wp2_with (go_at_call 122; refine Hid.out ?_);refine (HE.out _ _ _ _ _ _ _ _ ho).mono ?_;rintro e w2 ⟨β,κ,A',c',rfl,ho2,hi2,hC2⟩;rw [←hnp.out] at hi2 ⊢;have hE2:=hC2.ext hE (Nat.le_refl _);have hs2:=hE2.size;have hsz2:=hC2.size;clear ho hC2 hE HE
 obtain⟨_,_,e9,hnc',hcc'⟩:∃ A c,(Value.slice A' np c')=.slice A np c∧np≤c∧c≤maxLen:=by
  obtain⟨a,b,d,e,f⟩:=hi2.form;rw [←hnp.out] at d e;exact⟨a,b,d,e,f⟩
 injection e9 with e9 _ e8
 subst e9 e8;unfold maxLen at hcc';have hmcb:=ho2.mle;go_upto_region 7 with (fail)
 go_cut [37,38,39] (fun pv pl pz wx=>∃ of:Nat,(np < m→of=np)∧pv=.slice (some ⟨hb,of,none⟩) (m - np) (capb - np)∧pl=.int .i64 ((m - np:Nat):Int)∧pz=.int .i64 0∧w2=wx)
 case first =>
  by_cases hqc:np=capb
  ·go_wp2
   go_meet
   have h0:m - np=0:=by omega
   have h00:capb - np=0:=by omega
   rw [h0,h00];exact⟨_,fun h=>by omega,rfl,rfl,rfl,rfl⟩
  ·go_wp2
   go_meet
   exact⟨_,fun h=>rfl,rfl,rfl,rfl,rfl⟩
 case rest =>
 obtain⟨of,hof,rfl,rfl,rfl,rfl⟩:=hcut;clear hnc' hcc';go_wp2
 go_loopw [39] (fun i wr=>∃ k:Nat,k≤m - np∧i=.int .i64 k∧Ext w2 wr∧Hid (∀ i,np≤i→i < np+k→M i n=0)) (fun i _=>(m - np) - (intOf i).toNat)
 case atStart=>exact⟨0,Nat.zero_le _,rfl,Ext.refl _,fun i h1 h2=>by omega⟩
 case round =>
  obtain⟨k,hk,rfl,hEr,HZ⟩:=hrel;have hsr:=hEr.size
  by_cases hlt:k < m - np
  ·have hk2:np+k < m:=by omega
   obtain rfl:np=of:=(hof (by omega)).symm;have hor:=ho2.ext hEr;have r0:=hor.hcell hk2;obtain⟨n1,A3,k3,c3,A4,k4,c4,t0,t1,t2,t3,-,-,-,-,hb3,g3,g4⟩:=(hor.row (np+k) hk2).at_ (i:=n) (by omega);have hnn:(n:Int) < (n:Int)+1:=by omega
   obtain⟨s1,hs1⟩:=hid_eq (M (np+k) n).num.sign;have hκ:=hor.cap (np+k) hk2;unfold maxLen at hκ;clear hor;go_wp2_with (go_at_call 86; refine Hid.out ?_);refine (f_sign (RatV.mk hb3 g3 g4) (HRH.out _ hk2)).mono ?_;rintro e w5 ⟨rfl,e5⟩;rw [←hs1.out];replace hEr:=hEr.trans e5;clear t0 t1 t2 t3 e5 g3 g4 hb3 hnn r0
   by_cases hz:s1=0
   ·have HZN:Hid (M (np+k) n=0):=by
     have h9:=hs1.out;rw [hz] at h9;have h8:(M (np+k) n).num=0:=Int.sign_eq_zero_iff_zero.1 h9.symm;exact Rat.num_eq_zero.1 h8
    clear hs1;subst hz;go_wp2;go_roundw
    case rel=>exact⟨k+1,by omega,by go_num,hEr,fun i h1 h2=>by
      by_cases h3:i=np+k
      ·rw [h3]; exact HZN.out
      ·exact HZ.out i h1 (by omega)⟩
    case measure=>simp [intOf]; omega
   ·have HB:Hid (Rf=RetSolM N w n false (fun _=>0)):=HBAD.out ⟨np+k,by omega,hk2,fun h9=>hz (by rw [hs1.out,h9]; rfl)⟩;have hz1:(s1 != 0)=true:=by simpa using hz
    clear hs1 hz;go_wp2;rw [HB.out];exact⟨hE2.trans hEr,.inl ⟨rfl,rfl⟩⟩
  ·have HG:Hid (Rf=RetSolM N w n true (sol n M p)):=HGOOD.out (fun i h1 h2=>HZ.out i h1 (by omega));clear HGOOD HBAD hRf HRH HZ;replace ho2:=ho2.ext hEr;replace hi2:=hi2.ext hEr;have hE3:=hE2.trans hEr;have hs3:=hE3.size;go_wp2_with (at_make; refine Hid.out ?_);refine wpList_make_rats rfl _ _ rfl .i64 .i64 _ _ n rfl rfl rfl rfl (by omega) ?_;intro w3 cs2 B2 hcs2 e2;have hR:RowB N w3 wr.heap.size n 0 (fun _=>0):=⟨by omega,Nat.zero_le _,⟨cs2,B2,hcs2⟩,fun j hj=>by omega⟩
   have hs4:wr.heap.size < w3.heap.size:=blk_lt B2;obtain⟨gx,hgx⟩:∃ gx,gx=wr.heap.size:=⟨_,rfl⟩
   rw [←hgx] at hR hs4 ⊢;have hgx1:w.heap.size≤gx:=by omega
   have hgx2:w2.heap.size≤gx:=by omega
   have hgx3:hib≤gx:=by have:=ho2.his; omega
   replace hE3:=hE3.trans e2;replace ho2:=ho2.ext e2;replace hi2:=hi2.ext e2;clear B2 hcs2 cs2 hgx e2 hEr hE2;go_wp2
   go_loopw [54,13] (fun i _ ws=>∃ j:Nat,j≤n∧i=.int .i64 j∧Ext w ws∧Chg gx (gx+1) w3 ws∧RowB N ws gx n j (fun _=>0)) (fun i _ _=>n - (intOf i).toNat)
   case atStart=>exact⟨0,Nat.zero_le _,rfl,hE3,Chg.refl _ _ _,hR⟩
   case round =>
    clear hE3 hR;obtain⟨j,hj,rfl,hE3,hCx,hR⟩:=hrel;have hsx:=hCx.size
    by_cases hltj:j < n
    ·go_wp2_with (go_at_call 82; refine Hid.out ?_);refine (f_whole (N:=N) (by have:=hE3.size; omega) 0 (by omega) (by omega)).mono ?_;intro e w5 hh;obtain⟨b9,A9,k9,c9,A10,k10,c10,rfl,hb9,g9,g10,e5⟩:=hh.form;have hR5:=hR.ext e5;obtain⟨x0,v0⟩:=hR5.there (o:=j*4) (by omega);obtain⟨x1,v1⟩:=hR5.there (o:=j*4+1) (by omega);obtain⟨x2,v2⟩:=hR5.there (o:=j*4+2) (by omega);obtain⟨x3,v3⟩:=hR5.there (o:=j*4+3) (by omega);have f0:=hR5.frozen (j*4);have f1:=hR5.frozen (j*4+1);have f2:=hR5.frozen (j*4+2);have f3:=hR5.frozen (j*4+3);go_upto_region 18 with (fail);obtain⟨w6,E6,C6,hs6,hr6⟩:=hR5.set (i:=j) (q:=0) hltj (Nat.le_refl _) hb9 g9 g10;rw [E6];have hE6:=C6.ext (hE3.trans e5) hgx1;have hC6:=(hCx.trans (e5.chg _ _)).trans C6;have hr7:=(hr6.less (n':=j+1) (by omega)).congr (y:=fun _=>0) (fun c hc=>by unfold upd; split <;> rfl);clear E6 C6 hs6 hr6 hR hR5 v0 v1 v2 v3 f0 f1 f2 f3 hE3 hCx e5 hh;go_wp2;go_roundw
     case rel=>exact⟨j+1,by omega,by go_num,hE6,hC6,hr7⟩
     case measure=>simp [intOf]; omega
    ·obtain rfl:n=j:=by omega
     have hRow:=hR.congr (y:=solTo n M p 0) (fun c _=>by unfold solTo; rfl);have HNP:Hid (∀ s k,s < k→k < p.length→p[s]?.getD 0 < p[k]?.getD 0):=HR.out.inc;have HNN:Hid (∀ s,s < p.length→p[s]?.getD 0 < n):=HR.out.low;clear hR;go_wp2
     go_loopw [64,14,15] (fun i _ _ ws=>∃ k:Nat,k≤np∧i=.int .i64 k∧Ext w ws∧Chg gx (gx+1) w3 ws∧RowB N ws gx n n (solTo n M p k)) (fun i _ _ _=>np - (intOf i).toNat)
     case atStart=>exact⟨0,Nat.zero_le _,rfl,hE3,hCx,hRow⟩
     case round =>
      clear hE3 hCx hRow;obtain⟨k,hk,rfl,hE3,hCx,hRow⟩:=hrel;have hsx:=hCx.size
      by_cases hltk:k < np
      ·have hkp:k < p.length:=by rw [←hnp.out]; exact hltk
       have hic:=hi2.chg hCx (.inl hgx2);have hoc:=ho2.chg hCx (by omega) (.inl hgx3);obtain⟨bp,op,z,rfl,y0,HZ⟩:=hic.at_ hkp;have hzn:z < n:=by rw [HZ.out]; exact HNN.out k hkp
       have hkm:k < m:=by omega
       have hnn:(n:Int) < (n:Int)+1:=by omega
       have r0:=hoc.hcell (i:=k) (by omega);obtain⟨n1,A3,k3,c3,A4,k4,c4,t0,t1,t2,t3,t4,t5,t6,t7,hb3,g3,g4⟩:=(hoc.row k (by omega)).at_ (i:=n) (by omega);obtain⟨zb,zA,zn,zc,zA2,zn2,zc2,u0,u1,u2,u3,u4,u5,u6,u7,-⟩:=hRow.at_ hzn
       have HS:Hid (∀ c,solTo n M p (k+1) c=upd (solTo n M p k) z (M k n) c):=fun c=>by
        rw [HZ.out]; exact solTo_succ (fun s hs=>by have:=HNP.out s k hs hkp; omega) c
       have hκ:=hoc.cap k hkm;unfold maxLen at hκ;clear hkp hic hoc;go_upto_region 23 with (fail);obtain⟨w7,E7,C7,hs7,hr7⟩:=hRow.set (i:=z) (q:=M k n) (by have:=hRow.2.1; omega) (by omega) hb3 g3 g4;rw [E7];have hE7:=C7.ext hE3 hgx1;have hC7:=hCx.trans C7;have hr8:=(hr7.less (n':=n) (by omega)).congr (y:=solTo n M p (k+1)) (fun c _=>(HS.out c).symm);clear E7 C7 hs7 hr7 hRow t0 t1 t2 t3 t4 t5 t6 t7 u0 u1 u2 u3 u4 u5 u6 u7 r0 y0 hE3 hCx;go_wp2;go_roundw
       case rel=>exact⟨k+1,by omega,by go_num,hE7,hC7,hr8⟩
       case measure=>simp [intOf]; omega
      ·obtain rfl:np=k:=by omega
       go_wp2;rw [HG.out];refine⟨hE3,.inr ⟨rfl,_,_,rfl,?_⟩⟩;have hl:=hRow.lsv (c:=n) (lo:=w.heap.size) (hi:=_) (Nat.le_refl _) (by unfold maxLen; omega) hgx1 hRow.lt (Nat.le_refl _);exact hl.congr (fun c _=>by unfold solTo sol; rw [←hnp.out])
theorem m_rank {N lo hi:Nat} {w:World} {v:Value} {m n:Nat} {X:Nat→Nat→Rat} (h:MtV N lo hi w v m n X) (hm0:0 < m) (hm:m≤64) (hn0:0 < n) (hn:n≤64)
  {q P:Nat} (hq:HtM m n q X) (hP:m≤P∨n≤P) (hK:5*(5 ^ P*q)≤29000000000) :
  Calls Tryz.prog 113 #[v] w (RetV w (.tuple #[.int .i64 (((rref m X n).2.length:Nat):Int),.int .i64 0])):=by
 obtain⟨r,hr⟩:=hid_eq (rref m X n).2.length;rw [←hr.out];have HC:Hid (Calls Tryz.prog 165 #[v] w (RetEch3 N w m n (rref m X n).1 (rref m X n).2)):=m_echelon h hm0 hm hn0 hn hq hP hK;obtain⟨A,c,rfl,hmc,hcm⟩:=h.form;clear h hq hP hK;go_enter Tryz.func113,Tryz.ntmps113;go_wp2_with (go_at_call 165; refine Hid.out ?_);refine HC.out.mono ?_;rintro e w1 ⟨h,cap,β,κ,A',c',rfl,hcap,ho,hi',hE⟩;rw [←hr.out];clear hi' ho;go_wp2
 first | go_ret2 | skip
 exact⟨rfl,hE⟩
def RetSv (N:Nat) (w:World) (n r:Nat) (x:Nat→Rat) (e:Ending) (w':World):Prop :=
 Ext w w'∧((r < n∧e=.returned (.tuple #[.slice none 0 0,.int .i64 14]))∨(¬ r < n∧∃ A c,e=.returned (.tuple #[.slice A n c,.int .i64 0])∧LsV N w.heap.size w'.heap.size w' (.slice A n c) n x))
def nsv (n:Nat) (K:Nat→Nat→Rat) (b:Nat→Rat):Nat→Rat:=sol n (rref n (aug n K b) (n+1)).1 (rref n (aug n K b) (n+1)).2
theorem full_reg {n:Nat} {K:Nat→Nat→Rat} (h:¬ (rref n K n).2.length < n):Reg n K :=
 (rank_iff n K).1 (by have:=(rref_ok n K n).len; omega)
theorem n_solved {N lo hi lo' hi':Nat} {w:World} {v v':Value} {n:Nat} {K:Nat→Nat→Rat} {b:Nat→Rat} (h:MtV N lo hi w v n n K) (h':LsV N lo' hi' w v' n b) (hn0:0 < n) (hn:n≤64)
  {q P:Nat} (hq:HtM n n q K) (hq':HtL n q b) (hP:n≤P) (hK:5*(5 ^ P*q)≤29000000000) :
  Calls Tryz.prog 60 #[v,v'] w (RetSv N w n (rref n K n).2.length (nsv n K b)):=by
 have HC:Hid (Calls Tryz.prog 113 #[v] w (RetV w (.tuple #[.int .i64 (((rref n K n).2.length:Nat):Int),.int .i64 0]))):=m_rank h hn0 hn hn0 hn hq (.inl hP) hK
 have HR:Hid (¬ (rref n K n).2.length < n→(!(rref n (aug n K b) (n+1)).2.contains n)=true):=fun h9=>by
  rw [(reg_solve (full_reg h9) b).1]; rfl
 have HSV:Hid (∀ w1,MtV N lo hi w1 v n n K→LsV N lo' hi' w1 v' n b→Calls Tryz.prog 114 #[v,v'] w1 (RetSolM N w1 n (!(rref n (aug n K b) (n+1)).2.contains n) (nsv n K b))) :=
  fun w1 g1 g2=>m_solve g1 g2 hn0 hn hn0 hn hq hq' (.inl hP) hK
 obtain⟨r,hr⟩:=hid_eq (rref n K n).2.length;rw [←hr.out] at HC HR ⊢;obtain⟨ok,hok⟩:=hid_eq (!(rref n (aug n K b) (n+1)).2.contains n);rw [←hok.out] at HR HSV;obtain⟨x,hx⟩:=hid_eq (nsv n K b);rw [←hx.out] at HSV ⊢;obtain⟨Rf,hRf⟩:=hid_eq (RetSv N w n r x);rw [←hRf.out];have hI:=h;have hI':=h';obtain⟨A,c,rfl,hmc,hcm⟩:=h.form;obtain⟨A',c',rfl,hmc',hcm'⟩:=h'.form;clear h h' hq hq' hP hK;go_enter Tryz.func60,Tryz.ntmps60;go_wp2_with (go_at_call 113; refine Hid.out ?_);refine HC.out.mono ?_;rintro e w1 ⟨rfl,e1⟩;have hIe:=hI.ext e1;have hIe':=hI'.ext e1
 by_cases hlt:r < n
 ·go_wp2
  first | go_ret2 | skip
  rw [hRf.out];exact⟨e1,.inl ⟨hlt,rfl⟩⟩
 ·have HT:Hid (ok=true):=HR.out hlt;go_wp2_with (go_at_call 114; refine Hid.out ?_);refine (HSV.out w1 hIe hIe').mono ?_;rw [HT.out];rintro e w2 ⟨e2,⟨h9,-⟩ | ⟨-,A2,c2,rfl,h2⟩⟩
  ·cases h9
  ·have hs:=e1.size;have h3:LsV N w.heap.size w2.heap.size w2 (.slice A2 n c2) n x:=LsR.wide h2 hs (Nat.le_refl _) (Nat.le_refl _);clear h2;go_wp2
   first | go_ret2 | skip
   rw [hRf.out];exact⟨e1.trans e2,.inr ⟨hlt,_,_,rfl,h3⟩⟩
theorem n_solve_bad {N lo hi:Nat} {w:World} {v:Value} {Z:Lin} (h:LinV N lo hi w v Z) (hs:LinSz Z) (hp:∀ i,i < Z.np→RawS (Z.p i)) (hc:codeOf Z≠0) :
  Calls Tryz.prog 13 #[v] w (RetV w (.tuple #[.slice none 0 0,.int .i64 (codeOf Z)])):=by
 have HS:=Lib.hid hs;have HP:=Lib.hid hp;obtain⟨r,hr⟩:=hid_eq (codeOf Z);have hr0:(r == 0)=false:=by rw [hr.out]; simpa using hc
 have hr1:(r != 0)=true:=by simpa using hr0
 rw [←hr.out];have hI:=h;obtain⟨A1,c1,A2,c2,A3,c3,rfl,h1,h2,h3,hm,hnl,hnp⟩:=h.parts;clear h h1 h2 h3 hc hs hp;go_enter Tryz.func13,Tryz.ntmps13;go_upto_region 1 with (fail);refine boxes1 ?_;intro W hE hsz B0;obtain⟨a0,a1,a2,-⟩:=cells3 B0;go_wp2_with (go_at_call 58; refine Hid.out ?_);refine (n_check (hI.ext hE) HS.out HP.out).mono ?_;rintro e w1 ⟨rfl,e1⟩;rw [←hr.out];clear a0 a1 a2;go_wp2
 first | go_ret2 | skip
 exact⟨rfl,hE.trans e1⟩
set_option maxRecDepth 100000 in
theorem n_solve {N lo hi lo2 hi2 lo3 hi3:Nat} {w:World} {v1 v2 v3:Value} {m n:Nat} {X:Nat→Nat→Rat} {y p:Nat→Rat} (h1:MtV N lo hi w v1 m n X) (h2:LsV N lo2 hi2 w v2 m y) (h3:LsV N lo3 hi3 w v3 m p) (hm0:0 < m) (hm:m≤64) (hn0:0 < n) (hn:n≤24) (hp:∀ i,i < m→0 < p i)
  {k P:Nat} (hkx:HtM m n k X) (hky:HtL m k y) (hkp:HtL m k p) (hK:m*(3*k+1)+3*k+2≤29000000000) (hP:n≤P) (hK2:5*(5 ^ P*(m*(3*k+1)+1))≤29000000000) :
  Calls Tryz.prog 13 #[.agg #[v1,v2,v3]] w (RetSv N w n (rref n (nmat X p m) n).2.length (nsv n (nmat X p m) (nrhs X y p m))):=by
 have HX:=Lib.hid hkx;have HY:=Lib.hid hky;have HP:=Lib.hid hkp;have HK:=Lib.hid hK;have HC:Hid (codeOf (linOf m n X y p)=0):=codeOf_lin hm0 hm hn0 hn hp
 have HSV:Hid (∀ w1 lo1 hi1 lo2 hi2 u1 u2,MtV N lo1 hi1 w1 u1 n n (nmat X p m)→LsV N lo2 hi2 w1 u2 n (nrhs X y p m)→Calls Tryz.prog 60 #[u1,u2] w1 (RetSv N w1 n (rref n (nmat X p m) n).2.length (nsv n (nmat X p m) (nrhs X y p m)))) :=
  fun w1 lo1 hi1 lo2 hi2 u1 u2 g1 g2=>n_solved g1 g2 hn0 (by omega) (nmat_ht hkx hkp (Nat.le_refl _) (Nat.le_refl _)) (nrhs_ht hkx hky hkp (Nat.le_refl _) (Nat.le_refl _)) hP hK2
 obtain⟨r,hr⟩:=hid_eq (rref n (nmat X p m) n).2.length;rw [←hr.out] at HSV ⊢;obtain⟨x,hx⟩:=hid_eq (nsv n (nmat X p m) (nrhs X y p m));rw [←hx.out] at HSV ⊢;obtain⟨Rf,hRf⟩:=hid_eq (RetSv N w n r x);rw [←hRf.out];have hN:=h1.le;obtain⟨A1,c1,rfl,hmc,hcm⟩:=h1.form;obtain⟨A2,c2,rfl,hmc2,hcm2⟩:=h2.form;obtain⟨A3,c3,rfl,hmc3,hcm3⟩:=h3.form;have hI1:=h1;have hI2:=h2;have hI3:=h3;clear h1 h2 h3 hkx hky hkp hK hp hP hK2;go_enter Tryz.func13,Tryz.ntmps13;go_upto_region 1 with (fail);refine boxes1 ?_;intro W hE hsz B0;obtain⟨a0,a1,a2,-⟩:=cells3 B0;go_wp2_with (go_at_call 58; refine Hid.out ?_);refine (n_check (linV_of (hI1.ext hE) (hI2.ext hE) (hI3.ext hE)) (linSz_of HX.out HY.out HP.out (by have:=HK.out; omega)) (fun i hi=>(HP.out i hi).sz (by have:=HK.out; omega))).mono ?_;rintro e w1 ⟨rfl,e1⟩;rw [HC.out];replace hE:=hE.trans e1;replace B0:=e1.block B0;clear a0 a1 a2;obtain⟨a0,a1,a2,-⟩:=cells3 B0;go_wp2_with (go_at_call 59; refine Hid.out ?_);refine (n_built (lo:=0) (hi:=w1.heap.size) (MtR.wide (hI1.ext hE) (Nat.zero_le _) (hI1.ext hE).2.1 (Nat.le_refl _)) (LsR.wide (hI2.ext hE) (Nat.zero_le _) (hI2.ext hE).2.1 (Nat.le_refl _)) (LsR.wide (hI3.ext hE) (Nat.zero_le _) (hI3.ext hE).2.1 (Nat.le_refl _)) hm0 (by omega) hn0 (by omega) HX.out HY.out HP.out HK.out).mono ?_;rintro e w2 ⟨h,cap,g,rfl,hM,hr2,e2⟩;replace hE:=hE.trans e2;clear a0 a1 a2;go_upto_region 5 with (fail);refine boxes1 ?_;intro w3 e3 hsz3 B3;replace hE:=hE.trans e3
 replace hM:=hM.ext e3;replace hr2:=hr2.ext e3;obtain⟨d0,d1,-⟩:=cells2 B3;clear B3 e3;go_wp2_with (go_at_call 60; refine Hid.out ?_);refine (HSV.out _ _ _ _ _ _ _ hM hr2).mono ?_;have hs3:=hE.size;rintro e w4 ⟨e4,⟨h9,rfl⟩ | ⟨h9,A4,c4,rfl,h4⟩⟩
 ·go_wp2
  first | go_ret2 | skip
  rw [hRf.out];exact⟨hE.trans e4,.inl ⟨h9,rfl⟩⟩
 ·have h5:LsV N w.heap.size w4.heap.size w4 (.slice A4 n c4) n x:=LsR.wide h4 hs3 (Nat.le_refl _) (Nat.le_refl _);clear h4;go_wp2
  first | go_ret2 | skip
  rw [hRf.out];exact⟨hE.trans e4,.inr ⟨h9,_,_,rfl,h5⟩⟩
theorem l34_row {N:Nat} {w:World} {g k:Nat} {f:Nat→Int} {cs:Array Value} {t:TypeId} (hN:N≤w.heap.size) (hB:w.heap[g]?=some (.cells cs t (0,0))) (hc:∀ i,i < k→cs[i]?=some (.int .i64 (f i))) (hk:k < 1000) (hf:∀ i,i < k→-1000≤f i∧f i≤1000) :
  Calls Tryz.prog 55 #[.slice (some ⟨g,0,none⟩) k k] w (RetL N w k (fun i=>((f i:Int):Rat))):=by
 have HC:Hid (∀ wr,Ext w wr→∀ i,i < k→wr.cell? ⟨g,i,none⟩=some (.int .i64 (f i))):=fun wr e i hi=>e.cell (by rw [cell_blk hB,hc i hi])
 have HF:=Lib.hid hf;clear hB hc hf;go_enter Tryz.func55,Tryz.ntmps55;go_wp2
 go_loopw [3,8] (fun v i wr=>∃ a:Nat,a≤k∧i=.int .i64 a∧Ext w wr∧∃ A c,v=.slice A a c∧Grow N w.heap.size wr (.slice A a c) a (fun i=>((f i:Int):Rat))) (fun _ i _=>k - (intOf i).toNat)
 case atStart=>exact⟨0,Nat.zero_le _,rfl,Ext.refl w,_,_,rfl,Grow.nil hN (Nat.le_refl _) _⟩
 case round =>
  obtain⟨a,ha,rfl,hE,A',c',rfl,hR⟩:=hrel;have hsE:=hE.size
  by_cases hlt:a < k
  ·have p0:=HC.out _ hE a hlt;have hf1:=(HF.out a hlt).1;have hf2:=(HF.out a hlt).2;obtain⟨z,hz⟩:=hid_eq (f a);rw [←hz.out] at p0 hf1 hf2;go_wp2_with (go_at_call 56; refine Hid.out ?_);refine (r2_Whole (N:=N) (by omega) z (by omega) (by omega)).mono ?_;rw [hz.out];intro e w1 hh;obtain⟨b1,A1,k1,c1,A2,k2,c2,rfl,hb1,g1,g2,e1⟩:=hh.form;go_wp2_with (at_builtin; refine Hid.out ?_);refine boxes1 ?_;intro w2 e2 hsz2 BX;replace hE:=(hE.trans e1).trans e2;replace hR:=(hR.ext e1).ext e2;refine wpList_append_rat rfl _ _ 24 Tryz.underlying24 rfl rfl hR rfl BX hb1 (g1.ext e2) (g2.ext e2) (by omega) ?_;rintro g' cap w3 hR3 ⟨g2',hg2,c3,-⟩ -;replace hE:=c3.ext hE (by omega);replace hR3:=hR3.congr (y:=fun i=>((f i:Int):Rat)) (fun i _=>by unfold upd; split <;> simp_all);clear hR c3 g1 g2 e1 e2 BX p0 hh hf1 hf2;go_wp2;go_roundw
   case rel=>exact⟨a+1,by omega,by go_num,hE,_,_,rfl,hR3⟩
   case measure=>simp [intOf]; omega
  ·obtain rfl:a=k:=by omega
   go_wp2;go_ret;exact⟨A',c',rfl,hR.lsv (Nat.le_refl _) rfl,hE⟩
theorem three_lists {N n:Nat} {w:World} {g:Nat} {s t u:Value} {x y z:Nat→Rat} (h:w.heap[g]?=some (.cells #[s,t,u] 24 (0,0))) (h1:LsV N 0 w.heap.size w s n x) (h2:LsV N 0 w.heap.size w t n y) (h3:LsV N 0 w.heap.size w u n z) :
  MtV N 0 w.heap.size w (.slice (some ⟨g,0,none⟩) 3 3) 3 n (fun i=>if i=0 then x else if i=1 then y else z):=by
 have hl:=blk_lt h;obtain⟨c0,c1,c2,-⟩:=cells3 h;refine⟨h1.le,Nat.le_refl _,_,3,rfl,Nat.le_refl _,by unfold maxLen; omega,fun _=>⟨g,0,rfl,Nat.zero_le _,hl,fun i hi=>?_⟩⟩;have hi':i=0∨i=1∨i=2:=by omega
 rcases hi' with rfl | rfl | rfl
 ·exact⟨s,c0,h1⟩
 ·exact⟨t,c1,h2⟩
 ·exact⟨u,c2,h3⟩
theorem one_list {N n:Nat} {w:World} {g:Nat} {s:Value} {x:Nat→Rat} (h:w.heap[g]?=some (.cells #[s] 24 (0,0))) (h1:LsV N 0 w.heap.size w s n x) :
  MtV N 0 w.heap.size w (.slice (some ⟨g,0,none⟩) 1 1) 1 n (fun _=>x):=by
 have hl:=blk_lt h;obtain⟨c0,-⟩:=cells1 h;refine⟨h1.le,Nat.le_refl _,_,1,rfl,Nat.le_refl _,by unfold maxLen; omega,fun _=>⟨g,0,rfl,Nat.zero_le _,hl,fun i hi=>?_⟩⟩;obtain rfl:i=0:=by omega
 exact⟨s,c0,h1⟩
theorem LsV.all {N lo hi:Nat} {w:World} {v:Value} {n:Nat} {x:Nat→Rat} (h:LsV N lo hi w v n x):LsV N 0 w.heap.size w v n x:=LsR.wide h (Nat.zero_le _) h.2.1 (Nat.le_refl _)
theorem MtV.all {N lo hi:Nat} {w:World} {v:Value} {m n:Nat} {X:Nat→Nat→Rat} (h:MtV N lo hi w v m n X):MtV N 0 w.heap.size w v m n X:=MtR.wide h (Nat.zero_le _) h.2.1 (Nat.le_refl _)
def ex3f (a b c:Int) (i:Nat):Int:=if i=0 then a else if i=1 then b else c
def exA (i:Nat):Nat→Rat:=if i=0 then (fun j=>((ex3f 1 0 0 j:Int):Rat)) else if i=1 then (fun j=>((ex3f 1 1 0 j:Int):Rat)) else (fun j=>((ex3f 0 1 0 j:Int):Rat))
def exL (i:Nat):Rat:=((ex3f 0 3 0 i:Int):Rat)
def exP (i:Nat):Rat:=((ex3f 1 1 1 i:Int):Rat)
def RetLin (N:Nat) (w:World) (m n:Nat) (X:Nat→Nat→Rat) (y p:Nat→Rat) (e:Ending) (w':World):Prop :=
 ∃ A1 c1 A2 c2 A3 c3,e=.returned (.agg #[.slice A1 m c1,.slice A2 m c2,.slice A3 m c3])∧MtV N 0 w'.heap.size w' (.slice A1 m c1) m n X∧LsV N 0 w'.heap.size w' (.slice A2 m c2) m y∧LsV N 0 w'.heap.size w' (.slice A3 m c3) m p∧Ext w w'
set_option maxRecDepth 100000 in
theorem l34_example {N:Nat} {w:World} (hN:N≤w.heap.size):Calls Tryz.prog 54 #[] w (RetLin N w 3 2 exA exL exP):=by
 obtain⟨Rf,hRf⟩:=hid_eq (RetLin N w 3 2 exA exL exP);rw [←hRf.out];go_enter Tryz.func54,Tryz.ntmps54;go_upto_region 1 with (fail);refine boxes1 ?_;intro W hE hsz B0;go_wp2_with (go_at_call 55; refine Hid.out ?_);refine boxesC1 ?_;intro w1 e1 hsz1 B1;replace hE:=hE.trans e1;replace B0:=e1.block B0;refine (l34_row (N:=N) (k:=2) (f:=ex3f 1 0 0) (by have:=hE.size; omega) B1 (fun i hi=>by rcases i with _ | _ | i; rfl; rfl; omega) (by omega) (fun i _=>by unfold ex3f; split <;> (try split) <;> omega)).mono ?_;rintro e w2 ⟨A2,c2,rfl,h2,e2⟩;replace hE:=hE.trans e2;replace B0:=e2.block B0;clear e1 e2 B1 hsz1;go_wp2_with (go_at_call 55; refine Hid.out ?_);refine boxesC1 ?_;intro w1 e1 hsz1 B1;replace hE:=hE.trans e1;replace B0:=e1.block B0;replace h2:=h2.ext e1;refine (l34_row (N:=N) (k:=2) (f:=ex3f 1 1 0) (by have:=hE.size; omega) B1 (fun i hi=>by rcases i with _ | _ | i; rfl; rfl; omega) (by omega) (fun i _=>by unfold ex3f; split <;> (try split) <;> omega)).mono ?_;rintro e w3 ⟨A3,c3,rfl,h3,e3⟩;replace hE:=hE.trans e3;replace B0:=e3.block B0;replace h2:=h2.ext e3;clear e1 e3 B1 hsz1;go_wp2_with (go_at_call 55; refine Hid.out ?_);refine boxesC1 ?_;intro w1 e1 hsz1 B1;replace hE:=hE.trans e1;replace B0:=e1.block B0;replace h2:=h2.ext e1;replace h3:=h3.ext e1;refine (l34_row (N:=N) (k:=2) (f:=ex3f 0 1 0) (by have:=hE.size; omega) B1 (fun i hi=>by rcases i with _ | _ | i; rfl; rfl; omega) (by omega) (fun i _=>by unfold ex3f; split <;> (try split) <;> omega)).mono ?_
 rintro e w4 ⟨A4,c4,rfl,h4,e4⟩;replace hE:=hE.trans e4;replace B0:=e4.block B0;replace h2:=h2.ext e4;replace h3:=h3.ext e4;clear e1 e4 B1 hsz1;go_wp2_with (go_at_call 55; refine Hid.out ?_);refine boxesC2 ?_;intro w1 e1 hsz1 BM B1;replace hE:=hE.trans e1;replace B0:=e1.block B0;have M1:=three_lists BM (h2.ext e1).all (h3.ext e1).all (h4.ext e1).all;refine (l34_row (N:=N) (k:=3) (f:=ex3f 0 3 0) (by have:=hE.size; omega) B1 (fun i hi=>by rcases i with _ | _ | _ | i; rfl; rfl; rfl; omega) (by omega) (fun i _=>by unfold ex3f; split <;> (try split) <;> omega)).mono ?_;rintro e w5 ⟨A5,c5,rfl,h5,e5⟩;replace hE:=hE.trans e5;replace B0:=e5.block B0;have M2:=MtV.all (M1.ext e5);replace h5:LsV N _ _ w5 (.slice A5 3 c5) 3 exL:=h5;clear e1 e5 B1 BM hsz1 M1 h2 h3 h4;go_wp2_with (go_at_call 55; refine Hid.out ?_);refine boxesC1 ?_;intro w1 e1 hsz1 B1;replace hE:=hE.trans e1;replace B0:=e1.block B0;replace h5:=h5.ext e1;have M3:=MtV.all (M2.ext e1);refine (l34_row (N:=N) (k:=3) (f:=ex3f 1 1 1) (by have:=hE.size; omega) B1 (fun i hi=>by rcases i with _ | _ | _ | i; rfl; rfl; rfl; omega) (by omega) (fun i _=>by unfold ex3f; split <;> (try split) <;> omega)).mono ?_;rintro e w6 ⟨A6,c6,rfl,h6,e6⟩;replace hE:=hE.trans e6;replace B0:=e6.block B0;replace h5:=h5.ext e6;have M4:=MtV.all (M3.ext e6);have L5:=LsV.all h5;have L6:=LsV.all h6;replace L6:LsV N _ _ w6 (.slice A6 3 c6) 3 exP:=L6;clear e1 e6 B1 hsz1 M2 M3 h5 h6
 obtain⟨a0,a1,a2,a3,a4,a5⟩:=cells3 B0;go_wp2;obtain⟨w7,E7,D7,U⟩:=ex3 B0 (.slice (some ⟨w4.heap.size,0,none⟩) 3 3) (.slice A5 3 c5) (.slice A6 3 c6);rw [E7];have hT:=NoU.mk B0 (by decide)
 have hc:∀ o b,w6.cell? ⟨w.heap.size,o,none⟩≠some (.bool b):=by
  intro o b h;rw [cell_blk B0] at h
  rcases o with _ | _ | _ | o <;> simp at h
 have hc2:∀ o A k c,0 < k→w6.cell? ⟨w.heap.size,o,none⟩≠some (.slice A k c):=by
  intro o A k c hk h;rw [cell_blk B0] at h
  rcases o with _ | _ | _ | o
  all_goals simp at h
  all_goals (obtain⟨-,h,-⟩:=h; omega)
 have M7:=MtR.upd0 M4 U hN hT hc hc2 (fun _ _=>by omega);have L7:=LsR.upd0 L5 U hN hT hc;have L8:=LsR.upd0 L6 U hN hT hc;obtain⟨x0,x1,x2,-⟩:=cells3 D7;clear E7 a0 a1 a2 a3 a4 a5;refine bodyPost_ret (v:=.agg #[.slice (some ⟨w4.heap.size,0,none⟩) 3 3,.slice A5 3 c5,.slice A6 3 c6]) ?_ rfl ?_
 ·simp [results,x0,x1,x2,go_sem]
 ·rw [hRf.out];exact⟨_,_,_,_,_,_,rfl,MtR.wide M7 (Nat.zero_le _) M7.2.1 (Nat.le_refl _),LsR.wide L7 (Nat.zero_le _) L7.2.1 (Nat.le_refl _),LsR.wide L8 (Nat.zero_le _) L8.2.1 (Nat.le_refl _),U.ext hE (Nat.le_refl _)⟩
theorem one_row {N lo hi:Nat} {w:World} {s1:Value} {n1:Nat} {R1:Nat→Raw} (h1:LsR N lo hi w s1 n1 R1) {g:Nat} (hg:w.heap[g]?=some (.cells #[s1] 24 (0,0))) :
  MtR N 0 w.heap.size w (.slice (some ⟨g,0,none⟩) 1 1) 1 (fun _=>n1) (fun _=>R1):=by
 have hl:=blk_lt hg;obtain⟨c0,-⟩:=cells1 hg;refine⟨h1.le,Nat.le_refl _,_,1,rfl,Nat.le_refl _,by unfold maxLen; omega,fun _=>⟨g,0,rfl,Nat.zero_le _,hl,fun i hi=>?_⟩⟩;obtain rfl:i=0:=by omega
 exact⟨s1,c0,h1.wide (Nat.zero_le _) (by have:=h1.2.1; omega) (Nat.le_refl _)⟩
theorem allB_one (f:Nat→Bool):allB 1 f=f 0:=by unfold allB; simp [List.range_succ]
def givCode (Z:Lin) (n:Nat) (R:Nat→Raw):Int:=if codeOf Z≠0 then codeOf Z else if allB n (fun i=>okR (R i))=false then 1 else if n≠Z.L 0 then 4 else 0
theorem codeOf_m {Z:Lin} (h:codeOf Z=0):1≤Z.m:=by
 unfold codeOf at h
 by_cases h1:canonB Z=false
 ·rw [if_pos h1] at h; exact absurd h (by decide)
 ·by_cases h2:sizeB Z=false
  ·rw [if_neg h1,if_pos h2] at h; exact absurd h (by decide)
  ·have h3:sizeB Z=true:=by simpa using h2
   unfold sizeB at h3;simp only [Bool.and_eq_true,decide_eq_true_eq] at h3;omega
theorem n_given {N lo hi lo' hi':Nat} {w:World} {v u:Value} {Z:Lin} {n:Nat} {R:Nat→Raw} (h:LinV N lo hi w v Z) (hx:LsR N lo' hi' w u n R) (hs:LinSz Z) (hp:∀ i,i < Z.np→RawS (Z.p i)) (hsx:∀ i,i < n→RawSz (R i)) :
  Calls Tryz.prog 80 #[v,u] w (RetV w (.int .i64 (givCode Z n R))):=by
 have HS:=Lib.hid hs;have HP:=Lib.hid hp;have HSX:=Lib.hid hsx;obtain⟨g,hg⟩:=hid_eq (givCode Z n R);obtain⟨r,hr⟩:=hid_eq (codeOf Z);rw [←hg.out];have hI:=h;have hIx:=hx;obtain⟨A1,c1,A2,c2,A3,c3,rfl,h1,h2,h3,hm,hnl,hnp⟩:=h.parts;obtain⟨A4,c4,rfl,hnc,hcm4⟩:=hx.form;unfold maxLen at hcm4;have h1d:=h1;clear h hx h2 h3 hs hp hsx h1;go_enter Tryz.func80,Tryz.ntmps80;go_upto_region 1 with (fail);refine boxes1 ?_;intro W hE hsz B0;obtain⟨a0,a1,a2,-⟩:=cells3 B0;go_wp2_with (go_at_call 58; refine Hid.out ?_);refine (n_check (hI.ext hE) HS.out HP.out).mono ?_;rintro e w1 ⟨rfl,e1⟩;rw [←hr.out];replace hE:=hE.trans e1;replace B0:=e1.block B0;clear a0 a1 a2 e1
 by_cases hr0:r=0
 case neg =>
  have hr1:(r == 0)=false:=by simpa using hr0
  have hr2:(r != 0)=true:=by simpa using hr0
  have HF:Hid (g=r):=by rw [Hid,hg.out]; unfold givCode; rw [←hr.out,if_pos hr0]
  clear hr0 hg hr;go_wp2;go_ret;exact⟨ret_int HF.out.symm,hE⟩
 case pos =>
 have HM:Hid (1≤Z.m):=codeOf_m (hr.out.symm.trans hr0);have HG:Hid (g=if allB n (fun i=>okR (R i))=false then 1 else if n≠Z.L 0 then 4 else 0):=by rw [Hid,hg.out]; unfold givCode; rw [←hr.out,if_neg (by simpa using hr0)]
 clear hg hr;subst hr0;go_wp2_with (go_at_call 76; refine Hid.out ?_);refine boxesC1 ?_;intro W2 e2 hsz2 B2;replace hE:=hE.trans e2;replace B0:=e2.block B0;refine (n_canonical (one_row (hIx.ext hE) B2) (fun i hi j hj=>HSX.out j hj)).mono ?_;rw [allB_one];obtain⟨s,hs⟩:=hid_eq (allB n (fun i=>okR (R i)));rintro e w3 ⟨rfl,e3⟩;rw [←hs.out];replace hE:=hE.trans e3;replace B0:=e3.block B0;obtain⟨a0,a1,a2,-⟩:=cells3 B0;clear B2 e2 e3 hsz2;cases hs':s with
 | false =>
  subst hs';have HF:Hid (g=1):=by rw [Hid,HG.out,←hs.out]; rfl
  go_wp2;go_ret;exact⟨ret_int HF.out.symm,hE⟩
 | true =>
 subst hs';have HG2:Hid (g=if n≠Z.L 0 then 4 else 0):=by rw [Hid,HG.out,←hs.out]; rfl
 have hm1:=HM.out;obtain⟨b,off,rfl,-,-,hx⟩:=(h1d.ext hE).addr (by omega);obtain⟨AL,cL,p0,hLc,hcL,-⟩:=hx 0 (by omega);rw [Nat.add_zero] at p0;obtain⟨L0,hL0⟩:=hid_eq (Z.L 0);rw [←hL0.out] at p0 hLc;unfold maxLen at hcL;clear hx HG h1d
 by_cases hn:n=L0
 ·have HF:Hid (g=0):=by rw [Hid,HG2.out,←hL0.out,if_neg (by simpa using hn)]
  have t1:((n:Int) != (L0:Int))=false:=by rw [hn]; simp
  clear hn;go_wp2;go_ret;exact⟨ret_int HF.out.symm,hE⟩
 ·have HF:Hid (g=4):=by rw [Hid,HG2.out,←hL0.out,if_pos hn]
  have t1:((n:Int) != (L0:Int))=true:=by rw [bne_iff_ne]; omega
  clear hn;go_wp2;go_ret;exact⟨ret_int HF.out.symm,hE⟩
theorem giv_good {m n:Nat} {X:Nat→Nat→Rat} {y p x:Nat→Rat} (hm0:0 < m) (hm:m≤64) (hn0:0 < n) (hn:n≤24) (hp:∀ i,i < m→0 < p i):givCode (linOf m n X y p) n (fun i=>raw (x i))=0:=by
 unfold givCode;rw [codeOf_lin hm0 hm hn0 hn hp,if_neg (by simp),if_neg (by rw [allB_true.2 (fun i _=>okR_raw _)]; simp),if_neg (by show ¬ n≠n; simp)]
set_option maxRecDepth 100000 in
theorem n_residuals {N lo hi lo2 hi2 lo' hi':Nat} {w:World} {v1 v2 v3 v4:Value} {m n:Nat} {X:Nat→Nat→Rat} {y p x:Nat→Rat} (h1:MtV N lo hi w v1 m n X) (h2:LsV N lo2 hi2 w v2 m y) (h3:LsV N lo2 hi2 w v3 m p) (h4:LsV N lo' hi' w v4 n x) (hm:m < 1000000) (hn0:0 < n) (hn:n < 1000000)
  {k kx:Nat} (hkX:HtM m n k X) (hky:HtL m k y) (hkx:HtL n kx x) (hK:n*(k+kx+1)+1+k≤29000000000) :
  Calls Tryz.prog 81 #[.agg #[v1,v2,v3],v4] w (RetL N w m (fun i=>av n X x i - y i)):=by
 have HX:=Lib.hid hkX;have HXX:=Lib.hid hkx;have HK:Hid (n*(k+kx+1)+1≤29000000000):=by rw [Hid]; omega
 have HSS:Hid (∀ i,i < m→Sz (av n X x i)∧Sz (y i)):=fun i hi =>
  ⟨(sum_ht (n:=n) (k:=k+kx) (K:=n*(k+kx+1)+1) (fun c hc=>(hkX i hi c hc).mul (hkx c hc)) (Nat.le_refl _) (Nat.le_refl _)).sz (by omega),(hky i hi).sz (by omega)⟩
 obtain⟨Rf,hRf⟩:=hid_eq (RetL N w m (fun i=>av n X x i - y i));rw [←hRf.out];have hN:=h1.le;obtain⟨A1,c1,rfl,hmc,hcm⟩:=h1.form;obtain⟨A2,c2,rfl,hmc2,hcm2⟩:=h2.form;obtain⟨A3,c3,rfl,hmc3,hcm3⟩:=h3.form;obtain⟨A4,c4,rfl,hmc4,hcm4⟩:=h4.form;unfold maxLen at hcm4;have hI1:=h1;have hI2:=h2;have hI4:=h4;clear h1 h2 h3 h4 hkX hky hkx hK;go_enter Tryz.func81,Tryz.ntmps81;go_upto_region 2 with (fail);refine boxes1 ?_;intro W hE hsz B0;obtain⟨a0,a1,a2,-⟩:=cells3 B0;have hs0:=hE.size;go_wp2;clear a0 a1 a2
 go_loopw [5,13] (fun v i wr=>∃ k:Nat,k≤m∧i=.int .i64 k∧Ext W wr∧∃ A c,v=.slice A k c∧Grow N W.heap.size wr (.slice A k c) k (fun i=>av n X x i - y i)) (fun _ i _=>m - (intOf i).toNat)
 case atStart=>exact⟨0,Nat.zero_le _,rfl,Ext.refl W,_,_,rfl,Grow.nil (by omega) (Nat.le_refl _) _⟩
 case round =>
  obtain⟨i,hi',rfl,hEr,A6,c6,rfl,hG⟩:=hrel;have hsr:=hEr.size
  by_cases hlt:i < m
  ·obtain⟨b,off,rfl,-,-,hx⟩:=(hI1.ext (hE.trans hEr)).addr (by omega);obtain⟨A7,c7,o0,-,hc7,hrow⟩:=hx i hlt;unfold maxLen at hc7;have HXI:Hid (HtL n k (X i)):=HX.out i hlt;go_wp2_with (go_at_call 85; refine Hid.out ?_);refine (f_dot hrow (hI4.ext (hE.trans hEr)) HXI.out HXX.out HK.out).mono ?_;rintro e w4 ⟨v5,rfl,h5,e4⟩;replace h5:RatV N w4 v5 (av n X x i):=h5;obtain⟨n1,A11,k11,c11,A12,k12,c12,rfl,hb1,g1,g2⟩:=RatV.parts h5;replace hEr:=hEr.trans e4;replace hG:=hG.ext e4;clear o0 hx hrow h5 e4 HXI;obtain⟨b2,off2,rfl,-,-,hx2⟩:=(hI2.ext (hE.trans hEr)).addr (by omega);obtain⟨n2,A9,k9,c9,A10,k10,c10,q0,q1,q2,q3,hb2,g3,g4⟩:=(hx2 i hlt).open;clear hx2;go_upto_region 6 with (fail);refine boxes1 ?_;intro w5 e5 hsz5 B5;obtain⟨t0,t1,t2,t3,-⟩:=cells4 B5;obtain⟨a0,a1,a2,-⟩:=cells3 (e5.block (hEr.block B0));replace q0:=e5.cell q0;replace q1:=e5.cell q1;replace q2:=e5.cell q2;replace q3:=e5.cell q3;replace g1:=g1.ext e5;replace g2:=g2.ext e5;replace g3:=g3.ext e5;replace g4:=g4.ext e5;replace hG:=hG.ext e5;have hs4:=hEr.size;have hEw:=hEr.trans e5;obtain⟨gz,hgz⟩:∃ gz,gz=w4.heap.size:=⟨_,rfl⟩
   rw [←hgz] at t0 t1 t2 t3 hsz5 hs4 ⊢;clear B5 e5 a0 a2 hgz;have eC:=(Ext.refl w5).drew;refine region_late (fun w'=>w'.cell? ⟨gz,0,none⟩=some (.bool n1)∧w'.cell? ⟨gz,1,none⟩=some (.slice A11 k11 c11)∧w'.cell? ⟨gz,2,none⟩=some (.bool false)∧w'.cell? ⟨gz,3,none⟩=some (.slice A12 k12 c12)∧w'.cell? ⟨w.heap.size,1,none⟩=some (.slice (some ⟨b2,off2,none⟩) m c2)∧w'.cell? ⟨b2,off2+i*4,none⟩=some (.bool n2)∧w'.cell? ⟨b2,off2+i*4+1,none⟩=some (.slice A9 k9 c9)∧w'.cell? ⟨b2,off2+i*4+2,none⟩=some (.bool false)∧w'.cell? ⟨b2,off2+i*4+3,none⟩=some (.slice A10 k10 c10)) [9] (by kernel_rfl) (by exact⟨eC.cell t0,eC.cell t1,eC.cell t2,eC.cell t3,eC.cell a1,eC.cell q0,eC.cell q1,eC.cell q2,eC.cell q3⟩) (fun hHeld=>?_);refine sP 0 (h:=?_);try simp only [nr]
   refine sT 1 (h:=?_);try simp only [nr]
   refine sP 2 (h:=?_);try simp only [nr]
   refine sT 3 (h:=?_);try simp only [nr]
   refine sP 4 (h:=?_);try simp only [nr]
   refine sP 5 (h:=?_);try simp only [nr]
   refine sT 6 (h:=?_);try simp only [nr]
   refine stepL_only (i:=7) rfl (by kernel_rfl) (fun K hK=>?_);go_simp;refine (f_sub (x:=av n X x i) (y:=y i) (by exact (RatV.mk hb1 g1 g2).ext eC) (by exact (RatV.mk hb2 g3 g4).ext eC) (HSS.out i hlt).1 (HSS.out i hlt).2).mono ?_;intro e w6 hh;obtain⟨b3,A13,k13,c13,A14,k14,c14,rfl,hb3,g5,g6,e6⟩:=hh.form;replace eC:=eC.trans e6;go_wp2_with fail;clear hHeld;refine hK.out _ _ (by exact⟨eC.cell t0,eC.cell t1,eC.cell t2,eC.cell t3,eC.cell a1,eC.cell q0,eC.cell q1,eC.cell q2,eC.cell q3⟩) fun hHeld=>?_
   clear hK K;try simp only [nr]
   refine stepL_only (i:=8) rfl (by kernel_rfl) (fun K hK=>?_);go_simp
   first | refine boxes1 ?_ | refine boxesD1 ?_
   intro w7 e7 hsz7 BX;replace eC:=eC.trans e7;replace g5:=g5.ext e7;replace g6:=g6.ext e7;have hG7:=hG.ext eC;have hE7:=hEw.trans eC;clear hHeld;refine hK.out _ _ (by exact⟨eC.cell t0,eC.cell t1,eC.cell t2,eC.cell t3,eC.cell a1,eC.cell q0,eC.cell q1,eC.cell q2,eC.cell q3⟩) fun hHeld=>?_
   clear hK K;try simp only [nr]
   refine stepL_late (i:=9) rfl (by kernel_rfl) (by kernel_rfl) (fun K hK=>?_);refine step_append_rat rfl _ _ 24 Tryz.underlying24 rfl (by rfl) hG7 (by rfl) BX hb3 g5 g6 (by omega) ?_;rintro g cap' w8 hG8 ⟨g',hg',c15,-⟩ -;replace hE7:=c15.ext hE7 hg';replace hG8:=hG8.congr (y:=fun i=>av n X x i - y i) (fun j _=>by unfold upd; split <;> simp_all);refine hK.out _ _ ?_;clear hK K;try simp only [nr]
   refine sP 10 (h:=?_);try simp only [nr]
   refine stepL_done (by kernel_rfl) ?_ _;clear hHeld;clear t0 t1 t2 t3 q0 q1 q2 q3 a1 g1 g2 g3 g4 g5 g6 hb1 hb2 hb3 BX hG hG7 c15 hEr hEw eC;go_wp2;go_roundw
   case rel=>exact⟨i+1,by omega,by go_num,hE7,_,_,rfl,hG8⟩
   case measure=>simp [intOf]; omega
  ·obtain rfl:m=i:=by omega
   go_wp2
   first | go_ret | skip
   rw [hRf.out];exact⟨A6,c6,rfl,hG.lsv hs0 rfl,hE.trans hEr⟩
set_option maxRecDepth 100000 in
theorem n_Objective {N lo hi lo2 hi2 lo' hi':Nat} {w:World} {v1 v2 v3 v4:Value} {m n:Nat} {X:Nat→Nat→Rat} {y p x:Nat→Rat} (h1:MtV N lo hi w v1 m n X) (h2:LsV N lo2 hi2 w v2 m y) (h3:LsV N lo2 hi2 w v3 m p) (h4:LsV N lo' hi' w v4 n x) (hm0:0 < m) (hm:m≤64) (hn0:0 < n) (hn:n≤24) (hp:∀ i,i < m→0 < p i)
  {k kx kv:Nat} (hkX:HtM m n k X) (hky:HtL m k y) (hkp:HtL m k p) (hkx:HtL n kx x) (hkx1:kx≤29000000000) (hkv0:kv=n*(k+kx+1)+1+k+1) (hK:m*(k+(kv+kv)+1)+1≤29000000000) :
  Calls Tryz.prog 32 #[.agg #[v1,v2,v3],v4] w (RetRC N w (obj m p (fun i=>av n X x i - y i))):=by
 have hkv:HtL m kv (fun i=>av n X x i - y i):=fun i hi=>by
  rw [hkv0];exact (sum_ht (n:=n) (k:=k+kx) (K:=n*(k+kx+1)+1) (fun c hc=>(hkX i hi c hc).mul (hkx c hc)) (Nat.le_refl _) (Nat.le_refl _)).sub (hky i hi)
 have h98:=Nat.le_mul_of_pos_left (k+(kv+kv)+1) hm0
 have HRS:Hid (∀ w1 v1 v2 v3 v4 lo hi lo2 hi2 lo' hi',MtV N lo hi w1 v1 m n X→LsV N lo2 hi2 w1 v2 m y→LsV N lo2 hi2 w1 v3 m p→LsV N lo' hi' w1 v4 n x→Calls Tryz.prog 81 #[.agg #[v1,v2,v3],v4] w1 (RetL N w1 m (fun i=>av n X x i - y i))) :=
  fun w1 v1 v2 v3 v4 lo hi lo2 hi2 lo' hi' g1 g2 g3 g4=>n_residuals g1 g2 g3 g4 (by omega) hn0 (by omega) hkX hky hkx (by omega)
 have HGV:Hid (∀ w1,Ext w w1→Calls Tryz.prog 80 #[.agg #[v1,v2,v3],v4] w1 (RetV w1 (.int .i64 0))):=fun w1 e1=>by
  have h9:=n_given (linV_of (h1.ext e1) (h2.ext e1) (h3.ext e1)) (h4.ext e1) (linSz_of hkX hky hkp (by omega)) (fun i hi=>(hkp i hi).sz (by omega)) (fun i hi=>((hkx i hi).sz hkx1).raw);rw [giv_good hm0 hm hn0 hn hp] at h9;exact h9
 clear h98 hkX hky hkx hkv0;obtain⟨vv,hvv⟩:=hid_eq (fun i=>av n X x i - y i);rw [←hvv.out] at hkv HRS ⊢;have h9:=Nat.le_mul_of_pos_left (k+(kv+kv)+1) hm0
 have HSS:Hid (∀ i,i < m→Sz (vv i)∧Sz (p i)∧Sz (vv i*vv i)∧Sz (p i*(vv i*vv i))):=fun i hi =>
  ⟨(hkv i hi).sz (by omega),(hkp i hi).sz (by omega),((hkv i hi).mul (hkv i hi)).sz (by omega),((hkp i hi).mul ((hkv i hi).mul (hkv i hi))).sz (by omega)⟩
 have HSU:Hid (∀ i,i≤m→Sz (sum i (fun i=>p i*(vv i*vv i)))):=fun i hi=>(sum_ht (n:=m) (k:=k+(kv+kv)) (K:=29000000000) (fun t ht=>(hkp t ht).mul ((hkv t ht).mul (hkv t ht))) hi hK).sz (Nat.le_refl _)
 obtain⟨S,hS⟩:=hid_eq (obj m p vv);rw [←hS.out];obtain⟨Rf,hRf⟩:=hid_eq (RetRC N w S);rw [←hRf.out];have hN:=h1.le;obtain⟨A1,c1,rfl,hmc,hcm⟩:=h1.form;obtain⟨A2,c2,rfl,hmc2,hcm2⟩:=h2.form;obtain⟨A3,c3,rfl,hmc3,hcm3⟩:=h3.form;obtain⟨A4,c4,rfl,hmc4,hcm4⟩:=h4.form;have hI1:=h1;have hI2:=h2;have hI3:=h3;have hI4':=h4;clear h1 h2 h3 h4 hkp hkv hK h9 hp hkx1;go_enter Tryz.func32,Tryz.ntmps32;go_upto_region 1 with (fail);refine boxes2 ?_;intro W hE hsz B0 B1;obtain⟨a0,a1,a2,-⟩:=cells3 B0;go_wp2_with (go_at_call 80; refine Hid.out ?_);refine (HGV.out W hE).mono ?_;rintro e w1 ⟨rfl,e1⟩;replace hE:=hE.trans e1;replace B0:=e1.block B0;replace B1:=e1.block B1;clear a0 a1 a2 e1 hsz HGV;go_wp2_with (go_at_call 82; refine Hid.out ?_);refine (f_whole (N:=N) (by have:=hE.size; omega) 0 (by omega) (by omega)).mono ?_;intro e w2 hh;obtain⟨b3,A9,k9,c9,A10,k10,c10,rfl,hb3,g3,g4,e2⟩:=hh.form;replace hE:=hE.trans e2;replace B0:=e2.block B0;replace B1:=e2.block B1;have hb1':w.heap.size+1 < w2.heap.size:=blk_lt B1;clear e2 hh;go_upto_region 5 with (fail);refine boxes1 ?_;intro w3 e3 hsz3 B3;have HS0:Hid (((0:Int):Rat)=sum 0 (fun i=>p i*(vv i*vv i))):=rfl;rw [HS0.out] at hb3 g3 g4;have hBx:BoxR N w3 w2.heap.size (sum 0 (fun i=>p i*(vv i*vv i))):=BoxR.mk B3 hb3 (g3.ext e3) (g4.ext e3);clear B3 g3 g4 hb3;obtain⟨a0,a1,a2,-⟩:=cells3 (e3.block B0);go_wp2_with (go_at_call 81; refine Hid.out ?_)
 refine (HRS.out _ _ _ _ _ _ _ _ _ _ _ (hI1.ext (hE.trans e3)) (hI2.ext (hE.trans e3)) (hI3.ext (hE.trans e3)) (hI4'.ext (hE.trans e3))).mono ?_;rintro e w4 ⟨A4',c4',rfl,hI4,e4⟩;replace hBx:=hBx.ext e4;have e34:=e3.trans e4;have hs23:w2.heap.size+1≤w3.heap.size:=hsz3;have hs34:=e34.size;have hs33:=e4.size;clear a0 a1 a2 e3 HRS e4;go_wp2
 go_loopw [22] (fun i wr=>∃ a:Nat,a≤m∧i=.int .i64 a∧Chg w2.heap.size (w2.heap.size+1) w4 wr∧w2.heap.size < wr.heap.size∧BoxR N wr w2.heap.size (sum a (fun i=>p i*(vv i*vv i)))) (fun i _=>m - (intOf i).toNat)
 case atStart=>exact⟨0,Nat.zero_le _,rfl,Chg.refl _ _ _,by omega,hBx⟩
 case round =>
  clear hBx hsz3;obtain⟨a,ha,rfl,hCg,hsz3,hBx⟩:=hrel;have e3:=hCg.ext e34 (Nat.le_refl _);have hI4r:=hI4.chg hCg (by have:=hE.size; omega) (.inr hs23);have B1r:=e3.block B1
  by_cases hlt:a < m
  ·obtain⟨b,off,rfl,-,-,hx⟩:=hI4r.addr (by omega);obtain⟨n1,A6,k6,c6,A12,k12,c12,p0,p1,p2,p3,hb1,g1,g2⟩:=(hx a hlt).open;obtain⟨b5,off5,rfl,-,-,hx5⟩:=(hI3.ext (hE.trans e3)).addr (by omega);obtain⟨n5,A13,k13,c13,A14,k14,c14,q0,q1,q2,q3,hb5,g5,g6⟩:=(hx5 a hlt).open;clear hx hx5;go_upto_region 8 with (fail);refine boxes1 ?_;intro w5 e5 hsz5 B5;obtain⟨b3,A9,k9,c9,A10,k10,c10,BS,hb3,g3,g4⟩:=hBx.ext e5;obtain⟨s0,s1,s2,s3,-⟩:=cells4 BS;obtain⟨t0,t1,t2,t3,-⟩:=cells4 B5;obtain⟨a0,a1,a2,-⟩:=cells3 (e5.block (e3.block B0));replace q0:=e5.cell q0;replace q1:=e5.cell q1;replace q2:=e5.cell q2;replace q3:=e5.cell q3;replace g1:=g1.ext e5;replace g2:=g2.ext e5;replace g5:=g5.ext e5;replace g6:=g6.ext e5;have hC5:=hCg.trans (e5.chg _ _);obtain⟨hS1,hS2,hS3,hS4⟩:=HSS.out a hlt;have HS1:=Lib.hid hS1;have HS2:=Lib.hid hS2;have HS3:=Lib.hid hS3;have HS4:=Lib.hid hS4;have HS5:=Lib.hid (HSU.out a ha);obtain⟨gz,hgz⟩:∃ gz,gz=wr.heap.size:=⟨_,rfl⟩
   rw [←hgz] at t0 t1 t2 t3 hsz5 hsz3 ⊢;clear p0 p1 p2 p3 B5 hBx e5 hS1 hS2 hS3 hS4 a0 a1 hgz B1r e3;have eC:=(Ext.refl w5).drew;refine region_late (fun w'=>w'.cell? ⟨w2.heap.size,0,none⟩=some (.bool b3)∧w'.cell? ⟨w2.heap.size,1,none⟩=some (.slice A9 k9 c9)∧w'.cell? ⟨w2.heap.size,2,none⟩=some (.bool false)∧w'.cell? ⟨w2.heap.size,3,none⟩=some (.slice A10 k10 c10)∧w'.cell? ⟨gz,0,none⟩=some (.bool n1)∧w'.cell? ⟨gz,1,none⟩=some (.slice A6 k6 c6)∧w'.cell? ⟨gz,2,none⟩=some (.bool false)∧w'.cell? ⟨gz,3,none⟩=some (.slice A12 k12 c12)∧w'.cell? ⟨w.heap.size,2,none⟩=some (.slice (some ⟨b5,off5,none⟩) m c3)∧w'.cell? ⟨b5,off5+a*4,none⟩=some (.bool n5)∧w'.cell? ⟨b5,off5+a*4+1,none⟩=some (.slice A13 k13 c13)∧w'.cell? ⟨b5,off5+a*4+2,none⟩=some (.bool false)∧w'.cell? ⟨b5,off5+a*4+3,none⟩=some (.slice A14 k14 c14)) [11] (by kernel_rfl) (by exact⟨eC.cell s0,eC.cell s1,eC.cell s2,eC.cell s3,eC.cell t0,eC.cell t1,eC.cell t2,eC.cell t3,eC.cell a2,eC.cell q0,eC.cell q1,eC.cell q2,eC.cell q3⟩) (fun hHeld=>?_);refine sT 0 (h:=?_);try simp only [nr]
   refine sP 1 (h:=?_);try simp only [nr]
   refine sT 2 (h:=?_);try simp only [nr]
   refine sP 3 (h:=?_);try simp only [nr]
   refine sP 4 (h:=?_);try simp only [nr]
   refine sT 5 (h:=?_);try simp only [nr]
   refine sT 6 (h:=?_);try simp only [nr]
   refine sT 7 (h:=?_);try simp only [nr]
   refine stepL_only (i:=8) rfl (by kernel_rfl) (fun K hK=>?_);go_simp;refine (f_mul (x:=vv a) (y:=vv a) (by exact (RatV.mk hb1 g1 g2).ext eC) (by exact (RatV.mk hb1 g1 g2).ext eC) HS1.out HS1.out).mono ?_;rintro e w6 ⟨v6,rfl,h6,e6⟩;replace eC:=eC.trans e6;go_wp2_with fail;clear hHeld;refine hK.out _ _ (by exact⟨eC.cell s0,eC.cell s1,eC.cell s2,eC.cell s3,eC.cell t0,eC.cell t1,eC.cell t2,eC.cell t3,eC.cell a2,eC.cell q0,eC.cell q1,eC.cell q2,eC.cell q3⟩) fun hHeld=>?_
   clear hK K;try simp only [nr]
   refine stepL_only (i:=9) rfl (by kernel_rfl) (fun K hK=>?_);go_simp;refine (f_mul (x:=p a) (y:=vv a*vv a) (by exact (RatV.mk hb5 g5 g6).ext eC) (by exact h6) HS2.out HS3.out).mono ?_;rintro e w7 ⟨v7,rfl,h7,e7⟩;replace eC:=eC.trans e7;go_wp2_with fail;clear hHeld;refine hK.out _ _ (by exact⟨eC.cell s0,eC.cell s1,eC.cell s2,eC.cell s3,eC.cell t0,eC.cell t1,eC.cell t2,eC.cell t3,eC.cell a2,eC.cell q0,eC.cell q1,eC.cell q2,eC.cell q3⟩) fun hHeld=>?_
   clear hK K;try simp only [nr]
   refine stepL_only (i:=10) rfl (by kernel_rfl) (fun K hK=>?_);go_simp;refine (f_add (x:=sum a (fun i=>p i*(vv i*vv i))) (y:=p a*(vv a*vv a)) (by exact (RatV.mk hb3 g3 g4).ext eC) (by exact h7) HS5.out HS4.out).mono ?_;intro e w8 hh;obtain⟨b9,A15,k15,c15,A16,k16,c16,rfl,hb9,g9,g10,e8⟩:=hh.form;replace eC:=eC.trans e8;have D0:=eC.block BS;obtain⟨u0,u1,u2,u3,u4,u5,u6,u7⟩:=cells4 D0;go_wp2_with fail;clear hHeld;refine hK.out _ _ (by exact⟨eC.cell s0,eC.cell s1,eC.cell s2,eC.cell s3,eC.cell t0,eC.cell t1,eC.cell t2,eC.cell t3,eC.cell a2,eC.cell q0,eC.cell q1,eC.cell q2,eC.cell q3⟩) fun hHeld=>?_
   clear hK K;try simp only [nr]
   refine stepL_late (i:=11) rfl (by kernel_rfl) (by kernel_rfl) (fun K hK=>?_);go_simp;refine hK.out _ _ ?_;clear hK K;try simp only [nr]
   refine stepL_done (by kernel_rfl) ?_ _;clear hHeld;obtain⟨w9,E9,hB9,K9,hs9⟩:=boxSet (q:=sum (a+1) (fun i=>p i*(vv i*vv i))) D0 (by have:=hE.size; omega) hb9 g9 g10;rw [E9];have hC9:=(hC5.trans (eC.chg _ _)).trans K9;have hs10:w2.heap.size < w9.heap.size:=by have:=eC.size; omega
   clear E9 K9 D0 s0 s1 s2 s3 t0 t1 t2 t3 u0 u1 u2 u3 u4 u5 u6 u7 BS g1 g2 g3 g4 g9 g10 hb1 hb3 hb9 hb5 g5 g6 q0 q1 q2 q3 a2;go_wp2;go_roundw
   case rel=>exact⟨a+1,by omega,by go_num,hC9,hs10,hB9⟩
   case measure=>simp [intOf]; omega
  ·obtain rfl:m=a:=by omega
   obtain⟨b3,A9,k9,c9,A10,k10,c10,BS,hb3,g3,g4⟩:=hBx;have HSX:Hid (sum m (fun i=>p i*(vv i*vv i))=S):=hS.out.symm;rw [HSX.out] at hb3 g3 g4;obtain⟨s0,s1,s2,s3,-⟩:=cells4 BS;obtain⟨t0,t1,t2,t3,t4,t5,t6,t7⟩:=cells4 B1r;go_wp2;obtain⟨w12,E12,F2,U⟩:=ex4 B1r (.bool b3) (.slice A9 k9 c9) (.bool false) (.slice A10 k10 c10);rw [E12];obtain⟨z0,z1,z2,z3,-⟩:=cells4 F2;have hT:=NoU.mk B1r (by decide);refine bodyPost_ret (v:=.tuple #[.agg #[.bool b3,.slice A9 k9 c9,.bool false,.slice A10 k10 c10],.int .i64 0]) ?_ rfl ?_
   ·simp [results,Tryz.results32,z0,z1,z2,z3,go_sem]
   rw [hRf.out];exact⟨_,rfl,RatV.mk hb3 (g3.upd U (by omega) hT) (g4.upd U (by omega) hT),U.ext (hE.trans e3) (by omega)⟩
theorem upd_cells (g:Nat):∀ (vs:List Value) (o:Nat) (w w':World),Upd g w w'→Upd g w (w'.setCells g o vs)
 | [],_,_,_,h=>h
 | v :: r,o,w,w',h=>upd_cells g r (o+1) w _ (h.set o v)
theorem blk_cells (g:Nat) (t:TypeId) (fr:Nat×Nat):∀ (vs:List Value) (o:Nat) (cs:Array Value) (w:World),w.heap[g]?=some (.cells cs t fr)→∃ cs',(w.setCells g o vs).heap[g]?=some (.cells cs' t fr)∧cs'.size=cs.size
 | [],_,cs,_,h=>⟨cs,h,rfl⟩
 | v :: r,o,cs,w,h=>by
  obtain⟨cs',h1,h2⟩:=blk_cells g t fr r (o+1) _ (w.setCell ⟨g,o,none⟩ v) (heap_set h o v);exact⟨cs',h1,by rw [h2]; simp⟩
theorem add_none (b o j:Nat):(⟨b,o,none⟩:Addr).add j=⟨b,o+j,none⟩:=by unfold Addr.add; split <;> simp_all
theorem At4.one {N:Nat} {w:World} {b o:Nat} {R:Raw} (h:At4 N w b o R) {r:Nat} (hr:r < 4):∃ v,w.cell? ⟨b,o+r,none⟩=some v∧v.oneCell'=true:=by
 obtain⟨A,n,c,A',n',c',h0,h1,h2,h3,-⟩:=h.val;have hr':r=0∨r=1∨r=2∨r=3:=by omega
 rcases hr' with rfl | rfl | rfl | rfl
 ·exact⟨_,h0,rfl⟩
 ·exact⟨_,h1,rfl⟩
 ·exact⟨_,h2,rfl⟩
 ·exact⟨_,h3,rfl⟩
def GrowS (base:Nat) (w:World) (v:Value) (xs:List Value):Prop:=base≤w.heap.size∧w.ownsRow base 24 1 v xs.length xs
theorem GrowS.empty {base:Nat} {w:World} {g:Nat} (hb:base≤g) (h:w.heap[g]?=some (.cells #[] 24 (0,0))):GrowS base w (.slice (some ⟨g,0,none⟩) 0 0) [] :=
 ⟨Nat.le_trans hb (Nat.le_of_lt (blk_lt h)),rfl,.inr ⟨g,0,#[],rfl,hb,h,Nat.le_refl _,by unfold maxLen; omega,rfl,rfl⟩⟩
theorem GrowS.ext {base:Nat} {w w':World} {v:Value} {xs:List Value} (h:GrowS base w v xs) (e:Ext w w'):GrowS base w' v xs:=by
 obtain⟨h0,h1,h2⟩:=h;refine⟨Nat.le_trans h0 e.size,h1,?_⟩
 rcases h2 with h2 | ⟨g,cap,cur,hv,hb,hg,h3⟩
 ·exact .inl h2
 ·exact .inr ⟨g,cap,cur,hv,hb,e.block hg,h3⟩
theorem GrowS.noU {base:Nat} {w:World} {v:Value} {xs:List Value} (h:GrowS base w v xs):∃ g',base≤g'∧NoU w g'∧(∀ k,v.ownBlock=some k→k=g')∧(v.ownBlock=some g'∨g'=w.heap.size):=by
 obtain⟨h0,-,h2⟩:=h
 rcases h2 with ⟨rfl,-⟩ | ⟨g,cap,cur,rfl,hb,hg,-⟩
 ·exact⟨w.heap.size,h0,fun cs fr h=>by (rw [Array.getElem?_eq_none (Nat.le_refl _)] at h; cases h),fun k hk=>by simp [Value.ownBlock] at hk,.inr rfl⟩
 ·exact⟨g,hb,NoU.mk hg (by decide),fun k hk=>by simpa [Value.ownBlock] using hk.symm,.inl rfl⟩
theorem GrowS.at_ {base:Nat} {w:World} {v:Value} {xs:List Value} (h:GrowS base w v xs) (hn:0 < xs.length):∃ g cap,v=.slice (some ⟨g,0,none⟩) xs.length cap∧cap≤maxLen∧xs.length≤cap∧∀ j (hj:j < xs.length),w.cell? ⟨g,j,none⟩=some xs[j]:=by
 obtain⟨-,-,h2⟩:=h
 rcases h2 with ⟨-,h⟩ | ⟨g,cap,cur,hv,hb,hg,hnc,hcm,hcs,htk⟩
 ·omega
 ·refine⟨g,cap,hv,hcm,hnc,fun j hj=>?_⟩;rw [cell_blk hg];have h9:(cur.toList.take (xs.length*1))[j]?=some xs[j]:=by rw [htk]; exact List.getElem?_eq_getElem hj
  rw [List.getElem?_take] at h9;rw [if_pos (by omega)] at h9;simpa using h9
theorem run_clear_cells {P:Program} (w:World) (t e ty:TypeId) (z:Value) (ht:P.underlying t=some (.slice e)) (hv:∀ w,(zeroValue e).run P w=.ok z w) (h1:∀ u∈z.cells.toList,u.oneCell'=true) (b o c:Nat)
  (hc:∀ j,j < z.cells.size→(w.cell? ⟨b,o+j,none⟩).isSome=true) (hf:∀ j,j < z.cells.size→w.frozen? ⟨b,o+j,none⟩=false) :
  (Builtin.clear_ #[t] ty #[.slice (some ⟨b,o,none⟩) 1 c]).run P w=.ok (.tuple #[]) (w.setCells b o z.cells.toList):=by
 have hzc:(Builtin.zeroCells z.cells 1).toList=z.cells.toList:=by
  unfold Builtin.zeroCells
  apply List.ext_getElem
  ·simp
  ·intro i h1 h2;have h3:i < z.cells.size:=by simpa using h2
   simp [Nat.mod_eq_of_lt h3,h3]
 have hst:=run_storeCells_cells (P:=P) b o z.cells.toList 0 w (by simpa using hc) (by simpa using hf) h1;simp only [Nat.add_zero] at hst;simp [Builtin.clear_,run_underlying ht,hv,hzc,hst]
theorem zero_rat (w:World):(zeroValue 44).run Tryz.prog w=.ok (.agg #[.bool false,.slice none 0 0,.bool false,.slice none 0 0]) w:=by kernel_rfl
theorem zero_row (w:World):(zeroValue 24).run Tryz.prog w=.ok (.slice none 0 0) w:=by kernel_rfl
def RetDel (Z:Nat) (ET:TypeId) (g n cap i:Nat) (w:World) (e:Ending) (w':World):Prop :=
 e=.returned (.slice (some ⟨g,0,none⟩) (n - 1) cap)∧Chg g (g+1) w w'∧(∃ cs,w'.heap[g]?=some (.cells cs ET (0,0))∧cs.size=cap*Z)∧(∀ k,k < i*Z→w'.cell? ⟨g,k,none⟩=w.cell? ⟨g,k,none⟩)∧(∀ k,i*Z≤k→k < (n - 1)*Z→w'.cell? ⟨g,k,none⟩=w.cell? ⟨g,k+Z,none⟩)
set_option maxRecDepth 100000 in
theorem sl_del_rats {w:World} {g cap n i:Nat} {cs:Array Value} (hb:w.heap[g]?=some (.cells cs 44 (0,0))) (hsz:cs.size=cap*4) (hcm:cap≤9223372036854775807) (hn:n≤cap) (hi:i < n) (hone:∀ k,k < n*4→∃ v,w.cell? ⟨g,k,none⟩=some v∧v.oneCell'=true) {J:Int} (hJ:J=(i:Int)+1) :
  Calls Tryz.prog 147 #[.slice (some ⟨g,0,none⟩) n cap,.int .i64 (i:Int),.int .i64 J] w (RetDel 4 44 g n cap i w):=by
 obtain⟨i0,hi0,hz0,hz1,hz2⟩:=info_parts info_rat;have hT:NoU w g:=NoU.mk hb (by decide)
 obtain⟨news,hnl,hnv,hno⟩:∃ news:List Value,news.length=(n - (i+1))*4∧(∀ j u,news[j]?=some u→w.cell? ⟨g,(i+1)*4+j,none⟩=some u)∧∀ u∈news,u.oneCell'=true:=by
  refine⟨(List.range ((n - (i+1))*4)).map (fun j=>(w.cell? ⟨g,(i+1)*4+j,none⟩).getD undef),by simp,fun j u hu=>?_,fun u hu=>?_⟩
  ·rw [List.getElem?_map] at hu;obtain⟨j',hj',rfl⟩:=Option.map_eq_some_iff.1 hu;have hj2:=List.getElem?_eq_some_iff.1 hj';obtain⟨hj3,hj4⟩:=hj2;simp at hj3 hj4
   subst hj4;obtain⟨v,hv,-⟩:=hone ((i+1)*4+j) (by omega);rw [hv]; rfl
  ·obtain⟨j,hj,rfl⟩:=List.mem_map.1 hu;have hj3:j < (n - (i+1))*4:=by simpa using hj
   obtain⟨v,hv,h1⟩:=hone ((i+1)*4+j) (by omega);rw [hv]; exact h1
 have hfz:∀ k,w.frozen? ⟨g,k,none⟩=false:=fun k=>frozen_blk hb k
 obtain⟨AA,hAA,hsrc⟩:∃ A:Addr,(if cap=i+1 then some (⟨g,0,none⟩:Addr) else some ⟨g,(i+1)*4,none⟩)=some A∧Hid (∀ t u,news[t]?=some u→w.drew.cell? (A.add t)=some u):=by
  by_cases h:cap=i+1
  ·refine⟨⟨g,0,none⟩,by simp [h],fun t u hu=>?_⟩;have h0:news.length=0:=by rw [hnl,show n - (i+1)=0 by omega,Nat.zero_mul]
   rw [List.length_eq_zero_iff.1 h0] at hu;simp at hu
  ·refine⟨⟨g,(i+1)*4,none⟩,by simp [h],fun t u hu=>?_⟩;rw [add_none];exact hnv t u hu
 obtain⟨w1,hw1⟩:∃ w1,w1=w.drew.setCells g (0+i*4) news:=⟨_,rfl⟩
 have U1:Upd g w.drew w1:=by rw [hw1]; exact upd_cells g news _ w.drew w.drew (Upd.refl g w.drew)
 obtain⟨cs1,hb1,hs1⟩:∃ cs1,w1.heap[g]?=some (.cells cs1 44 (0,0))∧cs1.size=cs.size:=by rw [hw1]; exact blk_cells g _ _ news _ cs w.drew hb
 have hthere:∀ k,k < n*4→(w.drew.cell? ⟨g,k,none⟩).isSome=true:=fun k hk=>by obtain⟨v,hv,-⟩:=hone k hk; show (w.cell? _).isSome=true; rw [hv]; rfl
 have hin1:∀ j (hj:j < news.length),w1.cell? ⟨g,0+i*4+j,none⟩=some news[j]:=by
  rw [hw1]; exact World.cell?_setCells_in g news (0+i*4) w.drew (fun j hj=>hthere _ (by omega))
 have hout1:∀ k,k < i*4→w1.cell? ⟨g,k,none⟩=w.cell? ⟨g,k,none⟩:=fun k hk=>by
  rw [hw1]; exact World.cell?_setCells_out g news (0+i*4) w.drew ⟨g,k,none⟩ (fun _ _=>.inl (by simp only; omega))
 have hc1:∀ k,k < cap*4→(w1.cell? ⟨g,k,none⟩).isSome=true:=fun k hk=>by
  rw [cell_blk hb1,Array.getElem?_eq_getElem (by omega)]; rfl
 have hrun:=run_clear_cells (P:=Tryz.prog) w1 24 44 0 (Value.agg #[.bool false,.slice none 0 0,.bool false,.slice none 0 0]) Tryz.underlying24 zero_rat (List.all_eq_true.1 (by rfl)) g ((n - 1)*4) (cap - (n - 1)) (fun j hj=>hc1 _ (by have h9:j < 4:=hj; omega)) (fun j hj=>frozen_blk hb1 _);obtain⟨w2,hw2⟩:∃ w2,w2=w1.setCells g ((n - 1)*4) ((Value.agg #[.bool false,.slice none 0 0,.bool false,.slice none 0 0])).cells.toList:=⟨_,rfl⟩
 have U2:Upd g w1 w2:=by rw [hw2]; exact upd_cells g _ _ w1 w1 (Upd.refl g w1)
 obtain⟨cs2,hb2,hs2⟩:∃ cs2,w2.heap[g]?=some (.cells cs2 44 (0,0))∧cs2.size=cs1.size:=by rw [hw2]; exact blk_cells g _ _ _ _ cs1 w1 hb1
 have hout2:∀ k,k < (n - 1)*4→w2.cell? ⟨g,k,none⟩=w1.cell? ⟨g,k,none⟩:=fun k hk=>by
  rw [hw2]; exact World.cell?_setCells_out g _ _ w1 ⟨g,k,none⟩ (fun _ _=>.inl (by simp only; omega))
 rw [←hw2] at hrun
 have HFIN:Hid (Chg g (g+1) w w2∧(∃ cs,w2.heap[g]?=some (.cells cs 44 (0,0))∧cs.size=cap*4)∧(∀ k,k < i*4→w2.cell? ⟨g,k,none⟩=w.cell? ⟨g,k,none⟩)∧(∀ k,i*4≤k→k < (n - 1)*4→w2.cell? ⟨g,k,none⟩=w.cell? ⟨g,k+4,none⟩)):=by
  refine⟨(((Ext.refl w).drew.chg g (g+1)).trans (U1.chg hT)).trans (U2.chg (NoU.mk hb1 (by decide))),⟨cs2,hb2,by omega⟩,fun k hk=>?_,fun k hk1 hk2=>?_⟩
  ·rw [hout2 k (by omega),hout1 k hk]
  ·obtain⟨j,rfl⟩:∃ j,k=0+i*4+j:=⟨k - i*4,by omega⟩
   have hj:j < news.length:=by rw [hnl]; omega
   rw [hout2 _ hk2,hin1 j hj];have h9:=hnv j _ (List.getElem?_eq_getElem hj);rw [show 0+i*4+j+4=(i+1)*4+j by omega];exact h9.symm
 have s1:Hid (news.length=(n - (i+1))*4):=hnl;have s2:=Lib.hid hno;have s3:Hid (∀ t,t < news.length→(w.drew.cell? ⟨g,0+i*4+t,none⟩).isSome=true∧w.drew.frozen? ⟨g,0+i*4+t,none⟩=false):=fun t ht=>⟨hthere _ (by omega),hfz _⟩
 have HW1:=Lib.hid hw1;have hl9:i+(n - (i+1))=n - 1:=by omega
 have hJ1:((i:Int) == J)=false:=beq_eq_false_iff_ne.2 (by omega);have hJ2:J.toNat=i+1:=by omega
 obtain⟨q,hq⟩:=hid_eq (n - 1);rw [←hq.out] at hl9 hrun HFIN;have hqn:q+1=n:=by rw [hq.out]; omega
 have hqc:¬ cap=q:=by omega
 have hnq:n - q=1:=by omega
 clear hw1 hw2 U1 U2 hthere hin1 hout1 hout2 hc1 hfz hone hnv hnl hno hb1 hb2 hs1 hs2 hT hb hsz
 (try simp only [Nat.mul_one] at hAA hrun)
 go_enter Tryz.func147,Tryz.ntmps147;go_upto_region 5 with (fail);have eC:=(Ext.refl w).drew;refine region_late (fun w'=>True) [6] (by kernel_rfl) (by exact trivial) (fun hHeld=>?_);refine sP 0 (h:=?_);try simp only [nr]
 refine sP 1 (h:=?_);try simp only [nr]
 refine sP 2 (h:=?_);try simp only [nr]
 refine sP 3 (h:=?_);try simp only [nr]
 refine sP 4 (h:=?_);try simp only [nr]
 refine sP 5 (h:=?_);try simp only [nr]
 refine stepL_late (i:=6) rfl (by kernel_rfl) (by kernel_rfl) (fun K hK=>?_);refine step_append_room rfl _ _ 24 rfl 44 i0 4 Tryz.underlying24 hi0 hz1 g 0 i cap (by simp [Act.eval]) AA (n - (i+1)) (cap - (i+1)) news (by simp [Act.eval,hAA]) s1.out hsrc.out s2.out (by omega) s3.out ?_;rw [←HW1.out,hl9];refine hK.out _ _ ?_;clear hK K;try simp only [nr]
 refine sP 7 (h:=?_);try simp only [nr]
 refine stepL_done (by kernel_rfl) ?_ _;clear hHeld;go_wp2;go_ret;refine⟨?_,?_⟩
 ·rw [←hq.out]; rfl
 ·have h9:=HFIN.out;rw [hq.out] at h9;exact h9
set_option maxRecDepth 100000 in
theorem sl_del_rows {w:World} {g cap n i:Nat} {cs:Array Value} (hb:w.heap[g]?=some (.cells cs 24 (0,0))) (hsz:cs.size=cap*1) (hcm:cap≤9223372036854775807) (hn:n≤cap) (hi:i < n) (hone:∀ k,k < n*1→∃ v,w.cell? ⟨g,k,none⟩=some v∧v.oneCell'=true) {J:Int} (hJ:J=(i:Int)+1) :
  Calls Tryz.prog 146 #[.slice (some ⟨g,0,none⟩) n cap,.int .i64 (i:Int),.int .i64 J] w (RetDel 1 24 g n cap i w):=by
 obtain⟨i0,hi0,hz0,hz1,hz2⟩:=info_parts info_row;have hT:NoU w g:=NoU.mk hb (by decide)
 obtain⟨news,hnl,hnv,hno⟩:∃ news:List Value,news.length=(n - (i+1))*1∧(∀ j u,news[j]?=some u→w.cell? ⟨g,(i+1)*1+j,none⟩=some u)∧∀ u∈news,u.oneCell'=true:=by
  refine⟨(List.range ((n - (i+1))*1)).map (fun j=>(w.cell? ⟨g,(i+1)*1+j,none⟩).getD undef),by simp,fun j u hu=>?_,fun u hu=>?_⟩
  ·rw [List.getElem?_map] at hu;obtain⟨j',hj',rfl⟩:=Option.map_eq_some_iff.1 hu;have hj2:=List.getElem?_eq_some_iff.1 hj';obtain⟨hj3,hj4⟩:=hj2;simp at hj3 hj4
   subst hj4;obtain⟨v,hv,-⟩:=hone ((i+1)*1+j) (by omega);rw [hv]; rfl
  ·obtain⟨j,hj,rfl⟩:=List.mem_map.1 hu;have hj3:j < (n - (i+1))*1:=by simpa using hj
   obtain⟨v,hv,h1⟩:=hone ((i+1)*1+j) (by omega);rw [hv]; exact h1
 have hfz:∀ k,w.frozen? ⟨g,k,none⟩=false:=fun k=>frozen_blk hb k
 obtain⟨AA,hAA,hsrc⟩:∃ A:Addr,(if cap=i+1 then some (⟨g,0,none⟩:Addr) else some ⟨g,(i+1)*1,none⟩)=some A∧Hid (∀ t u,news[t]?=some u→w.drew.cell? (A.add t)=some u):=by
  by_cases h:cap=i+1
  ·refine⟨⟨g,0,none⟩,by simp [h],fun t u hu=>?_⟩;have h0:news.length=0:=by rw [hnl,show n - (i+1)=0 by omega,Nat.zero_mul]
   rw [List.length_eq_zero_iff.1 h0] at hu;simp at hu
  ·refine⟨⟨g,(i+1)*1,none⟩,by simp [h],fun t u hu=>?_⟩;rw [add_none];exact hnv t u hu
 obtain⟨w1,hw1⟩:∃ w1,w1=w.drew.setCells g (0+i*1) news:=⟨_,rfl⟩
 have U1:Upd g w.drew w1:=by rw [hw1]; exact upd_cells g news _ w.drew w.drew (Upd.refl g w.drew)
 obtain⟨cs1,hb1,hs1⟩:∃ cs1,w1.heap[g]?=some (.cells cs1 24 (0,0))∧cs1.size=cs.size:=by rw [hw1]; exact blk_cells g _ _ news _ cs w.drew hb
 have hthere:∀ k,k < n*1→(w.drew.cell? ⟨g,k,none⟩).isSome=true:=fun k hk=>by obtain⟨v,hv,-⟩:=hone k hk; show (w.cell? _).isSome=true; rw [hv]; rfl
 have hin1:∀ j (hj:j < news.length),w1.cell? ⟨g,0+i*1+j,none⟩=some news[j]:=by
  rw [hw1]; exact World.cell?_setCells_in g news (0+i*1) w.drew (fun j hj=>hthere _ (by omega))
 have hout1:∀ k,k < i*1→w1.cell? ⟨g,k,none⟩=w.cell? ⟨g,k,none⟩:=fun k hk=>by
  rw [hw1]; exact World.cell?_setCells_out g news (0+i*1) w.drew ⟨g,k,none⟩ (fun _ _=>.inl (by simp only; omega))
 have hc1:∀ k,k < cap*1→(w1.cell? ⟨g,k,none⟩).isSome=true:=fun k hk=>by
  rw [cell_blk hb1,Array.getElem?_eq_getElem (by omega)]; rfl
 have hrun:=run_clear_cells (P:=Tryz.prog) w1 23 24 0 (Value.slice none 0 0) Tryz.underlying23 zero_row (List.all_eq_true.1 (by rfl)) g ((n - 1)*1) (cap - (n - 1)) (fun j hj=>hc1 _ (by have h9:j < 1:=hj; omega)) (fun j hj=>frozen_blk hb1 _);obtain⟨w2,hw2⟩:∃ w2,w2=w1.setCells g ((n - 1)*1) ((Value.slice none 0 0)).cells.toList:=⟨_,rfl⟩
 have U2:Upd g w1 w2:=by rw [hw2]; exact upd_cells g _ _ w1 w1 (Upd.refl g w1)
 obtain⟨cs2,hb2,hs2⟩:∃ cs2,w2.heap[g]?=some (.cells cs2 24 (0,0))∧cs2.size=cs1.size:=by rw [hw2]; exact blk_cells g _ _ _ _ cs1 w1 hb1
 have hout2:∀ k,k < (n - 1)*1→w2.cell? ⟨g,k,none⟩=w1.cell? ⟨g,k,none⟩:=fun k hk=>by
  rw [hw2]; exact World.cell?_setCells_out g _ _ w1 ⟨g,k,none⟩ (fun _ _=>.inl (by simp only; omega))
 rw [←hw2] at hrun
 have HFIN:Hid (Chg g (g+1) w w2∧(∃ cs,w2.heap[g]?=some (.cells cs 24 (0,0))∧cs.size=cap*1)∧(∀ k,k < i*1→w2.cell? ⟨g,k,none⟩=w.cell? ⟨g,k,none⟩)∧(∀ k,i*1≤k→k < (n - 1)*1→w2.cell? ⟨g,k,none⟩=w.cell? ⟨g,k+1,none⟩)):=by
  refine⟨(((Ext.refl w).drew.chg g (g+1)).trans (U1.chg hT)).trans (U2.chg (NoU.mk hb1 (by decide))),⟨cs2,hb2,by omega⟩,fun k hk=>?_,fun k hk1 hk2=>?_⟩
  ·rw [hout2 k (by omega),hout1 k hk]
  ·obtain⟨j,rfl⟩:∃ j,k=0+i*1+j:=⟨k - i*1,by omega⟩
   have hj:j < news.length:=by rw [hnl]; omega
   rw [hout2 _ hk2,hin1 j hj];have h9:=hnv j _ (List.getElem?_eq_getElem hj);rw [show 0+i*1+j+1=(i+1)*1+j by omega];exact h9.symm
 have s1:Hid (news.length=(n - (i+1))*1):=hnl;have s2:=Lib.hid hno;have s3:Hid (∀ t,t < news.length→(w.drew.cell? ⟨g,0+i*1+t,none⟩).isSome=true∧w.drew.frozen? ⟨g,0+i*1+t,none⟩=false):=fun t ht=>⟨hthere _ (by omega),hfz _⟩
 have HW1:=Lib.hid hw1;have hl9:i+(n - (i+1))=n - 1:=by omega
 have hJ1:((i:Int) == J)=false:=beq_eq_false_iff_ne.2 (by omega);have hJ2:J.toNat=i+1:=by omega
 obtain⟨q,hq⟩:=hid_eq (n - 1);rw [←hq.out] at hl9 hrun HFIN;have hqn:q+1=n:=by rw [hq.out]; omega
 have hqc:¬ cap=q:=by omega
 have hnq:n - q=1:=by omega
 clear hw1 hw2 U1 U2 hthere hin1 hout1 hout2 hc1 hfz hone hnv hnl hno hb1 hb2 hs1 hs2 hT hb hsz
 (try simp only [Nat.mul_one] at hAA hrun)
 go_enter Tryz.func146,Tryz.ntmps146;go_upto_region 5 with (fail);have eC:=(Ext.refl w).drew;refine region_late (fun w'=>True) [6] (by kernel_rfl) (by exact trivial) (fun hHeld=>?_);refine sP 0 (h:=?_);try simp only [nr]
 refine sP 1 (h:=?_);try simp only [nr]
 refine sP 2 (h:=?_);try simp only [nr]
 refine sP 3 (h:=?_);try simp only [nr]
 refine sP 4 (h:=?_);try simp only [nr]
 refine sP 5 (h:=?_);try simp only [nr]
 refine stepL_late (i:=6) rfl (by kernel_rfl) (by kernel_rfl) (fun K hK=>?_);refine step_append_room rfl _ _ 23 rfl 24 i0 1 Tryz.underlying23 hi0 hz1 g 0 i cap (by simp [Act.eval]) AA (n - (i+1)) (cap - (i+1)) news (by simp [Act.eval,hAA]) s1.out hsrc.out s2.out (by omega) s3.out ?_;rw [←HW1.out,hl9];refine hK.out _ _ ?_;clear hK K;try simp only [nr]
 refine sP 7 (h:=?_);try simp only [nr]
 refine stepL_done (by kernel_rfl) ?_ _;clear hHeld;go_wp2;go_ret;refine⟨?_,?_⟩
 ·rw [←hq.out]; rfl
 ·have h9:=HFIN.out;rw [hq.out] at h9;exact h9
end Go.Proofs.YtccepmpebioeiaaGreat
