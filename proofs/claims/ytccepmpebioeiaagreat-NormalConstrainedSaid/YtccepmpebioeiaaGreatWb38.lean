import Derived.Test.YtccepmpebioeiaaGreatWb37
set_option linter.all false
set_option maxHeartbeats 8000000
namespace Go.Proofs.YtccepmpebioeiaaGreat
open Go.RowKit
theorem m_made_mul {N:Nat} {w:World} (hN:N≤w.heap.size) (m n:Nat) {M' N':Int} (hM':M'=(m:Int)) (hN':N'=(n:Int)) (hm:m < 1000000) (hn:n < 1000000) (X:Nat→Nat→Rat) {ga gb:Nat}
  (hf:∀ i,i < m→∀ j,j < n→∀ w',Ext w w'→Calls Tryz.prog 126 #[.int .i64 (i:Int),.int .i64 (j:Int),.pointer (some ⟨ga,0,none⟩),.pointer (some ⟨gb,0,none⟩)] w' (RetR N w' (X i j))) :
  Calls Tryz.prog 120 #[.int .i64 M',.int .i64 N',.func (.func 126) #[] #[.pointer (some ⟨ga,0,none⟩),.pointer (some ⟨gb,0,none⟩)]] w (RetOwn N w m n X):=by
 subst hM' hN'
 have HF:=Lib.hid hf
 clear hf
 go_enter Tryz.func120,Tryz.ntmps120
 go_wp2_with (at_make; refine Hid.out ?_)
 refine wpList_make_rows rfl _ _ rfl .i64 .i64 _ _ m rfl rfl rfl rfl hm ?_
 intro w1 cs B0 hcs e1
 have ho:OwnM N w.heap.size w1.heap.size w1 w.heap.size m 0 n (fun _=>0) (fun _=>0) X:=OwnM.start hN (Nat.le_refl _) B0 hcs X (blk_lt B0) (Nat.le_refl _)
 have hs1:w.heap.size < w1.heap.size:=blk_lt B0
 clear B0
 have HCS:=Lib.hid hcs
 clear hcs
 go_wp2
 go_loopw [14] (fun i wr=>∃ k:Nat,k≤m∧i=.int .i64 k∧Ext w wr∧∃ β κ,OwnM N w.heap.size wr.heap.size wr w.heap.size m k n β κ X) (fun i _=>m - (intOf i).toNat)
 case atStart=>exact⟨0,Nat.zero_le _,rfl,e1,_,_,ho⟩
 case round =>
  clear ho e1
  obtain⟨k,hk,rfl,hE,β,κ,ho⟩:=hrel
  have hsr:w.heap.size < wr.heap.size:=by have:=ho.hhi; omega
  by_cases hlt:k < m
  ·go_wp2_with (at_make; refine Hid.out ?_)
   refine wpList_make_rats rfl _ _ rfl .i64 .i64 _ _ n rfl rfl rfl rfl hn ?_
   intro w2 cs2 B2 hcs2 e2
   have ho2:=ho.ext e2
   have hR:RowB N w2 wr.heap.size n 0 (X k):=⟨by omega,Nat.zero_le _,⟨cs2,B2,hcs2⟩,fun j hj=>by omega⟩
   obtain⟨u0,z0⟩:=ho2.hthere hlt
   have z1:=ho2.hfrozen k
   have hs2:wr.heap.size < w2.heap.size:=blk_lt B2
   have HCS2:=Lib.hid hcs2
   clear B2 hcs2 ho
   go_upto_region 6 with (fail)
   obtain⟨w3,E3,C3,hs3,y0,ho3⟩:=ho2.setHead (Nat.le_refl k) hlt (.slice (some ⟨wr.heap.size,0,none⟩) n n)
   rw [E3]
   replace hE:=C3.ext (hE.trans e2) (Nat.le_refl _)
   replace hR:=hR.chg C3 (by omega) (by omega)
   have hs4:wr.heap.size < w3.heap.size:=by omega
   generalize hgr:wr.heap.size=gr at *
   clear hgr E3 C3 hs3 ho2 z0 z1 e2 hs2
   have Y0:=y0
   go_wp2
   go_loopw [27] (fun i ws=>∃ j:Nat,j≤n∧i=.int .i64 j∧Ext w ws∧gr < ws.heap.size∧ws.cell? ⟨w.heap.size,k,none⟩=some (.slice (some ⟨gr,0,none⟩) n n)∧OwnM N w.heap.size gr ws w.heap.size m k n β κ X∧RowB N ws gr n j (X k)) (fun i _=>n - (intOf i).toNat)
   case atStart=>exact⟨0,Nat.zero_le _,rfl,hE,hs4,y0,ho3,hR⟩
   case round =>
    clear hE y0 ho3 hR hs4 Y0
    obtain⟨j,hj,rfl,hE,hs4,y0,ho3,hR⟩:=hrel
    by_cases hlt':j < n
    ·go_upto_region 9 with (fail)
     have eC:=(Ext.refl wr).drew
     refine region_late (fun w'=>w'.cell? ⟨w.heap.size,k,none⟩=some (.slice (some ⟨gr,0,none⟩) n n)) [10] (by kernel_rfl) (by exact eC.cell y0) (fun hHeld=>?_)
     refine sP 0 (h:=?_)
     try simp only [nr]
     refine sP 1 (h:=?_)
     try simp only [nr]
     refine sP 2 (h:=?_)
     try simp only [nr]
     refine sT 3 (h:=?_)
     try simp only [nr]
     refine sP 4 (h:=?_)
     try simp only [nr]
     refine sP 5 (h:=?_)
     try simp only [nr]
     refine sP 6 (h:=?_)
     try simp only [nr]
     refine sP 7 (h:=?_)
     try simp only [nr]
     refine stepL_only (i:=8) rfl (by kernel_rfl) (fun K hK=>?_)
     go_simp
     refine (HF.out k hlt j hlt' _ (hE.trans eC)).mono ?_
     intro e w5 hh
     obtain⟨b9,A9,k9,c9,A10,k10,c10,rfl,hb9,g9,g10,e5⟩:=hh.form
     replace eC:=eC.trans e5
     have hR5:=hR.ext eC
     obtain⟨x0,v0⟩:=hR5.there (o:=j*4) (by omega)
     obtain⟨x1,v1⟩:=hR5.there (o:=j*4+1) (by omega)
     obtain⟨x2,v2⟩:=hR5.there (o:=j*4+2) (by omega)
     obtain⟨x3,v3⟩:=hR5.there (o:=j*4+3) (by omega)
     have f0:=hR5.frozen (j*4)
     have f1:=hR5.frozen (j*4+1)
     have f2:=hR5.frozen (j*4+2)
     have f3:=hR5.frozen (j*4+3)
     go_wp2_with fail
     clear hHeld
     refine hK.out _ _ (by exact eC.cell y0) fun hHeld=>?_
     clear hK K
     try simp only [nr]
     refine sP 9 (h:=?_)
     try simp only [nr]
     refine stepL_late (i:=10) rfl (by kernel_rfl) (by kernel_rfl) (fun K hK=>?_)
     go_simp
     refine hK.out _ _ ?_
     clear hK K
     try simp only [nr]
     refine stepL_done (by kernel_rfl) ?_ _
     clear hHeld
     obtain⟨w6,E6,C6,hs6,hr6⟩:=hR5.set (i:=j) (q:=X k j) hlt' (Nat.le_refl _) hb9 g9 g10
     rw [E6]
     replace hE:=C6.ext (hE.trans eC) (by omega)
     replace ho3:=(ho3.ext eC).chg C6 (by omega) (.inl (Nat.le_refl _))
     replace y0:=C6.cell (p:=⟨w.heap.size,k,none⟩) (eC.cell y0) (.inl (by simp only; omega))
     have hr7:=(hr6.less (n':=j+1) (by omega)).congr (y:=X k) (fun c hc=>by unfold upd; split; (rename_i e; rw [e]); rfl)
     have hs7:gr < w6.heap.size:=by have:=eC.size; omega
     clear E6 C6 hs6 hr6 hR hR5 v0 v1 v2 v3 f0 f1 f2 f3
     go_wp2
     go_roundw
     case rel=>exact⟨j+1,by omega,by go_num,hE,hs7,y0,ho3,hr7⟩
     case measure=>simp [intOf]; omega
    ·obtain rfl:j=n:=by omega
     have ho4:=(ho3.more hlt y0 hR (Nat.le_refl _) (by unfold maxLen; omega)).congr (B:=X) (fun i _ c _=>by unfold updM; split; (rename_i e; rw [e]); rfl)
     go_wp2
     go_roundw
     case rel=>exact⟨k+1,by omega,by go_num,hE,_,_,ho4⟩
     case measure=>simp [intOf]; omega
  ·obtain rfl:k=m:=by omega
   go_wp2
   go_ret
   exact⟨_,_,β,κ,rfl,by unfold maxLen; omega,ho,hE⟩
theorem m_made_sub {N:Nat} {w:World} (hN:N≤w.heap.size) (m n:Nat) {M' N':Int} (hM':M'=(m:Int)) (hN':N'=(n:Int)) (hm:m < 1000000) (hn:n < 1000000) (X:Nat→Nat→Rat) {ga gb:Nat}
  (hf:∀ i,i < m→∀ j,j < n→∀ w',Ext w w'→Calls Tryz.prog 129 #[.int .i64 (i:Int),.int .i64 (j:Int),.pointer (some ⟨ga,0,none⟩),.pointer (some ⟨gb,0,none⟩)] w' (RetR N w' (X i j))) :
  Calls Tryz.prog 120 #[.int .i64 M',.int .i64 N',.func (.func 129) #[] #[.pointer (some ⟨ga,0,none⟩),.pointer (some ⟨gb,0,none⟩)]] w (RetOwn N w m n X):=by
 subst hM' hN'
 have HF:=Lib.hid hf
 clear hf
 go_enter Tryz.func120,Tryz.ntmps120
 go_wp2_with (at_make; refine Hid.out ?_)
 refine wpList_make_rows rfl _ _ rfl .i64 .i64 _ _ m rfl rfl rfl rfl hm ?_
 intro w1 cs B0 hcs e1
 have ho:OwnM N w.heap.size w1.heap.size w1 w.heap.size m 0 n (fun _=>0) (fun _=>0) X:=OwnM.start hN (Nat.le_refl _) B0 hcs X (blk_lt B0) (Nat.le_refl _)
 have hs1:w.heap.size < w1.heap.size:=blk_lt B0
 clear B0
 have HCS:=Lib.hid hcs
 clear hcs
 go_wp2
 go_loopw [14] (fun i wr=>∃ k:Nat,k≤m∧i=.int .i64 k∧Ext w wr∧∃ β κ,OwnM N w.heap.size wr.heap.size wr w.heap.size m k n β κ X) (fun i _=>m - (intOf i).toNat)
 case atStart=>exact⟨0,Nat.zero_le _,rfl,e1,_,_,ho⟩
 case round =>
  clear ho e1
  obtain⟨k,hk,rfl,hE,β,κ,ho⟩:=hrel
  have hsr:w.heap.size < wr.heap.size:=by have:=ho.hhi; omega
  by_cases hlt:k < m
  ·go_wp2_with (at_make; refine Hid.out ?_)
   refine wpList_make_rats rfl _ _ rfl .i64 .i64 _ _ n rfl rfl rfl rfl hn ?_
   intro w2 cs2 B2 hcs2 e2
   have ho2:=ho.ext e2
   have hR:RowB N w2 wr.heap.size n 0 (X k):=⟨by omega,Nat.zero_le _,⟨cs2,B2,hcs2⟩,fun j hj=>by omega⟩
   obtain⟨u0,z0⟩:=ho2.hthere hlt
   have z1:=ho2.hfrozen k
   have hs2:wr.heap.size < w2.heap.size:=blk_lt B2
   have HCS2:=Lib.hid hcs2
   clear B2 hcs2 ho
   go_upto_region 6 with (fail)
   obtain⟨w3,E3,C3,hs3,y0,ho3⟩:=ho2.setHead (Nat.le_refl k) hlt (.slice (some ⟨wr.heap.size,0,none⟩) n n)
   rw [E3]
   replace hE:=C3.ext (hE.trans e2) (Nat.le_refl _)
   replace hR:=hR.chg C3 (by omega) (by omega)
   have hs4:wr.heap.size < w3.heap.size:=by omega
   generalize hgr:wr.heap.size=gr at *
   clear hgr E3 C3 hs3 ho2 z0 z1 e2 hs2
   have Y0:=y0
   go_wp2
   go_loopw [27] (fun i ws=>∃ j:Nat,j≤n∧i=.int .i64 j∧Ext w ws∧gr < ws.heap.size∧ws.cell? ⟨w.heap.size,k,none⟩=some (.slice (some ⟨gr,0,none⟩) n n)∧OwnM N w.heap.size gr ws w.heap.size m k n β κ X∧RowB N ws gr n j (X k)) (fun i _=>n - (intOf i).toNat)
   case atStart=>exact⟨0,Nat.zero_le _,rfl,hE,hs4,y0,ho3,hR⟩
   case round =>
    clear hE y0 ho3 hR hs4 Y0
    obtain⟨j,hj,rfl,hE,hs4,y0,ho3,hR⟩:=hrel
    by_cases hlt':j < n
    ·go_upto_region 9 with (fail)
     have eC:=(Ext.refl wr).drew
     refine region_late (fun w'=>w'.cell? ⟨w.heap.size,k,none⟩=some (.slice (some ⟨gr,0,none⟩) n n)) [10] (by kernel_rfl) (by exact eC.cell y0) (fun hHeld=>?_)
     refine sP 0 (h:=?_)
     try simp only [nr]
     refine sP 1 (h:=?_)
     try simp only [nr]
     refine sP 2 (h:=?_)
     try simp only [nr]
     refine sT 3 (h:=?_)
     try simp only [nr]
     refine sP 4 (h:=?_)
     try simp only [nr]
     refine sP 5 (h:=?_)
     try simp only [nr]
     refine sP 6 (h:=?_)
     try simp only [nr]
     refine sP 7 (h:=?_)
     try simp only [nr]
     refine stepL_only (i:=8) rfl (by kernel_rfl) (fun K hK=>?_)
     go_simp
     refine (HF.out k hlt j hlt' _ (hE.trans eC)).mono ?_
     intro e w5 hh
     obtain⟨b9,A9,k9,c9,A10,k10,c10,rfl,hb9,g9,g10,e5⟩:=hh.form
     replace eC:=eC.trans e5
     have hR5:=hR.ext eC
     obtain⟨x0,v0⟩:=hR5.there (o:=j*4) (by omega)
     obtain⟨x1,v1⟩:=hR5.there (o:=j*4+1) (by omega)
     obtain⟨x2,v2⟩:=hR5.there (o:=j*4+2) (by omega)
     obtain⟨x3,v3⟩:=hR5.there (o:=j*4+3) (by omega)
     have f0:=hR5.frozen (j*4)
     have f1:=hR5.frozen (j*4+1)
     have f2:=hR5.frozen (j*4+2)
     have f3:=hR5.frozen (j*4+3)
     go_wp2_with fail
     clear hHeld
     refine hK.out _ _ (by exact eC.cell y0) fun hHeld=>?_
     clear hK K
     try simp only [nr]
     refine sP 9 (h:=?_)
     try simp only [nr]
     refine stepL_late (i:=10) rfl (by kernel_rfl) (by kernel_rfl) (fun K hK=>?_)
     go_simp
     refine hK.out _ _ ?_
     clear hK K
     try simp only [nr]
     refine stepL_done (by kernel_rfl) ?_ _
     clear hHeld
     obtain⟨w6,E6,C6,hs6,hr6⟩:=hR5.set (i:=j) (q:=X k j) hlt' (Nat.le_refl _) hb9 g9 g10
     rw [E6]
     replace hE:=C6.ext (hE.trans eC) (by omega)
     replace ho3:=(ho3.ext eC).chg C6 (by omega) (.inl (Nat.le_refl _))
     replace y0:=C6.cell (p:=⟨w.heap.size,k,none⟩) (eC.cell y0) (.inl (by simp only; omega))
     have hr7:=(hr6.less (n':=j+1) (by omega)).congr (y:=X k) (fun c hc=>by unfold upd; split; (rename_i e; rw [e]); rfl)
     have hs7:gr < w6.heap.size:=by have:=eC.size; omega
     clear E6 C6 hs6 hr6 hR hR5 v0 v1 v2 v3 f0 f1 f2 f3
     go_wp2
     go_roundw
     case rel=>exact⟨j+1,by omega,by go_num,hE,hs7,y0,ho3,hr7⟩
     case measure=>simp [intOf]; omega
    ·obtain rfl:j=n:=by omega
     have ho4:=(ho3.more hlt y0 hR (Nat.le_refl _) (by unfold maxLen; omega)).congr (B:=X) (fun i _ c _=>by unfold updM; split; (rename_i e; rw [e]); rfl)
     go_wp2
     go_roundw
     case rel=>exact⟨k+1,by omega,by go_num,hE,_,_,ho4⟩
     case measure=>simp [intOf]; omega
  ·obtain rfl:k=m:=by omega
   go_wp2
   go_ret
   exact⟨_,_,β,κ,rfl,by unfold maxLen; omega,ho,hE⟩
theorem m_check2 {N lo hi lo' hi':Nat} {w:World} {v v':Value} {g m n m' n':Nat} {X Y:Nat→Nat→Rat} (hB:w.cell? ⟨g,0,none⟩=some v∧w.cell? ⟨g,1,none⟩=some v') (h:MtV N lo hi w v m n X) (h':MtV N lo' hi' w v' m' n' Y) (hm0:0 < m) (hm:m≤64) (hn0:0 < n) (hn:n≤64) (hm0':0 < m') (hm':m'≤64) (hn0':0 < n') (hn':n'≤64)
  (hs:∀ i,i < m→∀ j,j < n→Sz (X i j)) (hs':∀ i,i < m'→∀ j,j < n'→Sz (Y i j)) :
  Calls Tryz.prog 124 #[.slice (some ⟨g,0,none⟩) 2 2] w (RetV w (.int .i64 0)):=by
 have HI:=Lib.hid h
 have HI':=Lib.hid h'
 have HS:=Lib.hid hs
 have HS':=Lib.hid hs'
 have HB:=Lib.hid hB
 clear h h' hs hs' hB
 go_enter Tryz.func124,Tryz.ntmps124
 go_wp2
 go_loopw [8] (fun i wr=>∃ k:Nat,k≤2∧i=.int .i64 k∧Ext w wr) (fun i _=>2 - (intOf i).toNat)
 case atStart=>exact⟨0,by omega,rfl,Ext.refl w⟩
 case round =>
  obtain⟨k,hk,rfl,hE⟩:=hrel
  have hk':k=0∨k=1∨k=2:=by omega
  rcases hk' with rfl | rfl | rfl
  ·have b0:=hE.cell HB.out.1
   go_wp2_with (go_at_call 169; refine Hid.out ?_)
   refine (m_check (HI.out.ext hE) hm0 hm hn0 hn HS.out).mono ?_
   rintro e w1 ⟨rfl,e1⟩
   replace hE:=hE.trans e1
   clear b0 e1
   go_wp2
   go_roundw
   case rel=>exact⟨1,by omega,by go_num,hE⟩
   case measure=>simp [intOf]
  ·have b0:=hE.cell HB.out.2
   go_wp2_with (go_at_call 169; refine Hid.out ?_)
   refine (m_check (HI'.out.ext hE) hm0' hm' hn0' hn' HS'.out).mono ?_
   rintro e w1 ⟨rfl,e1⟩
   replace hE:=hE.trans e1
   clear b0 e1
   go_wp2
   go_roundw
   case rel=>exact⟨2,by omega,by go_num,hE⟩
   case measure=>simp [intOf]
  ·go_wp2
   go_ret
   exact⟨rfl,hE⟩
theorem m_mul1 {N lo hi lo' hi':Nat} {w:World} {ga gb:Nat} {A B:Option Addr} {m n p c c':Nat} {X Y:Nat→Nat→Rat} (ha:w.cell? ⟨ga,0,none⟩=some (.slice A m c)) (hb:w.cell? ⟨gb,0,none⟩=some (.slice B p c')) (h:MtV N lo hi w (.slice A m c) m n X) (h':MtV N lo' hi' w (.slice B p c') p n Y) {i j:Nat} (hi':i < m) (hj:j < p) (hm:m < 1000000) (hp:p < 1000000)
  {k k':Nat} (hk:HtL n k (X i)) (hk':HtL n k' (Y j)) (hK:n*(k+k'+1)+1≤29000000000) :
  Calls Tryz.prog 126 #[.int .i64 (i:Int),.int .i64 (j:Int),.pointer (some ⟨ga,0,none⟩),.pointer (some ⟨gb,0,none⟩)] w (RetR N w (sum n (fun t=>X i t*Y j t))):=by
 have HK:=Lib.hid hK
 have HX:=Lib.hid hk
 have HY:=Lib.hid hk'
 have hN:=h.le
 obtain⟨S,hS⟩:=hid_eq (sum n (fun t=>X i t*Y j t))
 rw [←hS.out]
 have hI:=h
 have hI':=h'
 obtain⟨b,off,rfl,-,-,hx⟩:=h.addr (by omega)
 obtain⟨A1,c1,p0,-,-,hl⟩:=hx i hi'
 obtain⟨b2,off2,rfl,-,-,hx'⟩:=h'.addr (by omega)
 obtain⟨A2,c2,q0,-,-,hl'⟩:=hx' j hj
 have l0:=cell_lt ha
 have l0':=cell_lt hb
 have l1:=cell_lt p0
 have l2:=cell_lt q0
 simp only at l0 l0' l1 l2
 have HL:=Lib.hid hl
 have HL':=Lib.hid hl'
 clear hx hx' h h' hk hk' hK hl hl'
 go_enter Tryz.func126,Tryz.ntmps126
 go_upto_region 1 with (fail)
 refine boxes1 ?_
 intro W hE hsz B0
 replace ha:=hE.cell ha
 replace hb:=hE.cell hb
 replace p0:=hE.cell p0
 replace q0:=hE.cell q0
 have eC:=(Ext.refl W).drew
 refine region_late (fun w'=>w'.cell? ⟨ga,0,none⟩=some (.slice (some ⟨b,off,none⟩) m c)∧w'.cell? ⟨gb,0,none⟩=some (.slice (some ⟨b2,off2,none⟩) p c')∧w'.cell? ⟨b,off+i,none⟩=some (.slice A1 n c1)∧w'.cell? ⟨b2,off2+j,none⟩=some (.slice A2 n c2)) [9] (by kernel_rfl) (by exact⟨eC.cell ha,eC.cell hb,eC.cell p0,eC.cell q0⟩) (fun hHeld=>?_)
 refine sT 0 (h:=?_)
 try simp only [nr]
 refine sP 1 (h:=?_)
 try simp only [nr]
 refine sP 2 (h:=?_)
 try simp only [nr]
 refine sT 3 (h:=?_)
 try simp only [nr]
 refine sT 4 (h:=?_)
 try simp only [nr]
 refine sP 5 (h:=?_)
 try simp only [nr]
 refine sP 6 (h:=?_)
 try simp only [nr]
 refine sT 7 (h:=?_)
 try simp only [nr]
 refine stepL_only (i:=8) rfl (by kernel_rfl) (fun K hK=>?_)
 go_simp
 refine (m_dot (HL.out.ext (hE.trans eC)) (HL'.out.ext (hE.trans eC)) HX.out HY.out HK.out).mono ?_
 rw [←hS.out]
 intro e w8 hh
 obtain⟨b9,A11,k11,c11,A12,k12,c12,rfl,hb9,g9,g10,e8⟩:=hh.form
 replace eC:=eC.trans e8
 have D0:=eC.block B0
 obtain⟨u0,u1,u2,u3,u4,u5,u6,u7⟩:=cells4 D0
 go_wp2_with fail
 clear hHeld
 refine hK.out _ _ (by exact⟨eC.cell ha,eC.cell hb,eC.cell p0,eC.cell q0⟩) fun hHeld=>?_
 clear hK K
 try simp only [nr]
 refine stepL_late (i:=9) rfl (by kernel_rfl) (by kernel_rfl) (fun K hK=>?_)
 go_simp
 refine hK.out _ _ ?_
 clear hK K
 try simp only [nr]
 refine stepL_done (by kernel_rfl) ?_ _
 clear hHeld
 go_wp2
 exact fin_rat rfl rfl rfl (hE.trans eC) D0 (by omega) hN g9 g10 hb9
theorem m_sub1 {N lo hi lo' hi':Nat} {w:World} {ga gb:Nat} {A B:Option Addr} {m n c c':Nat} {X Y:Nat→Nat→Rat} (ha:w.cell? ⟨ga,0,none⟩=some (.slice A m c)) (hb:w.cell? ⟨gb,0,none⟩=some (.slice B m c')) (h:MtV N lo hi w (.slice A m c) m n X) (h':MtV N lo' hi' w (.slice B m c') m n Y) {i j:Nat} (hi':i < m) (hj:j < n) (hm:m < 1000000) (hn:n < 1000000)
  (hk:Sz (X i j)) (hk':Sz (Y i j)) :
  Calls Tryz.prog 129 #[.int .i64 (i:Int),.int .i64 (j:Int),.pointer (some ⟨ga,0,none⟩),.pointer (some ⟨gb,0,none⟩)] w (RetR N w (X i j - Y i j)):=by
 have HX:=Lib.hid hk
 have HY:=Lib.hid hk'
 have hN:=h.le
 obtain⟨S,hS⟩:=hid_eq (X i j - Y i j)
 rw [←hS.out]
 obtain⟨b,off,rfl,-,-,hx⟩:=h.addr (by omega)
 obtain⟨A1,c1,p0,-,hc1,hl⟩:=hx i hi'
 obtain⟨b2,off2,rfl,-,-,hx'⟩:=h'.addr (by omega)
 obtain⟨A2,c2,q0,-,hc2,hl'⟩:=hx' i hi'
 obtain⟨b3,off3,rfl,-,-,hy⟩:=hl.addr (by omega)
 obtain⟨n1,A3,k3,c3,A4,k4,c4,t0,t1,t2,t3,hb1,g1,g2⟩:=(hy j hj).open
 obtain⟨b4,off4,rfl,-,-,hy'⟩:=hl'.addr (by omega)
 obtain⟨n2,A5,k5,c5,A6,k6,c6,s0,s1,s2,s3,hb2,g3,g4⟩:=(hy' j hj).open
 have l0:=cell_lt ha
 have l0':=cell_lt hb
 have l1:=cell_lt p0
 have l2:=cell_lt q0
 have l3:=cell_lt t0
 have l4:=cell_lt s0
 simp only at l0 l0' l1 l2 l3 l4
 unfold maxLen at hc1 hc2
 clear hx hx' h h' hk hk' hl hl' hy hy'
 go_enter Tryz.func129,Tryz.ntmps129
 go_upto_region 1 with (fail)
 refine boxes1 ?_
 intro W hE hsz B0
 replace ha:=hE.cell ha
 replace hb:=hE.cell hb
 replace p0:=hE.cell p0
 replace q0:=hE.cell q0
 replace t0:=hE.cell t0
 replace t1:=hE.cell t1
 replace t2:=hE.cell t2
 replace t3:=hE.cell t3
 replace s0:=hE.cell s0
 replace s1:=hE.cell s1
 replace s2:=hE.cell s2
 replace s3:=hE.cell s3
 replace g1:=g1.ext hE
 replace g2:=g2.ext hE
 replace g3:=g3.ext hE
 replace g4:=g4.ext hE
 have eC:=(Ext.refl W).drew
 refine region_late (fun w'=>w'.cell? ⟨ga,0,none⟩=some (.slice (some ⟨b,off,none⟩) m c)∧w'.cell? ⟨gb,0,none⟩=some (.slice (some ⟨b2,off2,none⟩) m c')∧w'.cell? ⟨b,off+i,none⟩=some (.slice (some ⟨b3,off3,none⟩) n c1)∧w'.cell? ⟨b2,off2+i,none⟩=some (.slice (some ⟨b4,off4,none⟩) n c2)∧w'.cell? ⟨b3,off3+j*4,none⟩=some (.bool n1)∧w'.cell? ⟨b3,off3+j*4+1,none⟩=some (.slice A3 k3 c3)∧w'.cell? ⟨b3,off3+j*4+2,none⟩=some (.bool false)∧w'.cell? ⟨b3,off3+j*4+3,none⟩=some (.slice A4 k4 c4)∧w'.cell? ⟨b4,off4+j*4,none⟩=some (.bool n2)∧w'.cell? ⟨b4,off4+j*4+1,none⟩=some (.slice A5 k5 c5)∧w'.cell? ⟨b4,off4+j*4+2,none⟩=some (.bool false)∧w'.cell? ⟨b4,off4+j*4+3,none⟩=some (.slice A6 k6 c6)) [15] (by kernel_rfl) (by exact⟨eC.cell ha,eC.cell hb,eC.cell p0,eC.cell q0,eC.cell t0,eC.cell t1,eC.cell t2,eC.cell t3,eC.cell s0,eC.cell s1,eC.cell s2,eC.cell s3⟩) (fun hHeld=>?_)
 refine sT 0 (h:=?_)
 try simp only [nr]
 refine sP 1 (h:=?_)
 try simp only [nr]
 refine sP 2 (h:=?_)
 try simp only [nr]
 refine sT 3 (h:=?_)
 try simp only [nr]
 refine sP 4 (h:=?_)
 try simp only [nr]
 refine sP 5 (h:=?_)
 try simp only [nr]
 refine sT 6 (h:=?_)
 try simp only [nr]
 refine sT 7 (h:=?_)
 try simp only [nr]
 refine sP 8 (h:=?_)
 try simp only [nr]
 refine sP 9 (h:=?_)
 try simp only [nr]
 refine sT 10 (h:=?_)
 try simp only [nr]
 refine sP 11 (h:=?_)
 try simp only [nr]
 refine sP 12 (h:=?_)
 try simp only [nr]
 refine sT 13 (h:=?_)
 try simp only [nr]
 refine stepL_only (i:=14) rfl (by kernel_rfl) (fun K hK=>?_)
 go_simp
 refine (f_sub (x:=X i j) (y:=Y i j) (by exact (RatV.mk hb1 g1 g2).ext eC) (by exact (RatV.mk hb2 g3 g4).ext eC) HX.out HY.out).mono ?_
 rw [←hS.out]
 intro e w8 hh
 obtain⟨b9,A11,k11,c11,A12,k12,c12,rfl,hb9,g9,g10,e8⟩:=hh.form
 replace eC:=eC.trans e8
 have D0:=eC.block B0
 obtain⟨u0,u1,u2,u3,u4,u5,u6,u7⟩:=cells4 D0
 go_wp2_with fail
 clear hHeld
 refine hK.out _ _ (by exact⟨eC.cell ha,eC.cell hb,eC.cell p0,eC.cell q0,eC.cell t0,eC.cell t1,eC.cell t2,eC.cell t3,eC.cell s0,eC.cell s1,eC.cell s2,eC.cell s3⟩) fun hHeld=>?_
 clear hK K
 try simp only [nr]
 refine stepL_late (i:=15) rfl (by kernel_rfl) (by kernel_rfl) (fun K hK=>?_)
 go_simp
 refine hK.out _ _ ?_
 clear hK K
 try simp only [nr]
 refine stepL_done (by kernel_rfl) ?_ _
 clear hHeld
 go_wp2
 exact fin_rat rfl rfl rfl (hE.trans eC) D0 (by omega) hN g9 g10 hb9
set_option maxRecDepth 100000 in
theorem m_mul {N lo hi lo' hi':Nat} {w:World} {v v':Value} {m n p:Nat} {X Y:Nat→Nat→Rat} (h:MtV N lo hi w v m n X) (h':MtV N lo' hi' w v' n p Y) (hm0:0 < m) (hm:m≤64) (hn0:0 < n) (hn:n≤64) (hp0:0 < p) (hp:p≤64)
  {k k':Nat} (hk:HtM m n k X) (hk':HtM n p k' Y) (hK:n*(k+k'+1)+1≤29000000000) :
  Calls Tryz.prog 66 #[v,v'] w (RetOwn2 N w m p (mm n X Y)):=by
 have h9:=Nat.le_mul_of_pos_left (k+k'+1) hn0
 have HS:Hid (∀ i,i < m→∀ j,j < n→Sz (X i j)):=fun i hi j hj=>(hk i hi j hj).sz (by omega)
 have HS':Hid (∀ i,i < n→∀ j,j < p→Sz (Y i j)):=fun i hi j hj=>(hk' i hi j hj).sz (by omega)
 have HX:=Lib.hid hk
 have HY:=Lib.hid hk'
 have HK:=Lib.hid hK
 have hN:=h.le
 obtain⟨Z,hZ⟩:=hid_eq (mm n X Y)
 have HZ:Hid (∀ i j,sum n (fun t=>X i t*Y t j)=Z i j):=fun i j=>by rw [hZ.out]; rfl
 rw [←hZ.out]
 obtain⟨Rf,hRf⟩:=hid_eq (RetOwn2 N w m p Z)
 rw [←hRf.out]
 obtain⟨A,c,rfl,hmc,hcm⟩:=h.form
 obtain⟨A',c',rfl,hnc,hcm'⟩:=h'.form
 have hI:=h
 have hI':=h'
 obtain⟨b,off,rfl,-,-,hx⟩:=h.addr hm0
 obtain⟨A1,c1,p0,hnc1,hcm1,-⟩:=hx 0 hm0
 rw [Nat.add_zero] at p0
 obtain⟨b',off',rfl,-,-,hx'⟩:=h'.addr hn0
 obtain⟨A2,c2,q0,hnc2,hcm2,-⟩:=hx' 0 hn0
 rw [Nat.add_zero] at q0
 unfold maxLen at hcm1 hcm2 hcm hcm'
 have t1:((n:Int) != (n:Int))=false:=by simp
 clear h h' hx hx' hk hk' hK h9
 go_enter Tryz.func66,Tryz.ntmps66
 go_upto_region 1 with (fail)
 refine boxes1 ?_
 intro W hE hsz B0
 obtain⟨a0,-⟩:=cells1 B0
 have hl0:=blk_lt B0
 go_wp2_with (go_at_call 124; refine Hid.out ?_)
 refine boxesC1 ?_
 intro w1 e1 hsz1 B1
 obtain⟨b0,b1,-⟩:=cells2 B1
 replace hE:=hE.trans e1
 replace B0:=e1.block B0
 refine (m_check2 ⟨b0,b1⟩ (hI.ext hE) (hI'.ext hE) hm0 hm hn0 hn hn0 hn hp0 hp HS.out HS'.out).mono ?_
 rintro e w2 ⟨rfl,e2⟩
 replace hE:=hE.trans e2
 replace B0:=e2.block B0
 clear a0 b0 b1 B1 e1 e2 hsz hsz1
 obtain⟨a0,-⟩:=cells1 B0
 replace p0:=hE.cell p0
 replace q0:=hE.cell q0
 go_wp2_with (go_at_call 125; refine Hid.out ?_)
 refine (m_turned (hI'.ext hE) hn0 (by omega) (by omega)).mono ?_
 rintro e w3 ⟨h3,cap3,β3,κ3,rfl,hcap3,ho3,e3⟩
 have hT:=ho3.mtv ho3.mle hcap3
 have hmle:=ho3.mle
 replace hE:=hE.trans e3
 replace B0:=e3.block B0
 clear ho3 a0 hl0
 replace p0:=e3.cell p0
 replace q0:=e3.cell q0
 clear e3
 go_upto_region 7 with (fail)
 refine boxes1 ?_
 intro w4 e4 hsz4 B4
 obtain⟨d0,-⟩:=cells1 B4
 replace hE:=hE.trans e4
 replace B0:=e4.block B0
 obtain⟨a0,-⟩:=cells1 B0
 replace p0:=e4.cell p0
 replace q0:=e4.cell q0
 replace hT:=hT.ext e4
 obtain⟨g3,hg3⟩:∃ g3,g3=w3.heap.size:=⟨_,rfl⟩
 rw [←hg3] at d0 ⊢
 clear B4 e4 hg3 hsz4
 have hEz:=hE.size
 have eC:=(Ext.refl w4).drew
 refine region_late (fun w'=>w'.cell? ⟨w.heap.size,0,none⟩=some (.slice (some ⟨b,off,none⟩) m c)∧w'.cell? ⟨b',off',none⟩=some (.slice A2 p c2)) [] (by kernel_rfl) (by exact⟨eC.cell a0,eC.cell q0⟩) (fun hHeld=>?_)
 refine sT 0 (h:=?_)
 try simp only [nr]
 refine sP 1 (h:=?_)
 try simp only [nr]
 refine sP 2 (h:=?_)
 try simp only [nr]
 refine sP 3 (h:=?_)
 try simp only [nr]
 refine sT 4 (h:=?_)
 try simp only [nr]
 refine sP 5 (h:=?_)
 try simp only [nr]
 refine sP 6 (h:=?_)
 try simp only [nr]
 refine stepL_only (i:=7) rfl (by kernel_rfl) (fun K hK=>?_)
 go_simp
 refine (m_made_mul (N:=N) (by show N≤w4.heap.size; omega) m p rfl rfl (by omega) (by omega) Z (fun i hi' j hj w' e=>by rw [←HZ.out i j]; exact m_mul1 (Y:=fun a b=>Y b a) ((eC.trans e).cell a0) ((eC.trans e).cell d0) (hI.ext (hE.trans (eC.trans e))) (hT.ext (eC.trans e)) hi' hj (by omega) (by omega) (HX.out i hi') (fun t ht=>HY.out t ht j hj) HK.out)).mono ?_
 rintro e w5 ⟨h5,cap5,β5,κ5,rfl,hcap5,ho5,e5⟩
 replace eC:=eC.trans e5
 go_wp2_with fail
 clear hHeld
 refine hK.out _ _ (by exact⟨eC.cell a0,eC.cell q0⟩) fun hHeld=>?_
 clear hK K
 try simp only [nr]
 refine sP 8 (h:=?_)
 try simp only [nr]
 refine sP 9 (h:=?_)
 try simp only [nr]
 refine stepL_done (by kernel_rfl) ?_ _
 clear hHeld
 go_wp2
 first | go_ret2 | skip
 rw [hRf.out]
 exact⟨h5,cap5,β5,κ5,rfl,hcap5,ho5.wide hEz hN (Nat.le_refl _) (Nat.le_refl _),hE.trans eC⟩
theorem m_both {N lo hi lo' hi':Nat} {w:World} {v v':Value} {m n:Nat} {X Y:Nat→Nat→Rat} (h:MtV N lo hi w v m n X) (h':MtV N lo' hi' w v' m n Y) (hm0:0 < m) (hm:m≤64) (hn0:0 < n) (hn:n≤64)
  (hs:∀ i,i < m→∀ j,j < n→Sz (X i j)) (hs':∀ i,i < m→∀ j,j < n→Sz (Y i j)) :
  Calls Tryz.prog 128 #[v,v'] w (RetV w (.int .i64 0)):=by
 have HS:=Lib.hid hs
 have HS':=Lib.hid hs'
 obtain⟨A,c,rfl,hmc,hcm⟩:=h.form
 obtain⟨A',c',rfl,hmc',hcm'⟩:=h'.form
 have hI:=h
 have hI':=h'
 obtain⟨b,off,rfl,-,-,hx⟩:=h.addr hm0
 obtain⟨A1,c1,p0,hnc1,hcm1,-⟩:=hx 0 hm0
 rw [Nat.add_zero] at p0
 obtain⟨b',off',rfl,-,-,hx'⟩:=h'.addr hm0
 obtain⟨A2,c2,q0,hnc2,hcm2,-⟩:=hx' 0 hm0
 rw [Nat.add_zero] at q0
 unfold maxLen at hcm1 hcm2 hcm hcm'
 have t1:((n:Int) != (n:Int))=false:=by simp
 have t2:((m:Int) != (m:Int))=false:=by simp
 clear h h' hx hx' hs hs'
 go_enter Tryz.func128,Tryz.ntmps128
 go_wp2_with (go_at_call 124; refine Hid.out ?_)
 refine boxesC1 ?_
 intro w1 e1 hsz1 B1
 obtain⟨b0,b1,-⟩:=cells2 B1
 refine (m_check2 ⟨b0,b1⟩ (hI.ext e1) (hI'.ext e1) hm0 hm hn0 hn hm0 hm hn0 hn HS.out HS'.out).mono ?_
 rintro e w2 ⟨rfl,e2⟩
 have hE:=e1.trans e2
 replace p0:=hE.cell p0
 replace q0:=hE.cell q0
 clear b0 b1 B1 e1 e2 hsz1
 go_upto_region 4 with (fail)
 refine region_inv [Mn.eq (.slice (some ⟨b,off,none⟩) m c),Mn.eq (.int .i64 (m:Int)),Mn.eq (.slice (some ⟨b',off',none⟩) m c'),Mn.eq (.int .i64 (m:Int)),Mn.eq (.bool false),Mn.eq (.bool false),Mn.eq (.slice (some ⟨b,off,none⟩) m c),Mn.eq (.pointer (some ⟨b,off,none⟩)),Mn.eq (.slice A1 n c1),Mn.eq (.int .i64 (n:Int)),Mn.eq (.slice (some ⟨b',off',none⟩) m c'),Mn.eq (.pointer (some ⟨b',off',none⟩)),Mn.eq (.slice A2 n c2),Mn.eq (.int .i64 (n:Int)),Mn.eq (.bool false),Mn.eq (.bool false)] [some 13,some 14,some 15,some 16,some 17,some 18,some 19,some 20,some 21,some 22,some 23,some 24,some 25,some 26,some 27,some 28] [] [true,true,true,true,true,true,true,true,true,true,true,true,true,true,true,true] 0 (by kernel_rfl) (by kernel_rfl) (by kernel_rfl) (by kernel_rfl) (by kernel_rfl) (by kernel_rfl) (by kernel_rfl) (by kernel_rfl) ?_ ?_
 ·intro i hi hl
  have hi':i=0∨i=1∨i=2∨i=3∨i=4∨i=5∨i=6∨i=7∨i=8∨i=9∨i=10∨i=11∨i=12∨i=13∨i=14∨i=15:=by have h9:i < 16:=hi; omega
  clear hi
  rcases hi' with rfl | rfl | rfl | rfl | rfl | rfl | rfl | rfl | rfl | rfl | rfl | rfl | rfl | rfl | rfl | rfl
  ·clear hl
   refine stp rfl ?_
   intro ac wi eI hold hpre K hK
   have o0:=hold 0 (by kernel_rfl)
   simp only [List.getElem?_toArray,List.getElem?_cons_succ,List.getElem?_cons_zero] at o0
   clear hold hpre
   go_simp
   exact hK.out _ _ (Ext.refl _) rfl
  ·clear hl
   refine stp rfl ?_
   intro ac wi eI hold hpre K hK
   obtain⟨x13,s13,j13⟩:=hpre 0 (by kernel_rfl) 13 rfl
   obtain rfl:x13=(.slice (some ⟨b,off,none⟩) m c):=j13
   clear hold hpre
   go_simp
   exact hK.out _ _ (Ext.refl _) rfl
  ·clear hl
   refine stp rfl ?_
   intro ac wi eI hold hpre K hK
   have o1:=hold 1 (by kernel_rfl)
   simp only [List.getElem?_toArray,List.getElem?_cons_succ,List.getElem?_cons_zero] at o1
   clear hold hpre
   go_simp
   exact hK.out _ _ (Ext.refl _) rfl
  ·clear hl
   refine stp rfl ?_
   intro ac wi eI hold hpre K hK
   obtain⟨x15,s15,j15⟩:=hpre 2 (by kernel_rfl) 15 rfl
   obtain rfl:x15=(.slice (some ⟨b',off',none⟩) m c'):=j15
   clear hold hpre
   go_simp
   exact hK.out _ _ (Ext.refl _) rfl
  ·clear hl
   refine stp rfl ?_
   intro ac wi eI hold hpre K hK
   obtain⟨x14,s14,j14⟩:=hpre 1 (by kernel_rfl) 14 rfl
   obtain rfl:x14=(.int .i64 (m:Int)):=j14
   obtain⟨x16,s16,j16⟩:=hpre 3 (by kernel_rfl) 16 rfl
   obtain rfl:x16=(.int .i64 (m:Int)):=j16
   clear hold hpre
   go_simp
   exact hK.out _ _ (Ext.refl _) rfl
  ·clear hl
   refine stp rfl ?_
   intro ac wi eI hold hpre K hK
   obtain⟨x17,s17,j17⟩:=hpre 4 (by kernel_rfl) 17 rfl
   obtain rfl:x17=(.bool false):=j17
   clear hold hpre
   go_simp
   exact hK.out _ _ (Ext.refl _) rfl
  ·clear hl
   refine stp rfl ?_
   intro ac wi eI hold hpre K hK
   obtain⟨x18,s18,j18⟩:=hpre 5 (by kernel_rfl) 18 rfl
   obtain rfl:x18=(.bool false):=j18
   have o0:=hold 0 (by kernel_rfl)
   simp only [List.getElem?_toArray,List.getElem?_cons_succ,List.getElem?_cons_zero] at o0
   clear hold hpre
   rw [if_pos (by simp [Region.wanted,yielded,s18])]
   go_simp
   exact hK.out _ _ (Ext.refl _) rfl
  ·clear hl
   refine stp rfl ?_
   intro ac wi eI hold hpre K hK
   obtain⟨x18,s18,j18⟩:=hpre 5 (by kernel_rfl) 18 rfl
   obtain rfl:x18=(.bool false):=j18
   obtain⟨x19,s19,j19⟩:=hpre 6 (by kernel_rfl) 19 rfl
   obtain rfl:x19=(.slice (some ⟨b,off,none⟩) m c):=j19
   clear hold hpre
   rw [if_pos (by simp [Region.wanted,yielded,s18])]
   go_simp
   exact hK.out _ _ (Ext.refl _) rfl
  ·clear hl
   refine stp rfl ?_
   intro ac wi eI hold hpre K hK
   obtain⟨x18,s18,j18⟩:=hpre 5 (by kernel_rfl) 18 rfl
   obtain rfl:x18=(.bool false):=j18
   obtain⟨x20,s20,j20⟩:=hpre 7 (by kernel_rfl) 20 rfl
   obtain rfl:x20=(.pointer (some ⟨b,off,none⟩)):=j20
   clear hold hpre
   rw [if_pos (by simp [Region.wanted,yielded,s18])]
   have cc0:=eI.cell p0
   have cc1:=eI.cell q0
   go_simp
   exact hK.out _ _ (Ext.refl _) rfl
  ·clear hl
   refine stp rfl ?_
   intro ac wi eI hold hpre K hK
   obtain⟨x18,s18,j18⟩:=hpre 5 (by kernel_rfl) 18 rfl
   obtain rfl:x18=(.bool false):=j18
   obtain⟨x21,s21,j21⟩:=hpre 8 (by kernel_rfl) 21 rfl
   obtain rfl:x21=(.slice A1 n c1):=j21
   clear hold hpre
   rw [if_pos (by simp [Region.wanted,yielded,s18])]
   go_simp
   exact hK.out _ _ (Ext.refl _) rfl
  ·clear hl
   refine stp rfl ?_
   intro ac wi eI hold hpre K hK
   obtain⟨x18,s18,j18⟩:=hpre 5 (by kernel_rfl) 18 rfl
   obtain rfl:x18=(.bool false):=j18
   have o1:=hold 1 (by kernel_rfl)
   simp only [List.getElem?_toArray,List.getElem?_cons_succ,List.getElem?_cons_zero] at o1
   clear hold hpre
   rw [if_pos (by simp [Region.wanted,yielded,s18])]
   go_simp
   exact hK.out _ _ (Ext.refl _) rfl
  ·clear hl
   refine stp rfl ?_
   intro ac wi eI hold hpre K hK
   obtain⟨x18,s18,j18⟩:=hpre 5 (by kernel_rfl) 18 rfl
   obtain rfl:x18=(.bool false):=j18
   obtain⟨x23,s23,j23⟩:=hpre 10 (by kernel_rfl) 23 rfl
   obtain rfl:x23=(.slice (some ⟨b',off',none⟩) m c'):=j23
   clear hold hpre
   rw [if_pos (by simp [Region.wanted,yielded,s18])]
   go_simp
   exact hK.out _ _ (Ext.refl _) rfl
  ·clear hl
   refine stp rfl ?_
   intro ac wi eI hold hpre K hK
   obtain⟨x18,s18,j18⟩:=hpre 5 (by kernel_rfl) 18 rfl
   obtain rfl:x18=(.bool false):=j18
   obtain⟨x24,s24,j24⟩:=hpre 11 (by kernel_rfl) 24 rfl
   obtain rfl:x24=(.pointer (some ⟨b',off',none⟩)):=j24
   clear hold hpre
   rw [if_pos (by simp [Region.wanted,yielded,s18])]
   have cc0:=eI.cell p0
   have cc1:=eI.cell q0
   go_simp
   exact hK.out _ _ (Ext.refl _) rfl
  ·clear hl
   refine stp rfl ?_
   intro ac wi eI hold hpre K hK
   obtain⟨x18,s18,j18⟩:=hpre 5 (by kernel_rfl) 18 rfl
   obtain rfl:x18=(.bool false):=j18
   obtain⟨x25,s25,j25⟩:=hpre 12 (by kernel_rfl) 25 rfl
   obtain rfl:x25=(.slice A2 n c2):=j25
   clear hold hpre
   rw [if_pos (by simp [Region.wanted,yielded,s18])]
   go_simp
   exact hK.out _ _ (Ext.refl _) rfl
  ·clear hl
   refine stp rfl ?_
   intro ac wi eI hold hpre K hK
   obtain⟨x18,s18,j18⟩:=hpre 5 (by kernel_rfl) 18 rfl
   obtain rfl:x18=(.bool false):=j18
   obtain⟨x22,s22,j22⟩:=hpre 9 (by kernel_rfl) 22 rfl
   obtain rfl:x22=(.int .i64 (n:Int)):=j22
   obtain⟨x26,s26,j26⟩:=hpre 13 (by kernel_rfl) 26 rfl
   obtain rfl:x26=(.int .i64 (n:Int)):=j26
   clear hold hpre
   rw [if_pos (by simp [Region.wanted,yielded,s18])]
   go_simp
   exact hK.out _ _ (Ext.refl _) rfl
  ·clear hl
   refine stp rfl ?_
   intro ac wi eI hold hpre K hK
   obtain⟨x18,s18,j18⟩:=hpre 5 (by kernel_rfl) 18 rfl
   obtain rfl:x18=(.bool false):=j18
   obtain⟨x27,s27,j27⟩:=hpre 14 (by kernel_rfl) 27 rfl
   obtain rfl:x27=(.bool false):=j27
   clear hold hpre
   go_simp
   exact hK.out _ _ (Ext.refl _) rfl
 intro vals wz eZ hJ
 have J13:Mn.p (Mn.eq (.slice (some ⟨b,off,none⟩) m c)) (vals 0) wz:=hJ 0 (by decide) (by decide)
 have J14:Mn.p (Mn.eq (.int .i64 (m:Int))) (vals 1) wz:=hJ 1 (by decide) (by decide)
 have J15:Mn.p (Mn.eq (.slice (some ⟨b',off',none⟩) m c')) (vals 2) wz:=hJ 2 (by decide) (by decide)
 have J16:Mn.p (Mn.eq (.int .i64 (m:Int))) (vals 3) wz:=hJ 3 (by decide) (by decide)
 have J17:Mn.p (Mn.eq (.bool false)) (vals 4) wz:=hJ 4 (by decide) (by decide)
 have J18:Mn.p (Mn.eq (.bool false)) (vals 5) wz:=hJ 5 (by decide) (by decide)
 have J19:Mn.p (Mn.eq (.slice (some ⟨b,off,none⟩) m c)) (vals 6) wz:=hJ 6 (by decide) (by decide)
 have J20:Mn.p (Mn.eq (.pointer (some ⟨b,off,none⟩))) (vals 7) wz:=hJ 7 (by decide) (by decide)
 have J21:Mn.p (Mn.eq (.slice A1 n c1)) (vals 8) wz:=hJ 8 (by decide) (by decide)
 have J22:Mn.p (Mn.eq (.int .i64 (n:Int))) (vals 9) wz:=hJ 9 (by decide) (by decide)
 have J23:Mn.p (Mn.eq (.slice (some ⟨b',off',none⟩) m c')) (vals 10) wz:=hJ 10 (by decide) (by decide)
 have J24:Mn.p (Mn.eq (.pointer (some ⟨b',off',none⟩))) (vals 11) wz:=hJ 11 (by decide) (by decide)
 have J25:Mn.p (Mn.eq (.slice A2 n c2)) (vals 12) wz:=hJ 12 (by decide) (by decide)
 have J26:Mn.p (Mn.eq (.int .i64 (n:Int))) (vals 13) wz:=hJ 13 (by decide) (by decide)
 have J27:Mn.p (Mn.eq (.bool false)) (vals 14) wz:=hJ 14 (by decide) (by decide)
 have J28:Mn.p (Mn.eq (.bool false)) (vals 15) wz:=hJ 15 (by decide) (by decide)
 clear hJ
 simp only [putAll,if_true,Bool.false_eq_true,if_false,Act.put,Nat.zero_add,Nat.reduceAdd,List.setIfInBounds_toArray,List.set_cons_zero,List.set_cons_succ]
 generalize vals 0=z13 at J13 ⊢
 obtain rfl:z13=(.slice (some ⟨b,off,none⟩) m c):=J13
 generalize vals 1=z14 at J14 ⊢
 obtain rfl:z14=(.int .i64 (m:Int)):=J14
 generalize vals 2=z15 at J15 ⊢
 obtain rfl:z15=(.slice (some ⟨b',off',none⟩) m c'):=J15
 generalize vals 3=z16 at J16 ⊢
 obtain rfl:z16=(.int .i64 (m:Int)):=J16
 generalize vals 4=z17 at J17 ⊢
 obtain rfl:z17=(.bool false):=J17
 generalize vals 5=z18 at J18 ⊢
 obtain rfl:z18=(.bool false):=J18
 generalize vals 6=z19 at J19 ⊢
 obtain rfl:z19=(.slice (some ⟨b,off,none⟩) m c):=J19
 generalize vals 7=z20 at J20 ⊢
 obtain rfl:z20=(.pointer (some ⟨b,off,none⟩)):=J20
 generalize vals 8=z21 at J21 ⊢
 obtain rfl:z21=(.slice A1 n c1):=J21
 generalize vals 9=z22 at J22 ⊢
 obtain rfl:z22=(.int .i64 (n:Int)):=J22
 generalize vals 10=z23 at J23 ⊢
 obtain rfl:z23=(.slice (some ⟨b',off',none⟩) m c'):=J23
 generalize vals 11=z24 at J24 ⊢
 obtain rfl:z24=(.pointer (some ⟨b',off',none⟩)):=J24
 generalize vals 12=z25 at J25 ⊢
 obtain rfl:z25=(.slice A2 n c2):=J25
 generalize vals 13=z26 at J26 ⊢
 obtain rfl:z26=(.int .i64 (n:Int)):=J26
 generalize vals 14=z27 at J27 ⊢
 obtain rfl:z27=(.bool false):=J27
 generalize vals 15=z28 at J28 ⊢
 obtain rfl:z28=(.bool false):=J28
 refine stepL_done (by kernel_rfl) ?_ _
 go_wp2
 go_ret
 exact⟨rfl,hE.trans eZ⟩
set_option maxRecDepth 100000 in
theorem m_sub {N lo hi lo' hi':Nat} {w:World} {v v':Value} {m n:Nat} {X Y:Nat→Nat→Rat} (h:MtV N lo hi w v m n X) (h':MtV N lo' hi' w v' m n Y) (hm0:0 < m) (hm:m≤64) (hn0:0 < n) (hn:n≤64)
  (hs:∀ i,i < m→∀ j,j < n→Sz (X i j)) (hs':∀ i,i < m→∀ j,j < n→Sz (Y i j)) :
  Calls Tryz.prog 67 #[v,v'] w (RetOwn2 N w m n (fun i j=>X i j - Y i j)):=by
 have HS:=Lib.hid hs
 have HS':=Lib.hid hs'
 have hN:=h.le
 obtain⟨Z,hZ⟩:=hid_eq (fun i j=>X i j - Y i j)
 have HZ:Hid (∀ i j,X i j - Y i j=Z i j):=fun i j=>by rw [hZ.out]
 rw [←hZ.out]
 obtain⟨Rf,hRf⟩:=hid_eq (RetOwn2 N w m n Z)
 rw [←hRf.out]
 obtain⟨A,c,rfl,hmc,hcm⟩:=h.form
 obtain⟨A',c',rfl,hmc',hcm'⟩:=h'.form
 have hI:=h
 have hI':=h'
 obtain⟨b,off,rfl,-,-,hx⟩:=h.addr hm0
 obtain⟨A1,c1,p0,hnc1,hcm1,-⟩:=hx 0 hm0
 rw [Nat.add_zero] at p0
 unfold maxLen at hcm1 hcm hcm'
 clear h h' hx hs hs'
 go_enter Tryz.func67,Tryz.ntmps67
 go_upto_region 1 with (fail)
 refine boxes2 ?_
 intro W hE hsz B0 B1
 obtain⟨a0,-⟩:=cells1 B0
 obtain⟨d0,-⟩:=cells1 B1
 go_wp2_with (go_at_call 128; refine Hid.out ?_)
 refine (m_both (hI.ext hE) (hI'.ext hE) hm0 hm hn0 hn HS.out HS'.out).mono ?_
 rintro e w2 ⟨rfl,e2⟩
 replace hE:=hE.trans e2
 replace B0:=e2.block B0
 replace B1:=e2.block B1
 clear a0 d0 e2 hsz
 obtain⟨a0,-⟩:=cells1 B0
 obtain⟨d0,-⟩:=cells1 B1
 replace p0:=hE.cell p0
 have hEz:=hE.size
 go_upto_region 4 with (fail)
 have eC:=(Ext.refl w2).drew
 refine region_late (fun w'=>w'.cell? ⟨w.heap.size,0,none⟩=some (.slice (some ⟨b,off,none⟩) m c)∧w'.cell? ⟨b,off,none⟩=some (.slice A1 n c1)) [] (by kernel_rfl) (by exact⟨eC.cell a0,eC.cell p0⟩) (fun hHeld=>?_)
 refine sT 0 (h:=?_)
 try simp only [nr]
 refine sP 1 (h:=?_)
 try simp only [nr]
 refine sT 2 (h:=?_)
 try simp only [nr]
 refine sP 3 (h:=?_)
 try simp only [nr]
 refine sT 4 (h:=?_)
 try simp only [nr]
 refine sP 5 (h:=?_)
 try simp only [nr]
 refine sP 6 (h:=?_)
 try simp only [nr]
 refine stepL_only (i:=7) rfl (by kernel_rfl) (fun K hK=>?_)
 go_simp
 refine (m_made_sub (N:=N) (by show N≤w2.heap.size; omega) m n rfl rfl (by omega) (by omega) Z (fun i hi' j hj w' e=>by rw [←HZ.out i j]; exact m_sub1 ((eC.trans e).cell a0) ((eC.trans e).cell d0) (hI.ext (hE.trans (eC.trans e))) (hI'.ext (hE.trans (eC.trans e))) hi' hj (by omega) (by omega) (HS.out i hi' j hj) (HS'.out i hi' j hj))).mono ?_
 rintro e w5 ⟨h5,cap5,β5,κ5,rfl,hcap5,ho5,e5⟩
 replace eC:=eC.trans e5
 go_wp2_with fail
 clear hHeld
 refine hK.out _ _ (by exact⟨eC.cell a0,eC.cell p0⟩) fun hHeld=>?_
 clear hK K
 try simp only [nr]
 refine sP 8 (h:=?_)
 try simp only [nr]
 refine sP 9 (h:=?_)
 try simp only [nr]
 refine stepL_done (by kernel_rfl) ?_ _
 clear hHeld
 go_wp2
 first | go_ret2 | skip
 rw [hRf.out]
 exact⟨h5,cap5,β5,κ5,rfl,hcap5,ho5.wide hEz hN (Nat.le_refl _) (Nat.le_refl _),hE.trans eC⟩
theorem mmw_ht {m n q ka kb:Nat} {A B:Nat→Nat→Rat} (ha:HtM m n ka A) (hb:HtM n q kb B):HtM m q (n*(ka+kb+1)+1) (mm n A B):=fun i hi j hj =>
 sum_ht (n:=n) (k:=ka+kb) (fun t ht=>(ha i hi t ht).mul (hb t ht j hj)) (Nat.le_refl _) (Nat.le_refl _)
def schF (k e:Nat) (K:Nat→Nat→Rat):Nat→Nat→Rat:=mm e (fun a b=>K a (k+b)) (invM e (fun a b=>K (k+a) (k+b)))
def schM (k e:Nat) (K:Nat→Nat→Rat) (i j:Nat):Rat:=K i j - mm e (schF k e K) (fun a b=>K (k+a) b) i j
def schR (k e:Nat) (K:Nat→Nat→Rat) (b:Nat→Rat) (i:Nat):Rat:=b i - sum e (fun t=>schF k e K i t*b (k+t))
theorem invM_ht {e q:Nat} {X:Nat→Nat→Rat} (hq:HtM e e q X):HtM e e (5 ^ e*(q+1)) (invM e X):=fun i hi j hj =>
 rref_ht' (p:=e) (htM_augI hq) (j:=e) (by omega) (.inl (Nat.le_refl _)) i hi (e+j) (by omega)
def RetRd (N:Nat) (w:World) (k r e:Nat) (M:Nat→Nat→Rat) (R:Nat→Rat) (en:Ending) (w':World):Prop :=
 Ext w w'∧((r < e∧en=.returned (.tuple #[.slice none 0 0,.slice none 0 0,.int .i64 14]))∨(e≤r∧∃ A c A' c',en=.returned (.tuple #[.slice A k c,.slice A' k c',.int .i64 0])∧MtV N w.heap.size w'.heap.size w' (.slice A k c) k k M∧LsV N w.heap.size w'.heap.size w' (.slice A' k c') k R))
theorem n_Reduced_bad {N lo hi:Nat} {w:World} {v:Value} {Z:Lin} (h:LinV N lo hi w v Z) (hs:LinSz Z) (hp:∀ i,i < Z.np→RawS (Z.p i)) (hc:codeOf Z≠0) (kz:Int) :
  Calls Tryz.prog 22 #[v,.int .i64 kz] w (RetV w (.tuple #[.slice none 0 0,.slice none 0 0,.int .i64 (codeOf Z)])):=by
 have HS:=Lib.hid hs
 have HP:=Lib.hid hp
 obtain⟨r,hr⟩:=hid_eq (codeOf Z)
 have hr0:(r == 0)=false:=by rw [hr.out]; simpa using hc
 have hr1:(r != 0)=true:=by simpa using hr0
 rw [←hr.out]
 have hI:=h
 obtain⟨A1,c1,A2,c2,A3,c3,rfl,h1,h2,h3,hm,hnl,hnp⟩:=h.parts
 clear h h1 h2 h3 hc hs hp
 go_enter Tryz.func22,Tryz.ntmps22
 go_upto_region 1 with (fail)
 refine boxes1 ?_
 intro W hE hsz B0
 obtain⟨a0,a1,a2,-⟩:=cells3 B0
 go_wp2_with (go_at_call 58; refine Hid.out ?_)
 refine (n_check (hI.ext hE) HS.out HP.out).mono ?_
 rintro e w1 ⟨rfl,e1⟩
 rw [←hr.out]
 clear a0 a1 a2
 go_wp2
 first | go_ret3 | skip
 exact⟨rfl,hE.trans e1⟩
theorem n_Reduced_out {N lo hi lo2 hi2:Nat} {w:World} {v1 v2 v3:Value} {m n:Nat} {X:Nat→Nat→Rat} {y p:Nat→Rat} (h1:MtV N lo hi w v1 m n X) (h2:LsV N lo2 hi2 w v2 m y) (h3:LsV N lo2 hi2 w v3 m p) (hm0:0 < m) (hm:m≤64) (hn0:0 < n) (hn:n≤24) (hp:∀ i,i < m→0 < p i)
  {k:Nat} (hkx:HtM m n k X) (hky:HtL m k y) (hkp:HtL m k p) (hK:k≤29000000000) (kz:Int) (hkz:kz < 1∨(n:Int)≤kz) :
  Calls Tryz.prog 22 #[.agg #[v1,v2,v3],.int .i64 kz] w (RetV w (.tuple #[.slice none 0 0,.slice none 0 0,.int .i64 2])):=by
 have HCK:Hid (∀ w1,Ext w w1→Calls Tryz.prog 58 #[.agg #[v1,v2,v3]] w1 (RetV w1 (.int .i64 0))):=fun w1 e1=>by
  have h9:=n_check (linV_of (h1.ext e1) (h2.ext e1) (h3.ext e1)) (linSz_of hkx hky hkp hK) (fun i hi=>(hkp i hi).sz hK)
  rw [codeOf_lin hm0 hm hn0 hn hp] at h9
  exact h9
 obtain⟨A1,c1,rfl,hmc,hcm⟩:=h1.form
 obtain⟨A2,c2,rfl,hmc2,hcm2⟩:=h2.form
 obtain⟨A3,c3,rfl,hmc3,hcm3⟩:=h3.form
 obtain⟨b,off,rfl,-,-,hx⟩:=h1.addr hm0
 obtain⟨A0,c0,o0,hc0,hm0',-⟩:=hx 0 (by omega)
 rw [Nat.add_zero] at o0
 unfold maxLen at hm0'
 clear h1 h2 h3 hkx hky hkp hK hp hx
 go_enter Tryz.func22,Tryz.ntmps22
 go_upto_region 1 with (fail)
 refine boxes1 ?_
 intro W hE hsz B0
 obtain⟨a0,a1,a2,-⟩:=cells3 B0
 go_wp2_with (go_at_call 58; refine Hid.out ?_)
 refine (HCK.out _ hE).mono ?_
 rintro e w1 ⟨rfl,e1⟩
 replace hE:=hE.trans e1
 replace B0:=e1.block B0
 replace o0:=hE.cell o0
 clear a0 a1 a2 e1
 obtain⟨a0,a1,a2,-⟩:=cells3 B0
 by_cases hk1:kz < 1
 ·go_wp2
  first | go_ret3 | skip
  exact⟨rfl,hE⟩
 ·have hk2:(n:Int)≤kz:=by omega
  go_wp2
  first | go_ret3 | skip
  exact⟨rfl,hE⟩
end Go.Proofs.YtccepmpebioeiaaGreat
