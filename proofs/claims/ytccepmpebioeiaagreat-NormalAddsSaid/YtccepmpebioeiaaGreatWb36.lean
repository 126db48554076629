import Derived.Test.YtccepmpebioeiaaGreatWb35
set_option linter.all false
set_option maxHeartbeats 8000000
namespace Go.Proofs.YtccepmpebioeiaaGreat
open Go.RowKit
def RetRowC (N:Nat) (w:World) (n:Nat) (x:Nat→Rat) (e:Ending) (w':World):Prop :=
 ∃ g cap,e=.returned (.slice (some ⟨g,0,none⟩) n cap)∧w.heap.size≤g∧cap≤maxLen∧n≤cap∧RowB N w' g cap n x∧Ext w w'
set_option maxRecDepth 100000 in
theorem sl_clone {N lo hi:Nat} {w:World} {v:Value} {n:Nat} {x:Nat→Rat} (h:LsV N lo hi w v n x) (hn0:0 < n) (hn:n < 1000000) :
  Calls Tryz.prog 49 #[v] w (RetRowC N w n x):=by
 obtain⟨Rf,hRf⟩:=hid_eq (RetRowC N w n x);rw [←hRf.out];have hN:=h.le;obtain⟨A1,c1,rfl,hmc,hcm⟩:=h.form;obtain⟨b,off,rfl,-⟩:=LsV.addr h hn0;have hI:=h;clear h;have hnl:=fun (w:World) (a:Option Addr) (n c:Nat)=>Lib.run_eql_slice_nil (P:=Tryz.prog) w 24 44 a n c 0 0 Tryz.underlying24
 go_enter Tryz.func49,Tryz.ntmps49;go_wp2_with (at_builtin; refine Hid.out ?_);refine boxes1 ?_;intro W hE hsz B0;refine wpList_append_list rfl _ _ 24 Tryz.underlying24 rfl (by rfl) (Grow.empty hN (Nat.le_refl _) B0 x) (by rfl) (hI.ext hE) (by omega:0+n < 1000000000) ?_;rintro A' c' w2 hG ⟨g',hg',C2,-⟩;have hE2:=C2.ext hE hg';rw [Nat.zero_add] at hG ⊢;obtain⟨g,cap,hv,hg,hgs,hcm2,hnc,hrw⟩:=hG.some hn0;injection hv with e1 e2 e3
 subst e1 e3;go_wp2
 first | go_ret | skip
 rw [hRf.out];exact⟨g,c',rfl,hg,hcm2,hnc,hrw.congr (fun j hj=>by unfold cat; rw [if_neg (by omega)]; rfl),hE2⟩
theorem del_row {N:Nat} {w w':World} {g n cap i:Nat} {e:Ending} {x:Nat→Rat} (h:RowB N w g cap n x) (hi:i < n) (hd:RetDel 4 44 g n cap i w e w') :
  e=.returned (.slice (some ⟨g,0,none⟩) (n - 1) cap)∧Chg g (g+1) w w'∧RowB N w' g cap (n - 1) (fun j=>x (skip i j)):=by
 obtain⟨he,hC,hb,h1,h2⟩:=hd;obtain⟨a1,a2,a3,a4⟩:=h;refine⟨he,hC,a1,by omega,hb,fun j hj=>?_⟩
 show At4 N w' g (j*4) (raw (x (skip i j)))
 by_cases hji:j < i
 ·have hsk:skip i j=j:=by unfold skip; rw [if_pos hji]
  rw [hsk];obtain⟨s,t,d0,d1,d2,d3,g1,g2⟩:=a4 j (by omega);exact⟨s,t,by rw [h1 _ (by omega)]; exact d0,by rw [h1 _ (by omega)]; exact d1,by rw [h1 _ (by omega)]; exact d2,by rw [h1 _ (by omega)]; exact d3,g1.chg hC a1,g2.chg hC a1⟩
 ·have hsk:skip i j=j+1:=by unfold skip; rw [if_neg hji]
  rw [hsk];obtain⟨s,t,d0,d1,d2,d3,g1,g2⟩:=a4 (j+1) (by omega);have e0:(j+1)*4=j*4+4:=by omega
  rw [e0] at d0 d1 d2 d3;refine⟨s,t,?_,?_,?_,?_,g1.chg hC a1,g2.chg hC a1⟩
  ·rw [h2 _ (by omega) (by omega)]; exact d0
  ·rw [h2 _ (by omega) (by omega),show j*4+1+4=j*4+4+1 by omega]; exact d1
  ·rw [h2 _ (by omega) (by omega),show j*4+2+4=j*4+4+2 by omega]; exact d2
  ·rw [h2 _ (by omega) (by omega),show j*4+3+4=j*4+4+3 by omega]; exact d3
theorem row_one {N:Nat} {w:World} {g cap n:Nat} {x:Nat→Rat} (h:RowB N w g cap n x):∀ k,k < n*4→∃ v,w.cell? ⟨g,k,none⟩=some v∧v.oneCell'=true:=fun k hk=>by
 have:=(h.2.2.2 (k / 4) (by omega)).one (r:=k % 4) (by omega);rw [show k / 4*4+k % 4=k by omega] at this;exact this
theorem del_rows {N lo hi:Nat} {w w':World} {h cap m n i:Nat} {β κ:Nat→Nat} {A:Nat→Nat→Rat} {e:Ending} (o:OwnM N lo hi w h cap m n β κ A) (hcm:cap≤maxLen) (hi':i < m) (hd:RetDel 1 24 h m cap i w e w') :
  e=.returned (.slice (some ⟨h,0,none⟩) (m - 1) cap)∧Chg h (h+1) w w'∧MtV N lo hi w' (.slice (some ⟨h,0,none⟩) (m - 1) cap) (m - 1) n (fun j=>A (skip i j)):=by
 obtain⟨he,hC,hb,h1,h2⟩:=hd;have hNh:N≤h:=Nat.le_trans o.le o.hlo;refine⟨he,hC,?_,?_,_,cap,rfl,by have:=o.mle; omega,hcm,fun h0=>⟨h,0,rfl,o.hlo,o.hhi,fun j hj=>?_⟩⟩
 ·exact Nat.le_trans o.le (Nat.le_trans (Nat.le_trans o.hlo (Nat.le_of_lt o.hhi)) (Nat.le_trans o.his hC.size))
 ·exact Nat.le_trans o.his hC.size
 ·have hs:skip i j < m:=by have:=skip_lt (m:=m - 1) (i:=i) hj; omega
  have hrow:=(o.row (skip i j) hs).chg hC hNh (by have:=o.ne hs; omega);refine⟨.slice (some ⟨β (skip i j),0,none⟩) n (κ (skip i j)),?_,hrow.lsv hrow.2.1 (o.cap _ hs) (o.lo_ _ hs) (o.hi_ _ hs) (Nat.le_trans o.his hC.size)⟩;rw [Nat.zero_add]
  by_cases hji:j < i
  ·have hsk:skip i j=j:=by unfold skip; rw [if_pos hji]
   rw [h1 j (by omega),hsk];exact o.hcell (by omega)
  ·have hsk:skip i j=j+1:=by unfold skip; rw [if_neg hji]
   rw [h2 j (by omega) (by omega),hsk];exact o.hcell (by omega)
theorem LsV.sub {N lo hi:Nat} {w:World} {b off n c:Nat} {x:Nat→Rat} (h:LsV N lo hi w (.slice (some ⟨b,off,none⟩) n c) n x) {l r:Nat} (hl:l < r) (hr:r≤n) {c':Nat} (hc:r - l≤c') (hm:c'≤maxLen) :
  LsV N lo hi w (.slice (some ⟨b,off+l*4,none⟩) (r - l) c') (r - l) (fun j=>x (l+j)):=by
 obtain⟨b',off',hA,h1,h2,hx⟩:=LsV.addr h (by omega);obtain⟨rfl,rfl⟩:b=b'∧off=off':=by injection hA with hA; injection hA with e1 e2; exact⟨e1,e2⟩
 refine⟨h.1,h.2.1,_,c',rfl,hc,hm,fun _=>⟨b,off+l*4,rfl,h1,h2,fun i hi=>?_⟩⟩;have h9:=hx (l+i) (by omega);rw [show off+(l+i)*4=off+l*4+i*4 by omega] at h9;exact h9
theorem MtV.sub {N lo hi:Nat} {w:World} {b off m n c:Nat} {X:Nat→Nat→Rat} (h:MtV N lo hi w (.slice (some ⟨b,off,none⟩) m c) m n X) {l r:Nat} (hl:l < r) (hr:r≤m) {c':Nat} (hc:r - l≤c') (hm:c'≤maxLen) :
  MtV N lo hi w (.slice (some ⟨b,off+l,none⟩) (r - l) c') (r - l) n (fun i=>X (l+i)):=by
 obtain⟨h1,h2,A,c0,hv,h3,h4,h5⟩:=h;obtain⟨b',off',hA,h6,h7,hx⟩:=h5 (by omega);injection hv with e1 e2 e3
 rw [←e1] at hA;injection hA with hA
 injection hA with e4 e5
 subst e4 e5;refine⟨h1,h2,_,c',rfl,hc,hm,fun _=>⟨b,off+l,rfl,h6,h7,fun i hi=>?_⟩⟩;obtain⟨u,hu,hr'⟩:=hx (l+i) (by omega);exact⟨u,by rw [←Nat.add_assoc] at hu; exact hu,hr'⟩
set_option maxRecDepth 100000 in
theorem n_part {N lo hi:Nat} {w:World} {v:Value} {m n:Nat} {X:Nat→Nat→Rat} (h:MtV N lo hi w v m n X) (t b l r:Nat) {tz bz lz rz:Int} (htz:tz=(t:Int)) (hbz:bz=(b:Int)) (hlz:lz=(l:Int)) (hrz:rz=(r:Int)) (ht:t < b) (hb:b≤m) (hl:l < r) (hr:r≤n) (hm:m < 1000000) (hn:n < 1000000) :
  Calls Tryz.prog 65 #[v,.int .i64 tz,.int .i64 bz,.int .i64 lz,.int .i64 rz] w (RetMt N w (b - t) (r - l) (fun i j=>X (t+i) (l+j))):=by
 subst htz hbz hlz hrz;have hN:=h.le;obtain⟨A,c,rfl,hmc,hcm⟩:=h.form;unfold maxLen at hcm;obtain⟨gb,off,rfl,-,-,-⟩:=h.addr (by omega);have hS:MtV N lo hi w (.slice (some ⟨gb,off+t,none⟩) (b - t) (b - t)) (b - t) n (fun i=>X (t+i)):=MtV.sub h ht hb (Nat.le_refl _) (by unfold maxLen; omega);obtain⟨mm',hmm⟩:∃ k,k=b - t:=⟨_,rfl⟩
 have hmm0:0 < mm':=by omega
 obtain⟨Z,hZ⟩:=hid_eq (fun i j=>X (t+i) (l+j));obtain⟨Rf,hRf⟩:=hid_eq (RetMt N w (b - t) (r - l) Z);rw [←hZ.out,←hRf.out];have HM:=Lib.hid hmm;clear h hmm;go_enter Tryz.func65,Tryz.ntmps65;have ht1:¬ t=c:=by omega
 go_wp2
 go_loopw [11,20] (fun v i wr=>∃ k:Nat,k≤b - t∧i=.int .i64 k∧Ext w wr∧∃ A c,v=.slice A k c∧GrowM N w.heap.size wr.heap.size wr (.slice A k c) k (r - l) Z) (fun _ i _=>(b - t) - (intOf i).toNat)
 case atStart=>exact⟨0,Nat.zero_le _,rfl,Ext.refl w,_,_,rfl,GrowM.nil hN (Nat.le_refl _) (Nat.le_refl _) _⟩
 case round =>
  obtain⟨k,hk,rfl,hE,A',c',rfl,hG⟩:=hrel;have hsE:=hE.size
  by_cases hlt:k < b - t
  ·obtain⟨gb',off',hA,-,-,hx⟩:=(hS.ext hE).addr (by omega);obtain⟨rfl,rfl⟩:gb=gb'∧off+t=off':=by injection hA with hA; injection hA with e1 e2; exact⟨e1,e2⟩
   obtain⟨A1,c1,o0,hnc,hcm1,hrow⟩:=hx k hlt;obtain⟨br,offr,rfl,-,-,-⟩:=hrow.addr (by omega);have hsub:=LsV.sub hrow hl hr (Nat.le_refl (r - l)) (by unfold maxLen; omega);have hl1:¬ l=c1:=by omega
   unfold maxLen at hcm1;clear hx hA;go_wp2_with (go_at_call 49; refine Hid.out ?_);refine (sl_clone hsub (by omega) (by omega)).mono ?_;rintro e w6 ⟨g6,cap6,rfl,hg6,hcm6,hnc6,hr6,e6⟩;clear o0;go_wp2_with (at_builtin; refine Hid.out ?_);refine boxes1 ?_;intro w7 e7 hsz7 BX;refine wpList_append_row rfl _ _ 23 Tryz.underlying23 rfl rfl ((hG.ext e6).ext e7) rfl (hr6.ext e7) hg6 hcm6 BX (by omega) ?_;rintro h' cap' w8 hG8 ⟨g',hg',c8,-⟩;have hE8:=c8.ext ((hE.trans e6).trans e7) (by omega);replace hG8:=hG8.congr (B:=Z) (fun i _ j _=>by unfold updM; split; (rename_i e; subst e; rw [hZ.out]); rfl);clear hG c8 hr6 BX e6 e7 hsub hrow hE;go_wp2;go_roundw
   case rel=>exact⟨k+1,by omega,by go_num,hE8,_,_,rfl,hG8⟩
   case measure=>simp [intOf]; omega
  ·obtain rfl:b - t=k:=by omega
   go_wp2
   first | go_ret | skip
   rw [hRf.out];exact⟨A',c',rfl,hG.mtv,hE⟩
theorem m_made_mul {N:Nat} {w:World} (hN:N≤w.heap.size) (m n:Nat) {M' N':Int} (hM':M'=(m:Int)) (hN':N'=(n:Int)) (hm:m < 1000000) (hn:n < 1000000) (X:Nat→Nat→Rat) {ga gb:Nat}
  (hf:∀ i,i < m→∀ j,j < n→∀ w',Ext w w'→Calls Tryz.prog 126 #[.int .i64 (i:Int),.int .i64 (j:Int),.pointer (some ⟨ga,0,none⟩),.pointer (some ⟨gb,0,none⟩)] w' (RetR N w' (X i j))) :
  Calls Tryz.prog 120 #[.int .i64 M',.int .i64 N',.func (.func 126) #[] #[.pointer (some ⟨ga,0,none⟩),.pointer (some ⟨gb,0,none⟩)]] w (RetOwn N w m n X):=by
 subst hM' hN';have HF:=Lib.hid hf;clear hf;go_enter Tryz.func120,Tryz.ntmps120;go_wp2_with (at_make; refine Hid.out ?_);refine wpList_make_rows rfl _ _ rfl .i64 .i64 _ _ m rfl rfl rfl rfl hm ?_;intro w1 cs B0 hcs e1;have ho:OwnM N w.heap.size w1.heap.size w1 w.heap.size m 0 n (fun _=>0) (fun _=>0) X:=OwnM.start hN (Nat.le_refl _) B0 hcs X (blk_lt B0) (Nat.le_refl _);have hs1:w.heap.size < w1.heap.size:=blk_lt B0;clear B0;have HCS:=Lib.hid hcs;clear hcs;go_wp2
 go_loopw [14] (fun i wr=>∃ k:Nat,k≤m∧i=.int .i64 k∧Ext w wr∧∃ β κ,OwnM N w.heap.size wr.heap.size wr w.heap.size m k n β κ X) (fun i _=>m - (intOf i).toNat)
 case atStart=>exact⟨0,Nat.zero_le _,rfl,e1,_,_,ho⟩
 case round =>
  clear ho e1;obtain⟨k,hk,rfl,hE,β,κ,ho⟩:=hrel;have hsr:w.heap.size < wr.heap.size:=by have:=ho.hhi; omega
  by_cases hlt:k < m
  ·go_wp2_with (at_make; refine Hid.out ?_);refine wpList_make_rats rfl _ _ rfl .i64 .i64 _ _ n rfl rfl rfl rfl hn ?_;intro w2 cs2 B2 hcs2 e2;have ho2:=ho.ext e2;have hR:RowB N w2 wr.heap.size n 0 (X k):=⟨by omega,Nat.zero_le _,⟨cs2,B2,hcs2⟩,fun j hj=>by omega⟩
   obtain⟨u0,z0⟩:=ho2.hthere hlt;have z1:=ho2.hfrozen k;have hs2:wr.heap.size < w2.heap.size:=blk_lt B2;have HCS2:=Lib.hid hcs2;clear B2 hcs2 ho;go_upto_region 6 with (fail);obtain⟨w3,E3,C3,hs3,y0,ho3⟩:=ho2.setHead (Nat.le_refl k) hlt (.slice (some ⟨wr.heap.size,0,none⟩) n n);rw [E3];replace hE:=C3.ext (hE.trans e2) (Nat.le_refl _);replace hR:=hR.chg C3 (by omega) (by omega);have hs4:wr.heap.size < w3.heap.size:=by omega
   generalize hgr:wr.heap.size=gr at *
   clear hgr E3 C3 hs3 ho2 z0 z1 e2 hs2;have Y0:=y0;go_wp2
   go_loopw [27] (fun i ws=>∃ j:Nat,j≤n∧i=.int .i64 j∧Ext w ws∧gr < ws.heap.size∧ws.cell? ⟨w.heap.size,k,none⟩=some (.slice (some ⟨gr,0,none⟩) n n)∧OwnM N w.heap.size gr ws w.heap.size m k n β κ X∧RowB N ws gr n j (X k)) (fun i _=>n - (intOf i).toNat)
   case atStart=>exact⟨0,Nat.zero_le _,rfl,hE,hs4,y0,ho3,hR⟩
   case round =>
    clear hE y0 ho3 hR hs4 Y0;obtain⟨j,hj,rfl,hE,hs4,y0,ho3,hR⟩:=hrel
    by_cases hlt':j < n
    ·go_upto_region 9 with (fail);have eC:=(Ext.refl wr).drew;refine region_late (fun w'=>w'.cell? ⟨w.heap.size,k,none⟩=some (.slice (some ⟨gr,0,none⟩) n n)) [10] (by kernel_rfl) (by exact eC.cell y0) (fun hHeld=>?_);refine sP 0 (h:=?_);try simp only [nr]
     refine sP 1 (h:=?_);try simp only [nr]
     refine sP 2 (h:=?_);try simp only [nr]
     refine sT 3 (h:=?_);try simp only [nr]
     refine sP 4 (h:=?_);try simp only [nr]
     refine sP 5 (h:=?_);try simp only [nr]
     refine sP 6 (h:=?_);try simp only [nr]
     refine sP 7 (h:=?_);try simp only [nr]
     refine stepL_only (i:=8) rfl (by kernel_rfl) (fun K hK=>?_);go_simp;refine (HF.out k hlt j hlt' _ (hE.trans eC)).mono ?_;intro e w5 hh;obtain⟨b9,A9,k9,c9,A10,k10,c10,rfl,hb9,g9,g10,e5⟩:=hh.form;replace eC:=eC.trans e5;have hR5:=hR.ext eC;obtain⟨x0,v0⟩:=hR5.there (o:=j*4) (by omega);obtain⟨x1,v1⟩:=hR5.there (o:=j*4+1) (by omega);obtain⟨x2,v2⟩:=hR5.there (o:=j*4+2) (by omega);obtain⟨x3,v3⟩:=hR5.there (o:=j*4+3) (by omega);have f0:=hR5.frozen (j*4);have f1:=hR5.frozen (j*4+1);have f2:=hR5.frozen (j*4+2);have f3:=hR5.frozen (j*4+3);go_wp2_with fail;clear hHeld;refine hK.out _ _ (by exact eC.cell y0) fun hHeld=>?_
     clear hK K;try simp only [nr]
     refine sP 9 (h:=?_);try simp only [nr]
     refine stepL_late (i:=10) rfl (by kernel_rfl) (by kernel_rfl) (fun K hK=>?_);go_simp;refine hK.out _ _ ?_;clear hK K;try simp only [nr]
     refine stepL_done (by kernel_rfl) ?_ _;clear hHeld;obtain⟨w6,E6,C6,hs6,hr6⟩:=hR5.set (i:=j) (q:=X k j) hlt' (Nat.le_refl _) hb9 g9 g10;rw [E6];replace hE:=C6.ext (hE.trans eC) (by omega);replace ho3:=(ho3.ext eC).chg C6 (by omega) (.inl (Nat.le_refl _));replace y0:=C6.cell (p:=⟨w.heap.size,k,none⟩) (eC.cell y0) (.inl (by simp only; omega));have hr7:=(hr6.less (n':=j+1) (by omega)).congr (y:=X k) (fun c hc=>by unfold upd; split; (rename_i e; rw [e]); rfl);have hs7:gr < w6.heap.size:=by have:=eC.size; omega
     clear E6 C6 hs6 hr6 hR hR5 v0 v1 v2 v3 f0 f1 f2 f3;go_wp2;go_roundw
     case rel=>exact⟨j+1,by omega,by go_num,hE,hs7,y0,ho3,hr7⟩
     case measure=>simp [intOf]; omega
    ·obtain rfl:j=n:=by omega
     have ho4:=(ho3.more hlt y0 hR (Nat.le_refl _) (by unfold maxLen; omega)).congr (B:=X) (fun i _ c _=>by unfold updM; split; (rename_i e; rw [e]); rfl);go_wp2;go_roundw
     case rel=>exact⟨k+1,by omega,by go_num,hE,_,_,ho4⟩
     case measure=>simp [intOf]; omega
  ·obtain rfl:k=m:=by omega
   go_wp2;go_ret;exact⟨_,_,β,κ,rfl,by unfold maxLen; omega,ho,hE⟩
theorem m_made_sub {N:Nat} {w:World} (hN:N≤w.heap.size) (m n:Nat) {M' N':Int} (hM':M'=(m:Int)) (hN':N'=(n:Int)) (hm:m < 1000000) (hn:n < 1000000) (X:Nat→Nat→Rat) {ga gb:Nat}
  (hf:∀ i,i < m→∀ j,j < n→∀ w',Ext w w'→Calls Tryz.prog 129 #[.int .i64 (i:Int),.int .i64 (j:Int),.pointer (some ⟨ga,0,none⟩),.pointer (some ⟨gb,0,none⟩)] w' (RetR N w' (X i j))) :
  Calls Tryz.prog 120 #[.int .i64 M',.int .i64 N',.func (.func 129) #[] #[.pointer (some ⟨ga,0,none⟩),.pointer (some ⟨gb,0,none⟩)]] w (RetOwn N w m n X):=by
 subst hM' hN';have HF:=Lib.hid hf;clear hf;go_enter Tryz.func120,Tryz.ntmps120;go_wp2_with (at_make; refine Hid.out ?_);refine wpList_make_rows rfl _ _ rfl .i64 .i64 _ _ m rfl rfl rfl rfl hm ?_;intro w1 cs B0 hcs e1;have ho:OwnM N w.heap.size w1.heap.size w1 w.heap.size m 0 n (fun _=>0) (fun _=>0) X:=OwnM.start hN (Nat.le_refl _) B0 hcs X (blk_lt B0) (Nat.le_refl _);have hs1:w.heap.size < w1.heap.size:=blk_lt B0;clear B0;have HCS:=Lib.hid hcs;clear hcs;go_wp2
 go_loopw [14] (fun i wr=>∃ k:Nat,k≤m∧i=.int .i64 k∧Ext w wr∧∃ β κ,OwnM N w.heap.size wr.heap.size wr w.heap.size m k n β κ X) (fun i _=>m - (intOf i).toNat)
 case atStart=>exact⟨0,Nat.zero_le _,rfl,e1,_,_,ho⟩
 case round =>
  clear ho e1;obtain⟨k,hk,rfl,hE,β,κ,ho⟩:=hrel;have hsr:w.heap.size < wr.heap.size:=by have:=ho.hhi; omega
  by_cases hlt:k < m
  ·go_wp2_with (at_make; refine Hid.out ?_);refine wpList_make_rats rfl _ _ rfl .i64 .i64 _ _ n rfl rfl rfl rfl hn ?_;intro w2 cs2 B2 hcs2 e2;have ho2:=ho.ext e2;have hR:RowB N w2 wr.heap.size n 0 (X k):=⟨by omega,Nat.zero_le _,⟨cs2,B2,hcs2⟩,fun j hj=>by omega⟩
   obtain⟨u0,z0⟩:=ho2.hthere hlt;have z1:=ho2.hfrozen k;have hs2:wr.heap.size < w2.heap.size:=blk_lt B2;have HCS2:=Lib.hid hcs2;clear B2 hcs2 ho;go_upto_region 6 with (fail);obtain⟨w3,E3,C3,hs3,y0,ho3⟩:=ho2.setHead (Nat.le_refl k) hlt (.slice (some ⟨wr.heap.size,0,none⟩) n n);rw [E3];replace hE:=C3.ext (hE.trans e2) (Nat.le_refl _);replace hR:=hR.chg C3 (by omega) (by omega);have hs4:wr.heap.size < w3.heap.size:=by omega
   generalize hgr:wr.heap.size=gr at *
   clear hgr E3 C3 hs3 ho2 z0 z1 e2 hs2;have Y0:=y0;go_wp2
   go_loopw [27] (fun i ws=>∃ j:Nat,j≤n∧i=.int .i64 j∧Ext w ws∧gr < ws.heap.size∧ws.cell? ⟨w.heap.size,k,none⟩=some (.slice (some ⟨gr,0,none⟩) n n)∧OwnM N w.heap.size gr ws w.heap.size m k n β κ X∧RowB N ws gr n j (X k)) (fun i _=>n - (intOf i).toNat)
   case atStart=>exact⟨0,Nat.zero_le _,rfl,hE,hs4,y0,ho3,hR⟩
   case round =>
    clear hE y0 ho3 hR hs4 Y0;obtain⟨j,hj,rfl,hE,hs4,y0,ho3,hR⟩:=hrel
    by_cases hlt':j < n
    ·go_upto_region 9 with (fail);have eC:=(Ext.refl wr).drew;refine region_late (fun w'=>w'.cell? ⟨w.heap.size,k,none⟩=some (.slice (some ⟨gr,0,none⟩) n n)) [10] (by kernel_rfl) (by exact eC.cell y0) (fun hHeld=>?_);refine sP 0 (h:=?_);try simp only [nr]
     refine sP 1 (h:=?_);try simp only [nr]
     refine sP 2 (h:=?_);try simp only [nr]
     refine sT 3 (h:=?_);try simp only [nr]
     refine sP 4 (h:=?_);try simp only [nr]
     refine sP 5 (h:=?_);try simp only [nr]
     refine sP 6 (h:=?_);try simp only [nr]
     refine sP 7 (h:=?_);try simp only [nr]
     refine stepL_only (i:=8) rfl (by kernel_rfl) (fun K hK=>?_);go_simp;refine (HF.out k hlt j hlt' _ (hE.trans eC)).mono ?_;intro e w5 hh;obtain⟨b9,A9,k9,c9,A10,k10,c10,rfl,hb9,g9,g10,e5⟩:=hh.form;replace eC:=eC.trans e5;have hR5:=hR.ext eC;obtain⟨x0,v0⟩:=hR5.there (o:=j*4) (by omega);obtain⟨x1,v1⟩:=hR5.there (o:=j*4+1) (by omega);obtain⟨x2,v2⟩:=hR5.there (o:=j*4+2) (by omega);obtain⟨x3,v3⟩:=hR5.there (o:=j*4+3) (by omega);have f0:=hR5.frozen (j*4);have f1:=hR5.frozen (j*4+1);have f2:=hR5.frozen (j*4+2);have f3:=hR5.frozen (j*4+3);go_wp2_with fail;clear hHeld;refine hK.out _ _ (by exact eC.cell y0) fun hHeld=>?_
     clear hK K;try simp only [nr]
     refine sP 9 (h:=?_);try simp only [nr]
     refine stepL_late (i:=10) rfl (by kernel_rfl) (by kernel_rfl) (fun K hK=>?_);go_simp;refine hK.out _ _ ?_;clear hK K;try simp only [nr]
     refine stepL_done (by kernel_rfl) ?_ _;clear hHeld;obtain⟨w6,E6,C6,hs6,hr6⟩:=hR5.set (i:=j) (q:=X k j) hlt' (Nat.le_refl _) hb9 g9 g10;rw [E6];replace hE:=C6.ext (hE.trans eC) (by omega);replace ho3:=(ho3.ext eC).chg C6 (by omega) (.inl (Nat.le_refl _));replace y0:=C6.cell (p:=⟨w.heap.size,k,none⟩) (eC.cell y0) (.inl (by simp only; omega));have hr7:=(hr6.less (n':=j+1) (by omega)).congr (y:=X k) (fun c hc=>by unfold upd; split; (rename_i e; rw [e]); rfl);have hs7:gr < w6.heap.size:=by have:=eC.size; omega
     clear E6 C6 hs6 hr6 hR hR5 v0 v1 v2 v3 f0 f1 f2 f3;go_wp2;go_roundw
     case rel=>exact⟨j+1,by omega,by go_num,hE,hs7,y0,ho3,hr7⟩
     case measure=>simp [intOf]; omega
    ·obtain rfl:j=n:=by omega
     have ho4:=(ho3.more hlt y0 hR (Nat.le_refl _) (by unfold maxLen; omega)).congr (B:=X) (fun i _ c _=>by unfold updM; split; (rename_i e; rw [e]); rfl);go_wp2;go_roundw
     case rel=>exact⟨k+1,by omega,by go_num,hE,_,_,ho4⟩
     case measure=>simp [intOf]; omega
  ·obtain rfl:k=m:=by omega
   go_wp2;go_ret;exact⟨_,_,β,κ,rfl,by unfold maxLen; omega,ho,hE⟩
theorem m_check2 {N lo hi lo' hi':Nat} {w:World} {v v':Value} {g m n m' n':Nat} {X Y:Nat→Nat→Rat} (hB:w.cell? ⟨g,0,none⟩=some v∧w.cell? ⟨g,1,none⟩=some v') (h:MtV N lo hi w v m n X) (h':MtV N lo' hi' w v' m' n' Y) (hm0:0 < m) (hm:m≤64) (hn0:0 < n) (hn:n≤64) (hm0':0 < m') (hm':m'≤64) (hn0':0 < n') (hn':n'≤64)
  (hs:∀ i,i < m→∀ j,j < n→Sz (X i j)) (hs':∀ i,i < m'→∀ j,j < n'→Sz (Y i j)) :
  Calls Tryz.prog 124 #[.slice (some ⟨g,0,none⟩) 2 2] w (RetV w (.int .i64 0)):=by
 have HI:=Lib.hid h;have HI':=Lib.hid h';have HS:=Lib.hid hs;have HS':=Lib.hid hs';have HB:=Lib.hid hB;clear h h' hs hs' hB;go_enter Tryz.func124,Tryz.ntmps124;go_wp2
 go_loopw [8] (fun i wr=>∃ k:Nat,k≤2∧i=.int .i64 k∧Ext w wr) (fun i _=>2 - (intOf i).toNat)
 case atStart=>exact⟨0,by omega,rfl,Ext.refl w⟩
 case round =>
  obtain⟨k,hk,rfl,hE⟩:=hrel;have hk':k=0∨k=1∨k=2:=by omega
  rcases hk' with rfl | rfl | rfl
  ·have b0:=hE.cell HB.out.1;go_wp2_with (go_at_call 169; refine Hid.out ?_);refine (m_check (HI.out.ext hE) hm0 hm hn0 hn HS.out).mono ?_;rintro e w1 ⟨rfl,e1⟩;replace hE:=hE.trans e1;clear b0 e1;go_wp2;go_roundw
   case rel=>exact⟨1,by omega,by go_num,hE⟩
   case measure=>simp [intOf]
  ·have b0:=hE.cell HB.out.2;go_wp2_with (go_at_call 169; refine Hid.out ?_);refine (m_check (HI'.out.ext hE) hm0' hm' hn0' hn' HS'.out).mono ?_;rintro e w1 ⟨rfl,e1⟩;replace hE:=hE.trans e1;clear b0 e1;go_wp2;go_roundw
   case rel=>exact⟨2,by omega,by go_num,hE⟩
   case measure=>simp [intOf]
  ·go_wp2;go_ret;exact⟨rfl,hE⟩
theorem m_mul1 {N lo hi lo' hi':Nat} {w:World} {ga gb:Nat} {A B:Option Addr} {m n p c c':Nat} {X Y:Nat→Nat→Rat} (ha:w.cell? ⟨ga,0,none⟩=some (.slice A m c)) (hb:w.cell? ⟨gb,0,none⟩=some (.slice B p c')) (h:MtV N lo hi w (.slice A m c) m n X) (h':MtV N lo' hi' w (.slice B p c') p n Y) {i j:Nat} (hi':i < m) (hj:j < p) (hm:m < 1000000) (hp:p < 1000000)
  {k k':Nat} (hk:HtL n k (X i)) (hk':HtL n k' (Y j)) (hK:n*(k+k'+1)+1≤29000000000) :
  Calls Tryz.prog 126 #[.int .i64 (i:Int),.int .i64 (j:Int),.pointer (some ⟨ga,0,none⟩),.pointer (some ⟨gb,0,none⟩)] w (RetR N w (sum n (fun t=>X i t*Y j t))):=by
 have HK:=Lib.hid hK;have HX:=Lib.hid hk;have HY:=Lib.hid hk';have hN:=h.le;obtain⟨S,hS⟩:=hid_eq (sum n (fun t=>X i t*Y j t));rw [←hS.out];have hI:=h;have hI':=h';obtain⟨b,off,rfl,-,-,hx⟩:=h.addr (by omega);obtain⟨A1,c1,p0,-,-,hl⟩:=hx i hi';obtain⟨b2,off2,rfl,-,-,hx'⟩:=h'.addr (by omega);obtain⟨A2,c2,q0,-,-,hl'⟩:=hx' j hj;have l0:=cell_lt ha;have l0':=cell_lt hb;have l1:=cell_lt p0;have l2:=cell_lt q0;simp only at l0 l0' l1 l2;have HL:=Lib.hid hl;have HL':=Lib.hid hl';clear hx hx' h h' hk hk' hK hl hl';go_enter Tryz.func126,Tryz.ntmps126;go_upto_region 1 with (fail);refine boxes1 ?_;intro W hE hsz B0;replace ha:=hE.cell ha;replace hb:=hE.cell hb;replace p0:=hE.cell p0;replace q0:=hE.cell q0;have eC:=(Ext.refl W).drew;refine region_late (fun w'=>w'.cell? ⟨ga,0,none⟩=some (.slice (some ⟨b,off,none⟩) m c)∧w'.cell? ⟨gb,0,none⟩=some (.slice (some ⟨b2,off2,none⟩) p c')∧w'.cell? ⟨b,off+i,none⟩=some (.slice A1 n c1)∧w'.cell? ⟨b2,off2+j,none⟩=some (.slice A2 n c2)) [9] (by kernel_rfl) (by exact⟨eC.cell ha,eC.cell hb,eC.cell p0,eC.cell q0⟩) (fun hHeld=>?_);refine sT 0 (h:=?_);try simp only [nr]
 refine sP 1 (h:=?_);try simp only [nr]
 refine sP 2 (h:=?_);try simp only [nr]
 refine sT 3 (h:=?_);try simp only [nr]
 refine sT 4 (h:=?_);try simp only [nr]
 refine sP 5 (h:=?_);try simp only [nr]
 refine sP 6 (h:=?_);try simp only [nr]
 refine sT 7 (h:=?_);try simp only [nr]
 refine stepL_only (i:=8) rfl (by kernel_rfl) (fun K hK=>?_);go_simp;refine (m_dot (HL.out.ext (hE.trans eC)) (HL'.out.ext (hE.trans eC)) HX.out HY.out HK.out).mono ?_;rw [←hS.out];intro e w8 hh;obtain⟨b9,A11,k11,c11,A12,k12,c12,rfl,hb9,g9,g10,e8⟩:=hh.form;replace eC:=eC.trans e8;have D0:=eC.block B0;obtain⟨u0,u1,u2,u3,u4,u5,u6,u7⟩:=cells4 D0;go_wp2_with fail;clear hHeld;refine hK.out _ _ (by exact⟨eC.cell ha,eC.cell hb,eC.cell p0,eC.cell q0⟩) fun hHeld=>?_
 clear hK K;try simp only [nr]
 refine stepL_late (i:=9) rfl (by kernel_rfl) (by kernel_rfl) (fun K hK=>?_);go_simp;refine hK.out _ _ ?_;clear hK K;try simp only [nr]
 refine stepL_done (by kernel_rfl) ?_ _;clear hHeld;go_wp2;exact fin_rat rfl rfl rfl (hE.trans eC) D0 (by omega) hN g9 g10 hb9
theorem m_sub1 {N lo hi lo' hi':Nat} {w:World} {ga gb:Nat} {A B:Option Addr} {m n c c':Nat} {X Y:Nat→Nat→Rat} (ha:w.cell? ⟨ga,0,none⟩=some (.slice A m c)) (hb:w.cell? ⟨gb,0,none⟩=some (.slice B m c')) (h:MtV N lo hi w (.slice A m c) m n X) (h':MtV N lo' hi' w (.slice B m c') m n Y) {i j:Nat} (hi':i < m) (hj:j < n) (hm:m < 1000000) (hn:n < 1000000)
  (hk:Sz (X i j)) (hk':Sz (Y i j)) :
  Calls Tryz.prog 129 #[.int .i64 (i:Int),.int .i64 (j:Int),.pointer (some ⟨ga,0,none⟩),.pointer (some ⟨gb,0,none⟩)] w (RetR N w (X i j - Y i j)):=by
 have HX:=Lib.hid hk;have HY:=Lib.hid hk';have hN:=h.le;obtain⟨S,hS⟩:=hid_eq (X i j - Y i j);rw [←hS.out];obtain⟨b,off,rfl,-,-,hx⟩:=h.addr (by omega);obtain⟨A1,c1,p0,-,hc1,hl⟩:=hx i hi';obtain⟨b2,off2,rfl,-,-,hx'⟩:=h'.addr (by omega);obtain⟨A2,c2,q0,-,hc2,hl'⟩:=hx' i hi';obtain⟨b3,off3,rfl,-,-,hy⟩:=hl.addr (by omega);obtain⟨n1,A3,k3,c3,A4,k4,c4,t0,t1,t2,t3,hb1,g1,g2⟩:=(hy j hj).open;obtain⟨b4,off4,rfl,-,-,hy'⟩:=hl'.addr (by omega);obtain⟨n2,A5,k5,c5,A6,k6,c6,s0,s1,s2,s3,hb2,g3,g4⟩:=(hy' j hj).open;have l0:=cell_lt ha;have l0':=cell_lt hb;have l1:=cell_lt p0;have l2:=cell_lt q0;have l3:=cell_lt t0;have l4:=cell_lt s0;simp only at l0 l0' l1 l2 l3 l4;unfold maxLen at hc1 hc2;clear hx hx' h h' hk hk' hl hl' hy hy';go_enter Tryz.func129,Tryz.ntmps129;go_upto_region 1 with (fail);refine boxes1 ?_;intro W hE hsz B0;replace ha:=hE.cell ha;replace hb:=hE.cell hb;replace p0:=hE.cell p0;replace q0:=hE.cell q0;replace t0:=hE.cell t0;replace t1:=hE.cell t1;replace t2:=hE.cell t2;replace t3:=hE.cell t3;replace s0:=hE.cell s0;replace s1:=hE.cell s1;replace s2:=hE.cell s2;replace s3:=hE.cell s3;replace g1:=g1.ext hE;replace g2:=g2.ext hE;replace g3:=g3.ext hE;replace g4:=g4.ext hE;have eC:=(Ext.refl W).drew;refine region_late (fun w'=>w'.cell? ⟨ga,0,none⟩=some (.slice (some ⟨b,off,none⟩) m c)∧w'.cell? ⟨gb,0,none⟩=some (.slice (some ⟨b2,off2,none⟩) m c')∧w'.cell? ⟨b,off+i,none⟩=some (.slice (some ⟨b3,off3,none⟩) n c1)∧w'.cell? ⟨b2,off2+i,none⟩=some (.slice (some ⟨b4,off4,none⟩) n c2)∧w'.cell? ⟨b3,off3+j*4,none⟩=some (.bool n1)∧w'.cell? ⟨b3,off3+j*4+1,none⟩=some (.slice A3 k3 c3)∧w'.cell? ⟨b3,off3+j*4+2,none⟩=some (.bool false)∧w'.cell? ⟨b3,off3+j*4+3,none⟩=some (.slice A4 k4 c4)∧w'.cell? ⟨b4,off4+j*4,none⟩=some (.bool n2)∧w'.cell? ⟨b4,off4+j*4+1,none⟩=some (.slice A5 k5 c5)∧w'.cell? ⟨b4,off4+j*4+2,none⟩=some (.bool false)∧w'.cell? ⟨b4,off4+j*4+3,none⟩=some (.slice A6 k6 c6)) [15] (by kernel_rfl) (by exact⟨eC.cell ha,eC.cell hb,eC.cell p0,eC.cell q0,eC.cell t0,eC.cell t1,eC.cell t2,eC.cell t3,eC.cell s0,eC.cell s1,eC.cell s2,eC.cell s3⟩) (fun hHeld=>?_)
 refine sT 0 (h:=?_);try simp only [nr]
 refine sP 1 (h:=?_);try simp only [nr]
 refine sP 2 (h:=?_);try simp only [nr]
 refine sT 3 (h:=?_);try simp only [nr]
 refine sP 4 (h:=?_);try simp only [nr]
 refine sP 5 (h:=?_);try simp only [nr]
 refine sT 6 (h:=?_);try simp only [nr]
 refine sT 7 (h:=?_);try simp only [nr]
 refine sP 8 (h:=?_);try simp only [nr]
 refine sP 9 (h:=?_);try simp only [nr]
 refine sT 10 (h:=?_);try simp only [nr]
 refine sP 11 (h:=?_);try simp only [nr]
 refine sP 12 (h:=?_);try simp only [nr]
 refine sT 13 (h:=?_);try simp only [nr]
 refine stepL_only (i:=14) rfl (by kernel_rfl) (fun K hK=>?_);go_simp;refine (f_sub (x:=X i j) (y:=Y i j) (by exact (RatV.mk hb1 g1 g2).ext eC) (by exact (RatV.mk hb2 g3 g4).ext eC) HX.out HY.out).mono ?_;rw [←hS.out];intro e w8 hh;obtain⟨b9,A11,k11,c11,A12,k12,c12,rfl,hb9,g9,g10,e8⟩:=hh.form;replace eC:=eC.trans e8;have D0:=eC.block B0;obtain⟨u0,u1,u2,u3,u4,u5,u6,u7⟩:=cells4 D0;go_wp2_with fail;clear hHeld;refine hK.out _ _ (by exact⟨eC.cell ha,eC.cell hb,eC.cell p0,eC.cell q0,eC.cell t0,eC.cell t1,eC.cell t2,eC.cell t3,eC.cell s0,eC.cell s1,eC.cell s2,eC.cell s3⟩) fun hHeld=>?_
 clear hK K;try simp only [nr]
 refine stepL_late (i:=15) rfl (by kernel_rfl) (by kernel_rfl) (fun K hK=>?_);go_simp;refine hK.out _ _ ?_;clear hK K;try simp only [nr]
 refine stepL_done (by kernel_rfl) ?_ _;clear hHeld;go_wp2;exact fin_rat rfl rfl rfl (hE.trans eC) D0 (by omega) hN g9 g10 hb9
set_option maxRecDepth 100000 in
theorem m_mul {N lo hi lo' hi':Nat} {w:World} {v v':Value} {m n p:Nat} {X Y:Nat→Nat→Rat} (h:MtV N lo hi w v m n X) (h':MtV N lo' hi' w v' n p Y) (hm0:0 < m) (hm:m≤64) (hn0:0 < n) (hn:n≤64) (hp0:0 < p) (hp:p≤64)
  {k k':Nat} (hk:HtM m n k X) (hk':HtM n p k' Y) (hK:n*(k+k'+1)+1≤29000000000) :
  Calls Tryz.prog 66 #[v,v'] w (RetOwn2 N w m p (mm n X Y)):=by
 have h9:=Nat.le_mul_of_pos_left (k+k'+1) hn0;have HS:Hid (∀ i,i < m→∀ j,j < n→Sz (X i j)):=fun i hi j hj=>(hk i hi j hj).sz (by omega)
 have HS':Hid (∀ i,i < n→∀ j,j < p→Sz (Y i j)):=fun i hi j hj=>(hk' i hi j hj).sz (by omega)
 have HX:=Lib.hid hk;have HY:=Lib.hid hk';have HK:=Lib.hid hK;have hN:=h.le;obtain⟨Z,hZ⟩:=hid_eq (mm n X Y);have HZ:Hid (∀ i j,sum n (fun t=>X i t*Y t j)=Z i j):=fun i j=>by rw [hZ.out]; rfl
 rw [←hZ.out];obtain⟨Rf,hRf⟩:=hid_eq (RetOwn2 N w m p Z);rw [←hRf.out];obtain⟨A,c,rfl,hmc,hcm⟩:=h.form;obtain⟨A',c',rfl,hnc,hcm'⟩:=h'.form;have hI:=h;have hI':=h';obtain⟨b,off,rfl,-,-,hx⟩:=h.addr hm0;obtain⟨A1,c1,p0,hnc1,hcm1,-⟩:=hx 0 hm0;rw [Nat.add_zero] at p0;obtain⟨b',off',rfl,-,-,hx'⟩:=h'.addr hn0;obtain⟨A2,c2,q0,hnc2,hcm2,-⟩:=hx' 0 hn0;rw [Nat.add_zero] at q0;unfold maxLen at hcm1 hcm2 hcm hcm';have t1:((n:Int) != (n:Int))=false:=by simp
 clear h h' hx hx' hk hk' hK h9;go_enter Tryz.func66,Tryz.ntmps66;go_upto_region 1 with (fail);refine boxes1 ?_;intro W hE hsz B0;obtain⟨a0,-⟩:=cells1 B0;have hl0:=blk_lt B0;go_wp2_with (go_at_call 124; refine Hid.out ?_);refine boxesC1 ?_;intro w1 e1 hsz1 B1;obtain⟨b0,b1,-⟩:=cells2 B1;replace hE:=hE.trans e1;replace B0:=e1.block B0;refine (m_check2 ⟨b0,b1⟩ (hI.ext hE) (hI'.ext hE) hm0 hm hn0 hn hn0 hn hp0 hp HS.out HS'.out).mono ?_;rintro e w2 ⟨rfl,e2⟩;replace hE:=hE.trans e2;replace B0:=e2.block B0;clear a0 b0 b1 B1 e1 e2 hsz hsz1;obtain⟨a0,-⟩:=cells1 B0;replace p0:=hE.cell p0;replace q0:=hE.cell q0;go_wp2_with (go_at_call 125; refine Hid.out ?_);refine (m_turned (hI'.ext hE) hn0 (by omega) (by omega)).mono ?_;rintro e w3 ⟨h3,cap3,β3,κ3,rfl,hcap3,ho3,e3⟩;have hT:=ho3.mtv ho3.mle hcap3;have hmle:=ho3.mle;replace hE:=hE.trans e3;replace B0:=e3.block B0;clear ho3 a0 hl0;replace p0:=e3.cell p0;replace q0:=e3.cell q0;clear e3;go_upto_region 7 with (fail);refine boxes1 ?_;intro w4 e4 hsz4 B4;obtain⟨d0,-⟩:=cells1 B4;replace hE:=hE.trans e4;replace B0:=e4.block B0;obtain⟨a0,-⟩:=cells1 B0;replace p0:=e4.cell p0;replace q0:=e4.cell q0;replace hT:=hT.ext e4;obtain⟨g3,hg3⟩:∃ g3,g3=w3.heap.size:=⟨_,rfl⟩
 rw [←hg3] at d0 ⊢;clear B4 e4 hg3 hsz4;have hEz:=hE.size;have eC:=(Ext.refl w4).drew;refine region_late (fun w'=>w'.cell? ⟨w.heap.size,0,none⟩=some (.slice (some ⟨b,off,none⟩) m c)∧w'.cell? ⟨b',off',none⟩=some (.slice A2 p c2)) [] (by kernel_rfl) (by exact⟨eC.cell a0,eC.cell q0⟩) (fun hHeld=>?_);refine sT 0 (h:=?_);try simp only [nr]
 refine sP 1 (h:=?_);try simp only [nr]
 refine sP 2 (h:=?_);try simp only [nr]
 refine sP 3 (h:=?_);try simp only [nr]
 refine sT 4 (h:=?_);try simp only [nr]
 refine sP 5 (h:=?_);try simp only [nr]
 refine sP 6 (h:=?_);try simp only [nr]
 refine stepL_only (i:=7) rfl (by kernel_rfl) (fun K hK=>?_);go_simp;refine (m_made_mul (N:=N) (by show N≤w4.heap.size; omega) m p rfl rfl (by omega) (by omega) Z (fun i hi' j hj w' e=>by rw [←HZ.out i j]; exact m_mul1 (Y:=fun a b=>Y b a) ((eC.trans e).cell a0) ((eC.trans e).cell d0) (hI.ext (hE.trans (eC.trans e))) (hT.ext (eC.trans e)) hi' hj (by omega) (by omega) (HX.out i hi') (fun t ht=>HY.out t ht j hj) HK.out)).mono ?_;rintro e w5 ⟨h5,cap5,β5,κ5,rfl,hcap5,ho5,e5⟩;replace eC:=eC.trans e5;go_wp2_with fail;clear hHeld;refine hK.out _ _ (by exact⟨eC.cell a0,eC.cell q0⟩) fun hHeld=>?_
 clear hK K;try simp only [nr]
 refine sP 8 (h:=?_);try simp only [nr]
 refine sP 9 (h:=?_);try simp only [nr]
 refine stepL_done (by kernel_rfl) ?_ _;clear hHeld;go_wp2
 first | go_ret2 | skip
 rw [hRf.out];exact⟨h5,cap5,β5,κ5,rfl,hcap5,ho5.wide hEz hN (Nat.le_refl _) (Nat.le_refl _),hE.trans eC⟩
theorem m_both {N lo hi lo' hi':Nat} {w:World} {v v':Value} {m n:Nat} {X Y:Nat→Nat→Rat} (h:MtV N lo hi w v m n X) (h':MtV N lo' hi' w v' m n Y) (hm0:0 < m) (hm:m≤64) (hn0:0 < n) (hn:n≤64)
  (hs:∀ i,i < m→∀ j,j < n→Sz (X i j)) (hs':∀ i,i < m→∀ j,j < n→Sz (Y i j)) :
  Calls Tryz.prog 128 #[v,v'] w (RetV w (.int .i64 0)):=by
 have HS:=Lib.hid hs;have HS':=Lib.hid hs';obtain⟨A,c,rfl,hmc,hcm⟩:=h.form;obtain⟨A',c',rfl,hmc',hcm'⟩:=h'.form;have hI:=h;have hI':=h';obtain⟨b,off,rfl,-,-,hx⟩:=h.addr hm0;obtain⟨A1,c1,p0,hnc1,hcm1,-⟩:=hx 0 hm0;rw [Nat.add_zero] at p0;obtain⟨b',off',rfl,-,-,hx'⟩:=h'.addr hm0;obtain⟨A2,c2,q0,hnc2,hcm2,-⟩:=hx' 0 hm0;rw [Nat.add_zero] at q0;unfold maxLen at hcm1 hcm2 hcm hcm';have t1:((n:Int) != (n:Int))=false:=by simp
 have t2:((m:Int) != (m:Int))=false:=by simp
 clear h h' hx hx' hs hs';go_enter Tryz.func128,Tryz.ntmps128;go_wp2_with (go_at_call 124; refine Hid.out ?_);refine boxesC1 ?_;intro w1 e1 hsz1 B1;obtain⟨b0,b1,-⟩:=cells2 B1;refine (m_check2 ⟨b0,b1⟩ (hI.ext e1) (hI'.ext e1) hm0 hm hn0 hn hm0 hm hn0 hn HS.out HS'.out).mono ?_;rintro e w2 ⟨rfl,e2⟩;have hE:=e1.trans e2;replace p0:=hE.cell p0;replace q0:=hE.cell q0;clear b0 b1 B1 e1 e2 hsz1;go_upto_region 4 with (fail);refine regI [Mn.eq (.slice (some ⟨b,off,none⟩) m c),Mn.eq (.int .i64 (m:Int)),Mn.eq (.slice (some ⟨b',off',none⟩) m c'),Mn.eq (.int .i64 (m:Int)),Mn.eq (.bool false),Mn.eq (.bool false),Mn.eq (.slice (some ⟨b,off,none⟩) m c),Mn.eq (.pointer (some ⟨b,off,none⟩)),Mn.eq (.slice A1 n c1),Mn.eq (.int .i64 (n:Int)),Mn.eq (.slice (some ⟨b',off',none⟩) m c'),Mn.eq (.pointer (some ⟨b',off',none⟩)),Mn.eq (.slice A2 n c2),Mn.eq (.int .i64 (n:Int)),Mn.eq (.bool false),Mn.eq (.bool false)] [some 13,some 14,some 15,some 16,some 17,some 18,some 19,some 20,some 21,some 22,some 23,some 24,some 25,some 26,some 27,some 28] [] [true,true,true,true,true,true,true,true,true,true,true,true,true,true,true,true] 0 (by kernel_rfl) ?_ ?_
 ·show ∀ i,i < 16→_
  iterate 16 refine fs ?_ ?_
  ·exact fz
  all_goals intro hl
  all_goals clear hl
  all_goals refine stp rfl ?_
  all_goals intro ac wi eI hB hA K hK
  have o0:=oOf (hB 0 (by kernel_rfl)) rfl
  rotate_left
  obtain⟨x13,s13,j13⟩:=hA 0 (by kernel_rfl) 13 rfl;obtain rfl:x13=(.slice (some ⟨b,off,none⟩) m c):=j13
  rotate_left
  have o1:=oOf (hB 1 (by kernel_rfl)) rfl
  rotate_left
  obtain⟨x15,s15,j15⟩:=hA 2 (by kernel_rfl) 15 rfl;obtain rfl:x15=(.slice (some ⟨b',off',none⟩) m c'):=j15
  rotate_left
  obtain⟨x14,s14,j14⟩:=hA 1 (by kernel_rfl) 14 rfl;obtain rfl:x14=(.int .i64 (m:Int)):=j14;obtain⟨x16,s16,j16⟩:=hA 3 (by kernel_rfl) 16 rfl;obtain rfl:x16=(.int .i64 (m:Int)):=j16
  rotate_left
  obtain⟨x17,s17,j17⟩:=hA 4 (by kernel_rfl) 17 rfl;obtain rfl:x17=(.bool false):=j17
  rotate_left
  obtain⟨x18,s18,j18⟩:=hA 5 (by kernel_rfl) 18 rfl;obtain rfl:x18=(.bool false):=j18;have o0:=oOf (hB 0 (by kernel_rfl)) rfl;rw [if_pos (by simp [Region.wanted,yielded,s18])]
  rotate_left
  obtain⟨x18,s18,j18⟩:=hA 5 (by kernel_rfl) 18 rfl;obtain rfl:x18=(.bool false):=j18;obtain⟨x19,s19,j19⟩:=hA 6 (by kernel_rfl) 19 rfl;obtain rfl:x19=(.slice (some ⟨b,off,none⟩) m c):=j19;rw [if_pos (by simp [Region.wanted,yielded,s18])]
  rotate_left
  obtain⟨x18,s18,j18⟩:=hA 5 (by kernel_rfl) 18 rfl;obtain rfl:x18=(.bool false):=j18;obtain⟨x20,s20,j20⟩:=hA 7 (by kernel_rfl) 20 rfl;obtain rfl:x20=(.pointer (some ⟨b,off,none⟩)):=j20;rw [if_pos (by simp [Region.wanted,yielded,s18])];have cc0:=eI.cell p0;have cc1:=eI.cell q0
  rotate_left
  obtain⟨x18,s18,j18⟩:=hA 5 (by kernel_rfl) 18 rfl;obtain rfl:x18=(.bool false):=j18;obtain⟨x21,s21,j21⟩:=hA 8 (by kernel_rfl) 21 rfl;obtain rfl:x21=(.slice A1 n c1):=j21;rw [if_pos (by simp [Region.wanted,yielded,s18])]
  rotate_left
  obtain⟨x18,s18,j18⟩:=hA 5 (by kernel_rfl) 18 rfl;obtain rfl:x18=(.bool false):=j18;have o1:=oOf (hB 1 (by kernel_rfl)) rfl;rw [if_pos (by simp [Region.wanted,yielded,s18])]
  rotate_left
  obtain⟨x18,s18,j18⟩:=hA 5 (by kernel_rfl) 18 rfl;obtain rfl:x18=(.bool false):=j18;obtain⟨x23,s23,j23⟩:=hA 10 (by kernel_rfl) 23 rfl;obtain rfl:x23=(.slice (some ⟨b',off',none⟩) m c'):=j23;rw [if_pos (by simp [Region.wanted,yielded,s18])]
  rotate_left
  obtain⟨x18,s18,j18⟩:=hA 5 (by kernel_rfl) 18 rfl;obtain rfl:x18=(.bool false):=j18;obtain⟨x24,s24,j24⟩:=hA 11 (by kernel_rfl) 24 rfl;obtain rfl:x24=(.pointer (some ⟨b',off',none⟩)):=j24;rw [if_pos (by simp [Region.wanted,yielded,s18])];have cc0:=eI.cell p0;have cc1:=eI.cell q0
  rotate_left
  obtain⟨x18,s18,j18⟩:=hA 5 (by kernel_rfl) 18 rfl;obtain rfl:x18=(.bool false):=j18;obtain⟨x25,s25,j25⟩:=hA 12 (by kernel_rfl) 25 rfl;obtain rfl:x25=(.slice A2 n c2):=j25;rw [if_pos (by simp [Region.wanted,yielded,s18])]
  rotate_left
  obtain⟨x18,s18,j18⟩:=hA 5 (by kernel_rfl) 18 rfl;obtain rfl:x18=(.bool false):=j18;obtain⟨x22,s22,j22⟩:=hA 9 (by kernel_rfl) 22 rfl;obtain rfl:x22=(.int .i64 (n:Int)):=j22;obtain⟨x26,s26,j26⟩:=hA 13 (by kernel_rfl) 26 rfl;obtain rfl:x26=(.int .i64 (n:Int)):=j26;rw [if_pos (by simp [Region.wanted,yielded,s18])]
  rotate_left
  obtain⟨x18,s18,j18⟩:=hA 5 (by kernel_rfl) 18 rfl;obtain rfl:x18=(.bool false):=j18;obtain⟨x27,s27,j27⟩:=hA 14 (by kernel_rfl) 27 rfl;obtain rfl:x27=(.bool false):=j27
  rotate_left
  all_goals clear hB hA
  all_goals go_simp
  all_goals exact hK.out _ _ (Ext.refl _) rfl
 intro vals wz eZ hJ;have J28:vals 15=_:=hJ 15 (by decide) (by decide);clear hJ;simp only [pr,Nat.reduceAdd,J28];clear J28;refine stepL_done (by kernel_rfl) ?_ _;go_wp2;go_ret;exact⟨rfl,hE.trans eZ⟩
set_option maxRecDepth 100000 in
theorem m_sub {N lo hi lo' hi':Nat} {w:World} {v v':Value} {m n:Nat} {X Y:Nat→Nat→Rat} (h:MtV N lo hi w v m n X) (h':MtV N lo' hi' w v' m n Y) (hm0:0 < m) (hm:m≤64) (hn0:0 < n) (hn:n≤64)
  (hs:∀ i,i < m→∀ j,j < n→Sz (X i j)) (hs':∀ i,i < m→∀ j,j < n→Sz (Y i j)) :
  Calls Tryz.prog 67 #[v,v'] w (RetOwn2 N w m n (fun i j=>X i j - Y i j)):=by
 have HS:=Lib.hid hs;have HS':=Lib.hid hs';have hN:=h.le;obtain⟨Z,hZ⟩:=hid_eq (fun i j=>X i j - Y i j);have HZ:Hid (∀ i j,X i j - Y i j=Z i j):=fun i j=>by rw [hZ.out]
 rw [←hZ.out];obtain⟨Rf,hRf⟩:=hid_eq (RetOwn2 N w m n Z);rw [←hRf.out];obtain⟨A,c,rfl,hmc,hcm⟩:=h.form;obtain⟨A',c',rfl,hmc',hcm'⟩:=h'.form;have hI:=h;have hI':=h';obtain⟨b,off,rfl,-,-,hx⟩:=h.addr hm0;obtain⟨A1,c1,p0,hnc1,hcm1,-⟩:=hx 0 hm0;rw [Nat.add_zero] at p0;unfold maxLen at hcm1 hcm hcm';clear h h' hx hs hs';go_enter Tryz.func67,Tryz.ntmps67;go_upto_region 1 with (fail);refine boxes2 ?_;intro W hE hsz B0 B1;obtain⟨a0,-⟩:=cells1 B0;obtain⟨d0,-⟩:=cells1 B1;go_wp2_with (go_at_call 128; refine Hid.out ?_);refine (m_both (hI.ext hE) (hI'.ext hE) hm0 hm hn0 hn HS.out HS'.out).mono ?_;rintro e w2 ⟨rfl,e2⟩;replace hE:=hE.trans e2;replace B0:=e2.block B0;replace B1:=e2.block B1;clear a0 d0 e2 hsz;obtain⟨a0,-⟩:=cells1 B0;obtain⟨d0,-⟩:=cells1 B1;replace p0:=hE.cell p0;have hEz:=hE.size;go_upto_region 4 with (fail);have eC:=(Ext.refl w2).drew;refine region_late (fun w'=>w'.cell? ⟨w.heap.size,0,none⟩=some (.slice (some ⟨b,off,none⟩) m c)∧w'.cell? ⟨b,off,none⟩=some (.slice A1 n c1)) [] (by kernel_rfl) (by exact⟨eC.cell a0,eC.cell p0⟩) (fun hHeld=>?_);refine sT 0 (h:=?_);try simp only [nr]
 refine sP 1 (h:=?_);try simp only [nr]
 refine sT 2 (h:=?_);try simp only [nr]
 refine sP 3 (h:=?_);try simp only [nr]
 refine sT 4 (h:=?_);try simp only [nr]
 refine sP 5 (h:=?_);try simp only [nr]
 refine sP 6 (h:=?_);try simp only [nr]
 refine stepL_only (i:=7) rfl (by kernel_rfl) (fun K hK=>?_);go_simp;refine (m_made_sub (N:=N) (by show N≤w2.heap.size; omega) m n rfl rfl (by omega) (by omega) Z (fun i hi' j hj w' e=>by rw [←HZ.out i j]; exact m_sub1 ((eC.trans e).cell a0) ((eC.trans e).cell d0) (hI.ext (hE.trans (eC.trans e))) (hI'.ext (hE.trans (eC.trans e))) hi' hj (by omega) (by omega) (HS.out i hi' j hj) (HS'.out i hi' j hj))).mono ?_;rintro e w5 ⟨h5,cap5,β5,κ5,rfl,hcap5,ho5,e5⟩;replace eC:=eC.trans e5;go_wp2_with fail;clear hHeld;refine hK.out _ _ (by exact⟨eC.cell a0,eC.cell p0⟩) fun hHeld=>?_
 clear hK K;try simp only [nr]
 refine sP 8 (h:=?_);try simp only [nr]
 refine sP 9 (h:=?_);try simp only [nr]
 refine stepL_done (by kernel_rfl) ?_ _;clear hHeld;go_wp2
 first | go_ret2 | skip
 rw [hRf.out];exact⟨h5,cap5,β5,κ5,rfl,hcap5,ho5.wide hEz hN (Nat.le_refl _) (Nat.le_refl _),hE.trans eC⟩
theorem mmw_ht {m n q ka kb:Nat} {A B:Nat→Nat→Rat} (ha:HtM m n ka A) (hb:HtM n q kb B):HtM m q (n*(ka+kb+1)+1) (mm n A B):=fun i hi j hj =>
 sum_ht (n:=n) (k:=ka+kb) (fun t ht=>(ha i hi t ht).mul (hb t ht j hj)) (Nat.le_refl _) (Nat.le_refl _)
def schF (k e:Nat) (K:Nat→Nat→Rat):Nat→Nat→Rat:=mm e (fun a b=>K a (k+b)) (invM e (fun a b=>K (k+a) (k+b)))
def schM (k e:Nat) (K:Nat→Nat→Rat) (i j:Nat):Rat:=K i j - mm e (schF k e K) (fun a b=>K (k+a) b) i j
def schR (k e:Nat) (K:Nat→Nat→Rat) (b:Nat→Rat) (i:Nat):Rat:=b i - sum e (fun t=>schF k e K i t*b (k+t))
theorem invM_ht {e q:Nat} {X:Nat→Nat→Rat} (hq:HtM e e q X):HtM e e (5 ^ e*(q+1)) (invM e X):=fun i hi j hj =>
 rref_ht' (p:=e) (htM_augI hq) (j:=e) (by omega) (.inl (Nat.le_refl _)) i hi (e+j) (by omega)
def RetRd (N:Nat) (w:World) (k r e:Nat) (M:Nat→Nat→Rat) (R:Nat→Rat) (en:Ending) (w':World):Prop :=
 Ext w w'∧((r < e∧en=.returned (.tuple #[.slice none 0 0,.slice none 0 0,.int .i64 14]))∨(e≤r∧∃ A c A' c',en=.returned (.tuple #[.slice A k c,.slice A' k c',.int .i64 0])∧MtV N w.heap.size w'.heap.size w' (.slice A k c) k k M∧LsV N w.heap.size w'.heap.size w' (.slice A' k c') k R))
end Go.Proofs.YtccepmpebioeiaaGreat
