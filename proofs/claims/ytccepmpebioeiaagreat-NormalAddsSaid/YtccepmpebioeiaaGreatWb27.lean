import Derived.Test.YtccepmpebioeiaaGreatWb26
import Derived.Test.YtccepmpebioeiaaGreatWb21
import Derived.Test.YtccepmpebioeiaaGreatWb22
set_option linter.all false
set_option maxHeartbeats 8000000
namespace Go.Proofs.YtccepmpebioeiaaGreat
open Go.RowKit
theorem run_make_rows (w:World) (kl kc:IntKind) (n:Nat) (hn:n*24≤281474976710656) :
  ∃ w' cs,(Instr.makeSlice 23 (.int kl n) (.int kc n)).run Tryz.prog w=.ok (.slice (some ⟨w.heap.size,0,none⟩) n n) w'∧w'.heap[w.heap.size]?=some (.cells cs 24 (0,0))∧cs.size=n∧Ext w w':=by
 obtain⟨i0,hi0,hz0,hz1,hz2⟩:=info_parts info_row;obtain⟨w',hrun,hown,hgr⟩:=run_make_full (P:=Tryz.prog) w w.heap.size 23 24 i0 _ 1 Tryz.underlying23 hi0 hz0 hz1 kl kc n (by rw [hz2]; omega) (by unfold maxLen; omega) (Nat.le_refl _);have hx:=(Ext.refl w).grown hgr (fun k hk=>by cases hk)
 rcases hown.2 with ⟨h,_⟩ | ⟨g,cap,cur,hv,hg,hh,hnc,hcm,hcs,htk⟩
 ·cases h
 ·have e1:w.heap.size=g:=Option.some.inj (congrArg Value.ownBlock hv);have e3:n=cap:=congrArg (fun v:Value=>match v with | .slice _ _ c=>c | _=>0) hv;subst e1 e3;exact⟨w',cur,hrun,hh,by omega,hx⟩
theorem run_make_rats (w:World) (kl kc:IntKind) (n:Nat) (hn:n*64≤281474976710656) :
  ∃ w' cs,(Instr.makeSlice 24 (.int kl n) (.int kc n)).run Tryz.prog w=.ok (.slice (some ⟨w.heap.size,0,none⟩) n n) w'∧w'.heap[w.heap.size]?=some (.cells cs 44 (0,0))∧cs.size=n*4∧Ext w w':=by
 obtain⟨i0,hi0,hz0,hz1,hz2⟩:=info_parts info_rat;obtain⟨w',hrun,hown,hgr⟩:=run_make_full (P:=Tryz.prog) w w.heap.size 24 44 i0 _ 4 Tryz.underlying24 hi0 hz0 hz1 kl kc n (by rw [hz2]; omega) (by unfold maxLen; omega) (Nat.le_refl _);have hx:=(Ext.refl w).grown hgr (fun k hk=>by cases hk)
 rcases hown.2 with ⟨h,_⟩ | ⟨g,cap,cur,hv,hg,hh,hnc,hcm,hcs,htk⟩
 ·cases h
 ·have e1:w.heap.size=g:=Option.some.inj (congrArg Value.ownBlock hv);have e3:n=cap:=congrArg (fun v:Value=>match v with | .slice _ _ c=>c | _=>0) hv;subst e1 e3;exact⟨w',cur,hrun,hh,hcs,hx⟩
theorem wpList_make_rows {w:World} {ops:Array Oper} {rest:List Oper} {o:Oper} {a:Act} {Q:Exit→Act→World→Prop} (hg:o.guard=none) (l c:Operand) (hop:o.op=Op.makeSlice 23 l c)
  (kl kc:IntKind) (L C:Int) (n:Nat) (hl:a.eval l=.int kl L) (hc:a.eval c=.int kc C) (hL:L=(n:Int)) (hC:C=(n:Int)) (hn:n < 1000000)
  (hK:∀ w' cs,w'.heap[w.heap.size]?=some (.cells cs 24 (0,0))→cs.size=n→Ext w w'→wpList Tryz.prog ops Q rest (a.put o.dst (.slice (some ⟨w.heap.size,0,none⟩) n n)) w'):wpList Tryz.prog ops Q (o :: rest) a w:=by
 refine wpList_plain hg fun K hK'=>?_
 obtain⟨w',cs,hrun,r1,r2,r3⟩:=run_make_rows w kl kc n (by omega);subst hL;subst hC;unfold Oper.wp;simp [execOp,hop,hl,hc,hrun,Result.andThen]
 exact hK' _ _ (hK w' cs r1 r2 r3)
theorem wpList_make_rats {w:World} {ops:Array Oper} {rest:List Oper} {o:Oper} {a:Act} {Q:Exit→Act→World→Prop} (hg:o.guard=none) (l c:Operand) (hop:o.op=Op.makeSlice 24 l c)
  (kl kc:IntKind) (L C:Int) (n:Nat) (hl:a.eval l=.int kl L) (hc:a.eval c=.int kc C) (hL:L=(n:Int)) (hC:C=(n:Int)) (hn:n < 1000000)
  (hK:∀ w' cs,w'.heap[w.heap.size]?=some (.cells cs 44 (0,0))→cs.size=n*4→Ext w w'→wpList Tryz.prog ops Q rest (a.put o.dst (.slice (some ⟨w.heap.size,0,none⟩) n n)) w'):wpList Tryz.prog ops Q (o :: rest) a w:=by
 refine wpList_plain hg fun K hK'=>?_
 obtain⟨w',cs,hrun,r1,r2,r3⟩:=run_make_rats w kl kc n (by omega);subst hL;subst hC;unfold Oper.wp;simp [execOp,hop,hl,hc,hrun,Result.andThen]
 exact hK' _ _ (hK w' cs r1 r2 r3)
theorem OwnM.more {N lo hi:Nat} {w:World} {h k m n:Nat} {β κ:Nat→Nat} {A:Nat→Nat→Rat} (o:OwnM N lo hi w h k m n β κ A) (hm:m < k) {b cap:Nat} {x:Nat→Rat} (hc:w.cell? ⟨h,m,none⟩=some (.slice (some ⟨b,0,none⟩) n cap)) (hr:RowB N w b cap n x) (hb:hi≤b) (hcm:cap≤maxLen) :
  OwnM N lo w.heap.size w h k (m+1) n (fun i=>if i=m then b else β i) (fun i=>if i=m then cap else κ i) (updM A m x):=by
 obtain⟨hs,h1,h2,h3⟩:=o.hh;have hlt:=hr.lt;have hlo:=o.hlo;have hhi:=o.hhi;have his:=o.his;refine⟨o.le,⟨hs,h1,h2,fun i hi'=>?_⟩,by omega,hlo,by omega,Nat.le_refl _,fun i hi'=>?_,fun i hi'=>?_,fun i hi'=>?_,fun i hi'=>?_,fun i j hi' hj' hij=>?_⟩
 ·by_cases e:i=m
  ·subst e; rw [cell_blk h1] at hc; rw [hc]; simp
  ·rw [h3 i (by omega)]; simp [e]
 ·by_cases e:i=m
  ·simp only [e,if_true]; omega
  ·simp only [e,if_false]; exact o.lo_ i (by omega)
 ·by_cases e:i=m
  ·simp only [e,if_true]; exact hlt
  ·simp only [e,if_false]; have:=o.hi_ i (by omega); omega
 ·by_cases e:i=m
  ·simp only [e,if_true]; exact hcm
  ·simp only [e,if_false]; exact o.cap i (by omega)
 ·by_cases e:i=m
  ·simp only [e,if_true]; rw [updM_same]; exact hr
  ·simp only [e,if_false]; rw [updM_ne A x e]; exact o.row i (by omega)
 ·by_cases e:i=m
  ·have e2:j≠m:=by omega
   simp only [e,e2,if_true,if_false]; have:=o.hi_ j (by omega); omega
  ·by_cases e2:j=m
   ·simp only [e,e2,if_true,if_false]; have:=o.hi_ i (by omega); omega
   ·simp only [e,e2,if_false]; exact o.inj i j (by omega) (by omega) hij
theorem OwnM.start {N lo:Nat} {w:World} {h k n:Nat} {cs:Array Value} (hN:N≤lo) (hl:lo≤h) (hb:w.heap[h]?=some (.cells cs 24 (0,0))) (hk:cs.size=k) (A:Nat→Nat→Rat) {hi:Nat} (h1:h < hi) (h2:hi≤w.heap.size):OwnM N lo hi w h k 0 n (fun _=>0) (fun _=>0) A :=
 ⟨hN,⟨cs,hb,hk,fun i hi=>by omega⟩,by omega,hl,h1,h2,fun i hi=>by omega,fun i hi=>by omega,fun i hi=>by omega,fun i hi=>by omega,fun i j hi=>by omega⟩
theorem OwnM.setHead {N lo hi:Nat} {w:World} {h k m n:Nat} {β κ:Nat→Nat} {A:Nat→Nat→Rat} (o:OwnM N lo hi w h k m n β κ A) {i:Nat} (hi':m≤i) (hik:i < k) (v:Value) :
  ∃ w',w.setCell ⟨h,i,none⟩ v=w'∧Chg h (h+1) w w'∧w'.heap.size=w.heap.size∧w'.cell? ⟨h,i,none⟩=some v∧OwnM N lo hi w' h k m n β κ A:=by
 obtain⟨hs,h1,h2,h3⟩:=o.hh;have b1:=heap_set h1 i v;have U:Upd h w (w.setCell ⟨h,i,none⟩ v):=(Upd.refl h w).set i v;have c:=U.chg o.noU;have hlo:=o.hlo;have hN:=o.le;refine⟨_,rfl,c,U.size,?_,o.le,⟨_,b1,by simp [h2],fun j hj=>?_⟩,o.mle,o.hlo,o.hhi,Nat.le_trans o.his c.size,o.lo_,o.hi_,o.cap,fun j hj=>(o.row j hj).chg c (by omega) (by have:=o.ne hj; omega),o.inj⟩
 ·rw [cell_blk b1,Array.getElem?_setIfInBounds_self_of_lt (by omega)]
 ·rw [Array.getElem?_setIfInBounds_ne (by omega)]; exact h3 j hj
theorem OwnM.hthere {N lo hi:Nat} {w:World} {h k m n:Nat} {β κ:Nat→Nat} {A:Nat→Nat→Rat} (o:OwnM N lo hi w h k m n β κ A) {i:Nat} (hi':i < k):∃ u,w.cell? ⟨h,i,none⟩=some u:=by
 obtain⟨hs,h1,h2,-⟩:=o.hh;rw [cell_blk h1]; exact⟨_,Array.getElem?_eq_getElem (by omega)⟩
theorem m_made_copied {N:Nat} {w:World} (hN:N≤w.heap.size) (m n:Nat) {M' N':Int} (hM':M'=(m:Int)) (hN':N'=(n:Int)) (hm:m < 1000000) (hn:n < 1000000) (X:Nat→Nat→Rat) {gb:Nat}
  (hf:∀ i,i < m→∀ j,j < n→∀ w',Ext w w'→Calls Tryz.prog 212 #[.int .i64 (i:Int),.int .i64 (j:Int),.pointer (some ⟨gb,0,none⟩)] w' (RetR N w' (X i j))) :
  Calls Tryz.prog 120 #[.int .i64 M',.int .i64 N',.func (.func 212) #[] #[.pointer (some ⟨gb,0,none⟩)]] w (RetOwn N w m n X):=by
 subst hM' hN';have HF:=Lib.hid hf;clear hf;go_enter Tryz.func120,Tryz.ntmps120;go_wp2_with (at_make; refine Hid.out ?_);refine wpList_make_rows rfl _ _ rfl .i64 .i64 _ _ m rfl rfl rfl rfl hm ?_;intro w1 cs B0 hcs e1;have ho:OwnM N w.heap.size w1.heap.size w1 w.heap.size m 0 n (fun _=>0) (fun _=>0) X:=OwnM.start hN (Nat.le_refl _) B0 hcs X (blk_lt B0) (Nat.le_refl _);have hs1:w.heap.size < w1.heap.size:=blk_lt B0;clear B0;have HCS:=Lib.hid hcs;clear hcs;go_wp2
 go_loopw [14] (fun i wr=>∃ k:Nat,k≤m∧i=.int .i64 k∧Ext w wr∧∃ β κ,OwnM N w.heap.size wr.heap.size wr w.heap.size m k n β κ X) (fun i _=>m - (intOf i).toNat)
 case atStart=>exact⟨0,Nat.zero_le _,rfl,e1,_,_,ho⟩
 case round =>
  clear ho e1;obtain⟨k,hk,rfl,hE,β,κ,ho⟩:=hrel;have hsr:w.heap.size < wr.heap.size:=by have:=ho.hhi; omega
  by_cases hlt:k < m
  ·go_wp2_with (at_make; refine Hid.out ?_);refine wpList_make_rats rfl _ _ rfl .i64 .i64 _ _ n rfl rfl rfl rfl hn ?_;intro w2 cs2 B2 hcs2 e2;have ho2:=ho.ext e2;have hR:RowB N w2 wr.heap.size n 0 (X k):=⟨by omega,Nat.zero_le _,⟨cs2,B2,hcs2⟩,fun j hj=>by omega⟩
   obtain⟨u0,z0⟩:=ho2.hthere hlt;have z1:=ho2.hfrozen k;have hs2:wr.heap.size < w2.heap.size:=blk_lt B2;have HCS2:=Lib.hid hcs2;clear B2 hcs2 ho;go_upto_region 6 with (fail);obtain⟨w3,E3,C3,hs3,y0,ho3⟩:=ho2.setHead (Nat.le_refl k) hlt (.slice (some ⟨wr.heap.size,0,none⟩) n n);rw [E3];replace hE:=C3.ext (hE.trans e2) (Nat.le_refl _);replace hR:=hR.chg C3 (by omega) (by omega);have hs4:wr.heap.size < w3.heap.size:=by omega
   generalize hgr:wr.heap.size=gr at *
   clear hgr E3 C3 hs3 ho2 z0 z1 e2 hs2;have Y0:=y0;go_wp2
   go_loopw [27] (fun i ws=>∃ j:Nat,j≤n∧i=.int .i64 j∧Ext w ws∧gr < ws.heap.size∧ws.cell? ⟨w.heap.size,k,none⟩=some (.slice (some ⟨gr,0,none⟩) n n)∧OwnM N w.heap.size gr ws w.heap.size m k n β κ X∧RowB N ws gr n j (X k)) (fun i _=>n - (intOf i).toNat)
   case atStart=>exact⟨0,Nat.zero_le _,rfl,hE,hs4,y0,ho3,hR⟩
   case round =>
    clear hE y0 ho3 hR hs4 Y0;obtain⟨j,hj,rfl,hE,hs4,y0,ho3,hR⟩:=hrel
    by_cases hlt':j < n
    ·go_upto_region 9 with (fail);have eC:=(Ext.refl wr).drew;refine region_late (fun w'=>w'.cell? ⟨w.heap.size,k,none⟩=some (.slice (some ⟨gr,0,none⟩) n n)) [10] (by kernel_rfl) (by exact eC.cell y0) (fun hHeld=>?_);refine sP 0 (h:=?_);try simp only [nr]
     refine sP 1 (h:=?_);try simp only [nr]
     refine sP 2 (h:=?_);try simp only [nr]
     refine sT 3 (h:=?_);try simp only [nr]
     refine sP 4 (h:=?_);try simp only [nr]
     refine sP 5 (h:=?_);try simp only [nr]
     refine sP 6 (h:=?_);try simp only [nr]
     refine sP 7 (h:=?_);try simp only [nr]
     refine stepL_only (i:=8) rfl (by kernel_rfl) (fun K hK=>?_);go_simp;refine (HF.out k hlt j hlt' _ (hE.trans eC)).mono ?_;intro e w5 hh;obtain⟨b9,A9,k9,c9,A10,k10,c10,rfl,hb9,g9,g10,e5⟩:=hh.form;replace eC:=eC.trans e5;have hR5:=hR.ext eC;obtain⟨x0,v0⟩:=hR5.there (o:=j*4) (by omega);obtain⟨x1,v1⟩:=hR5.there (o:=j*4+1) (by omega);obtain⟨x2,v2⟩:=hR5.there (o:=j*4+2) (by omega);obtain⟨x3,v3⟩:=hR5.there (o:=j*4+3) (by omega);have f0:=hR5.frozen (j*4);have f1:=hR5.frozen (j*4+1);have f2:=hR5.frozen (j*4+2);have f3:=hR5.frozen (j*4+3);go_wp2_with fail;clear hHeld;refine hK.out _ _ (by exact eC.cell y0) fun hHeld=>?_
     clear hK K;try simp only [nr]
     refine sP 9 (h:=?_);try simp only [nr]
     refine stepL_late (i:=10) rfl (by kernel_rfl) (by kernel_rfl) (fun K hK=>?_);go_simp;refine hK.out _ _ ?_;clear hK K;try simp only [nr]
     refine stepL_done (by kernel_rfl) ?_ _;clear hHeld;obtain⟨w6,E6,C6,hs6,hr6⟩:=hR5.set (i:=j) (q:=X k j) hlt' (Nat.le_refl _) hb9 g9 g10;rw [E6];replace hE:=C6.ext (hE.trans eC) (by omega);replace ho3:=(ho3.ext eC).chg C6 (by omega) (.inl (Nat.le_refl _));replace y0:=C6.cell (p:=⟨w.heap.size,k,none⟩) (eC.cell y0) (.inl (by simp only; omega));have hr7:=(hr6.less (n':=j+1) (by omega)).congr (y:=X k) (fun c hc=>by unfold upd; split; (rename_i e; rw [e]); rfl);have hs7:gr < w6.heap.size:=by have:=eC.size; omega
     clear E6 C6 hs6 hr6 hR hR5 v0 v1 v2 v3 f0 f1 f2 f3;go_wp2;go_roundw
     case rel=>exact⟨j+1,by omega,by go_num,hE,hs7,y0,ho3,hr7⟩
     case measure=>simp [intOf]; omega
    ·obtain rfl:j=n:=by omega
     have ho4:=(ho3.more hlt y0 hR (Nat.le_refl _) (by unfold maxLen; omega)).congr (B:=X) (fun i _ c _=>by unfold updM; split; (rename_i e; rw [e]); rfl);go_wp2;go_roundw
     case rel=>exact⟨k+1,by omega,by go_num,hE,_,_,ho4⟩
     case measure=>simp [intOf]; omega
  ·obtain rfl:k=m:=by omega
   go_wp2;go_ret;exact⟨_,_,β,κ,rfl,by unfold maxLen; omega,ho,hE⟩
theorem m_made_unit {N:Nat} {w:World} (hN:N≤w.heap.size) (m n:Nat) {M' N':Int} (hM':M'=(m:Int)) (hN':N'=(n:Int)) (hm:m < 1000000) (hn:n < 1000000) (X:Nat→Nat→Rat)
  (hf:∀ i,i < m→∀ j,j < n→∀ w',Ext w w'→Calls Tryz.prog 121 #[.int .i64 (i:Int),.int .i64 (j:Int)] w' (RetR N w' (X i j))) :
  Calls Tryz.prog 120 #[.int .i64 M',.int .i64 N',.func (.func 121) #[] #[]] w (RetOwn N w m n X):=by
 subst hM' hN';have HF:=Lib.hid hf;clear hf;go_enter Tryz.func120,Tryz.ntmps120;go_wp2_with (at_make; refine Hid.out ?_);refine wpList_make_rows rfl _ _ rfl .i64 .i64 _ _ m rfl rfl rfl rfl hm ?_;intro w1 cs B0 hcs e1;have ho:OwnM N w.heap.size w1.heap.size w1 w.heap.size m 0 n (fun _=>0) (fun _=>0) X:=OwnM.start hN (Nat.le_refl _) B0 hcs X (blk_lt B0) (Nat.le_refl _);have hs1:w.heap.size < w1.heap.size:=blk_lt B0;clear B0;have HCS:=Lib.hid hcs;clear hcs;go_wp2
 go_loopw [14] (fun i wr=>∃ k:Nat,k≤m∧i=.int .i64 k∧Ext w wr∧∃ β κ,OwnM N w.heap.size wr.heap.size wr w.heap.size m k n β κ X) (fun i _=>m - (intOf i).toNat)
 case atStart=>exact⟨0,Nat.zero_le _,rfl,e1,_,_,ho⟩
 case round =>
  clear ho e1;obtain⟨k,hk,rfl,hE,β,κ,ho⟩:=hrel;have hsr:w.heap.size < wr.heap.size:=by have:=ho.hhi; omega
  by_cases hlt:k < m
  ·go_wp2_with (at_make; refine Hid.out ?_);refine wpList_make_rats rfl _ _ rfl .i64 .i64 _ _ n rfl rfl rfl rfl hn ?_;intro w2 cs2 B2 hcs2 e2;have ho2:=ho.ext e2;have hR:RowB N w2 wr.heap.size n 0 (X k):=⟨by omega,Nat.zero_le _,⟨cs2,B2,hcs2⟩,fun j hj=>by omega⟩
   obtain⟨u0,z0⟩:=ho2.hthere hlt;have z1:=ho2.hfrozen k;have hs2:wr.heap.size < w2.heap.size:=blk_lt B2;have HCS2:=Lib.hid hcs2;clear B2 hcs2 ho;go_upto_region 6 with (fail);obtain⟨w3,E3,C3,hs3,y0,ho3⟩:=ho2.setHead (Nat.le_refl k) hlt (.slice (some ⟨wr.heap.size,0,none⟩) n n);rw [E3];replace hE:=C3.ext (hE.trans e2) (Nat.le_refl _);replace hR:=hR.chg C3 (by omega) (by omega);have hs4:wr.heap.size < w3.heap.size:=by omega
   generalize hgr:wr.heap.size=gr at *
   clear hgr E3 C3 hs3 ho2 z0 z1 e2 hs2;have Y0:=y0;go_wp2
   go_loopw [27] (fun i ws=>∃ j:Nat,j≤n∧i=.int .i64 j∧Ext w ws∧gr < ws.heap.size∧ws.cell? ⟨w.heap.size,k,none⟩=some (.slice (some ⟨gr,0,none⟩) n n)∧OwnM N w.heap.size gr ws w.heap.size m k n β κ X∧RowB N ws gr n j (X k)) (fun i _=>n - (intOf i).toNat)
   case atStart=>exact⟨0,Nat.zero_le _,rfl,hE,hs4,y0,ho3,hR⟩
   case round =>
    clear hE y0 ho3 hR hs4 Y0;obtain⟨j,hj,rfl,hE,hs4,y0,ho3,hR⟩:=hrel
    by_cases hlt':j < n
    ·go_upto_region 9 with (fail);have eC:=(Ext.refl wr).drew;refine region_late (fun w'=>w'.cell? ⟨w.heap.size,k,none⟩=some (.slice (some ⟨gr,0,none⟩) n n)) [10] (by kernel_rfl) (by exact eC.cell y0) (fun hHeld=>?_);refine sP 0 (h:=?_);try simp only [nr]
     refine sP 1 (h:=?_);try simp only [nr]
     refine sP 2 (h:=?_);try simp only [nr]
     refine sT 3 (h:=?_);try simp only [nr]
     refine sP 4 (h:=?_);try simp only [nr]
     refine sP 5 (h:=?_);try simp only [nr]
     refine sP 6 (h:=?_);try simp only [nr]
     refine sP 7 (h:=?_);try simp only [nr]
     refine stepL_only (i:=8) rfl (by kernel_rfl) (fun K hK=>?_);go_simp;refine (HF.out k hlt j hlt' _ (hE.trans eC)).mono ?_;intro e w5 hh;obtain⟨b9,A9,k9,c9,A10,k10,c10,rfl,hb9,g9,g10,e5⟩:=hh.form;replace eC:=eC.trans e5;have hR5:=hR.ext eC;obtain⟨x0,v0⟩:=hR5.there (o:=j*4) (by omega);obtain⟨x1,v1⟩:=hR5.there (o:=j*4+1) (by omega);obtain⟨x2,v2⟩:=hR5.there (o:=j*4+2) (by omega);obtain⟨x3,v3⟩:=hR5.there (o:=j*4+3) (by omega);have f0:=hR5.frozen (j*4);have f1:=hR5.frozen (j*4+1);have f2:=hR5.frozen (j*4+2);have f3:=hR5.frozen (j*4+3);go_wp2_with fail;clear hHeld;refine hK.out _ _ (by exact eC.cell y0) fun hHeld=>?_
     clear hK K;try simp only [nr]
     refine sP 9 (h:=?_);try simp only [nr]
     refine stepL_late (i:=10) rfl (by kernel_rfl) (by kernel_rfl) (fun K hK=>?_);go_simp;refine hK.out _ _ ?_;clear hK K;try simp only [nr]
     refine stepL_done (by kernel_rfl) ?_ _;clear hHeld;obtain⟨w6,E6,C6,hs6,hr6⟩:=hR5.set (i:=j) (q:=X k j) hlt' (Nat.le_refl _) hb9 g9 g10;rw [E6];replace hE:=C6.ext (hE.trans eC) (by omega);replace ho3:=(ho3.ext eC).chg C6 (by omega) (.inl (Nat.le_refl _));replace y0:=C6.cell (p:=⟨w.heap.size,k,none⟩) (eC.cell y0) (.inl (by simp only; omega));have hr7:=(hr6.less (n':=j+1) (by omega)).congr (y:=X k) (fun c hc=>by unfold upd; split; (rename_i e; rw [e]); rfl);have hs7:gr < w6.heap.size:=by have:=eC.size; omega
     clear E6 C6 hs6 hr6 hR hR5 v0 v1 v2 v3 f0 f1 f2 f3;go_wp2;go_roundw
     case rel=>exact⟨j+1,by omega,by go_num,hE,hs7,y0,ho3,hr7⟩
     case measure=>simp [intOf]; omega
    ·obtain rfl:j=n:=by omega
     have ho4:=(ho3.more hlt y0 hR (Nat.le_refl _) (by unfold maxLen; omega)).congr (B:=X) (fun i _ c _=>by unfold updM; split; (rename_i e; rw [e]); rfl);go_wp2;go_roundw
     case rel=>exact⟨k+1,by omega,by go_num,hE,_,_,ho4⟩
     case measure=>simp [intOf]; omega
  ·obtain rfl:k=m:=by omega
   go_wp2;go_ret;exact⟨_,_,β,κ,rfl,by unfold maxLen; omega,ho,hE⟩
theorem m_copied1 {N lo hi:Nat} {w:World} {gb:Nat} {A:Option Addr} {m n c:Nat} {X:Nat→Nat→Rat} (hb:w.cell? ⟨gb,0,none⟩=some (.slice A m c)) (h:MtV N lo hi w (.slice A m c) m n X) {i j:Nat} (hi':i < m) (hj:j < n) (hm:m < 1000000) (hn:n < 1000000) :
  Calls Tryz.prog 212 #[.int .i64 (i:Int),.int .i64 (j:Int),.pointer (some ⟨gb,0,none⟩)] w (RetR N w (X i j)):=by
 have hN:=h.le;obtain⟨b,off,rfl,-,-,hx⟩:=h.addr (by omega);obtain⟨A1,c1,p0,-,-,hl⟩:=hx i hi';obtain⟨b2,off2,rfl,-,-,hx⟩:=hl.addr (by omega);obtain⟨n1,A3,k3,c3,A4,k4,c4,q0,q1,q2,q3,hb1,g1,g2⟩:=(hx j hj).open;have l0:=cell_lt hb;have l1:=cell_lt p0;have l2:=cell_lt q0;simp only at l0 l1 l2;obtain⟨q,hq⟩:=hid_eq (X i j);rw [←hq.out] at hb1 g1 g2 ⊢;clear hx hl h;go_enter Tryz.func212,Tryz.ntmps212;go_wp2;have eA:=(Ext.refl w).alloc (Obj.cells #[Value.bool n1,Value.slice A3 k3 c3,Value.bool false,Value.slice A4 k4 c4] 44);exact fin_ratB rfl rfl rfl eA (BoxR.mk (heap_alloc_new w _) hb1 (g1.ext eA) (g2.ext eA))
theorem m_unit {N:Nat} {w:World} (hN:N≤w.heap.size) (i j:Nat) (hi:i < 1000000) (hj:j < 1000000) :
  Calls Tryz.prog 121 #[.int .i64 (i:Int),.int .i64 (j:Int)] w (RetR N w (dlt i j)):=by
 go_enter Tryz.func121,Tryz.ntmps121
 by_cases hij:i=j
 ·subst hij;rw [dlt_same];go_wp2_with (go_at_call 82; refine Hid.out ?_);refine boxesC1 ?_;intro W hE hsz B0;refine (f_whole (N:=N) (by have:=hE.size; omega) 1 (by omega) (by omega)).mono ?_;intro e w1 hh;obtain⟨b1,A1,k1,c1,A2,k2,c2,rfl,hb1,g1,g2,e1⟩:=hh.form;have B1:=e1.block B0;obtain⟨r0,r1,r2,r3,r4,r5,r6,r7⟩:=cells4 B1;go_wp2;exact fin_rat (q:=1) rfl rfl rfl (hE.trans e1) B1 (by omega) hN g1 g2 hb1
 ·have hne:((i:Int) == (j:Int))=false:=beq_eq_false_iff_ne.2 (by omega);rw [dlt_ne hij];go_wp2_with (go_at_call 82; refine Hid.out ?_);refine boxesC1 ?_;intro W hE hsz B0;refine (f_whole (N:=N) (by have:=hE.size; omega) 0 (by omega) (by omega)).mono ?_;intro e w1 hh;obtain⟨b1,A1,k1,c1,A2,k2,c2,rfl,hb1,g1,g2,e1⟩:=hh.form;have B1:=e1.block B0;obtain⟨r0,r1,r2,r3,r4,r5,r6,r7⟩:=cells4 B1;go_wp2;exact fin_rat (q:=0) rfl rfl rfl (hE.trans e1) B1 (by omega) hN g1 g2 hb1
end Go.Proofs.YtccepmpebioeiaaGreat
