import Derived.Test.YthkkknjcoidioaaGreatWb44
import Derived.Test.YthkkknjcoidioaaGreatWb45
import Derived.Test.YthkkknjcoidioaaGreatWb46
set_option linter.all false
set_option maxHeartbeats 8000000
namespace Go.Proofs.YthkkknjcoidioaaGreat
open Go.RowKit
theorem r2_sameMatrix {N lo hi lo' hi':Nat} {w:World} {v v':Value} {m n:Nat} {x y:Nat→Nat→Rat} (h:MtV N lo hi w v m n x) (h':MtV N lo' hi' w v' m n y) (hz:∀ i,i < m→∀ j,j < n→Sz (x i j)) (he:∀ i,i < m→∀ j,j < n→x i j=y i j) :
  Calls Tryz.prog 75 #[v,v'] w (RetV w (.bool true)):=by
 obtain⟨A,c,rfl,hnc,hcm⟩:=h.form;obtain⟨A',c',rfl,hnc',hcm'⟩:=h'.form;unfold maxLen at hcm hcm';have hI:=h;have hI':=h';have HZ:=Lib.hid hz;have HE:=Lib.hid he;clear hz he h h';go_enter Tryz.func75,Tryz.ntmps75;go_wp2
 go_loopw [5] (fun i wr=>∃ k:Nat,k≤m∧i=.int .i64 k∧Ext w wr) (fun i _=>m - (intOf i).toNat)
 case atStart=>exact⟨0,Nat.zero_le _,rfl,Ext.refl w⟩
 case round =>
  obtain⟨k,hk,rfl,hE⟩:=hrel
  by_cases hlt:k < m
  ·obtain⟨b,off,rfl,-,-,hx⟩:=(hI.ext hE).addr (by omega);obtain⟨b',off',rfl,-,-,hx'⟩:=(hI'.ext hE).addr (by omega);obtain⟨A1,c1,p0,-,-,hv⟩:=hx k hlt;obtain⟨A3,c3,q0,-,-,hv'⟩:=hx' k hlt;clear hx hx';go_wp2;have eC:=(Ext.refl wr).drew;refine region_late (fun w'=>w'.cell? ⟨b,off+k,none⟩=some (.slice A1 n c1)∧w'.cell? ⟨b',off'+k,none⟩=some (.slice A3 n c3)) [] (by kernel_rfl) (by exact⟨eC.cell p0,eC.cell q0⟩) (fun hHeld=>?_);refine sP 0 (h:=?_);try simp only [nr]
   refine sP 1 (h:=?_);try simp only [nr]
   refine sP 2 (h:=?_);try simp only [nr]
   refine sT 3 (h:=?_);try simp only [nr]
   refine sP 4 (h:=?_);try simp only [nr]
   refine sP 5 (h:=?_);try simp only [nr]
   refine sP 6 (h:=?_);try simp only [nr]
   refine sT 7 (h:=?_);try simp only [nr]
   refine stepL_only (i:=8) rfl (by kernel_rfl) (fun K hK=>?_);go_simp;refine (r2_sameList (x:=x k) (y:=y k) (by exact hv.ext eC) (by exact hv'.ext eC) (HZ.out k hlt) (HE.out k hlt)).mono ?_;rintro e w1 ⟨rfl,e1⟩;replace eC:=eC.trans e1;go_wp2_with fail;clear hHeld;refine hK.out _ _ (by exact⟨eC.cell p0,eC.cell q0⟩) fun hHeld=>?_
   clear hK K;try simp only [nr]
   refine sP 9 (h:=?_);try simp only [nr]
   refine stepL_done (by kernel_rfl) ?_ _;clear hHeld;go_wp2;go_roundw
   case rel=>exact⟨k+1,by omega,by go_num,hE.trans eC⟩
   case measure=>simp [intOf]; omega
  ·go_wp2;go_ret;exact⟨rfl,hE⟩
theorem run_append_none {P:Program} {t e ty:TypeId} {i:TypeInfo} (ht:P.underlying t=some (.slice e)) (hi:P.info? e=some i) (b:Option Addr) (A:Option Addr) (c:Nat) (w:World) :
  (Builtin.append_ #[t,t] ty #[.slice b 0 0,.slice A 0 c]).run P w=.ok (.slice b 0 0) w:=by
 cases A <;> cases b <;> simp [Builtin.append_,run_underlying ht,Builtin.lenOf,Builtin.firstCells,sizeOf,typeInfo,hi,storeCells,loadCells,loadCellsFrom]
theorem one_raw {N:Nat} {w:World} {g:Nat} {R:Raw} {s t:Value} (hN:N≤w.heap.size) (h:w.heap[g]?=some (.cells #[.bool R.b1,s,.bool R.b2,t] 36 (0,0))) (h1:Gs N w s R.l1) (h2:Gs N w t R.l2):LsR N 0 w.heap.size w (.slice (some ⟨g,0,none⟩) 1 1) 1 (fun _=>R):=by
 obtain⟨p0,p1,p2,p3,-⟩:=cells4 h;refine⟨hN,Nat.le_refl _,_,1,rfl,Nat.le_refl _,by unfold maxLen; omega,fun _=>⟨g,0,rfl,Nat.zero_le _,blk_lt h,fun i hi=>?_⟩⟩;obtain rfl:i=0:=by omega
 exact⟨s,t,p0,p1,p2,p3,h1,h2⟩
end Go.Proofs.YthkkknjcoidioaaGreat
