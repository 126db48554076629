import Derived.Test.YthkkknjcoidioaaGreatWb37
import Derived.Test.YthkkknjcoidioaaGreatWb28
import Derived.Test.YthkkknjcoidioaaGreatWb25
import Derived.Test.YthkkknjcoidioaaGreatWb32
import Derived.Test.YthkkknjcoidioaaGreatWb34
import Derived.Test.YthkkknjcoidioaaGreatWb23
import Derived.Test.YthkkknjcoidioaaGreatWb26
import Derived.Test.YthkkknjcoidioaaGreatWb21
import Derived.Test.YthkkknjcoidioaaGreatWb36
import Derived.Laws.EntriesVeiled
import Derived.Test.YthkkknjcoidioaaGreatWb17
set_option linter.all false
set_option maxHeartbeats 8000000
namespace Go.Proofs.YthkkknjcoidioaaGreat
open Go.RowKit
theorem n_Residuals {N lo hi lo2 hi2 lo' hi':Nat} {w:World} {v1 v2 v3 v4:Value} {m n:Nat} {X:Nat→Nat→Rat} {y p x:Nat→Rat} (h1:MtV N lo hi w v1 m n X) (h2:LsV N lo2 hi2 w v2 m y) (h3:LsV N lo2 hi2 w v3 m p) (h4:LsV N lo' hi' w v4 n x) (hm0:0 < m) (hm:m≤64) (hn0:0 < n) (hn:n≤24) (hp:∀ i,i < m→0 < p i)
  {k kx:Nat} (hkX:HtM m n k X) (hky:HtL m k y) (hkp:HtL m k p) (hkx:HtL n kx x) (hkx1:kx≤29000000000) (hK:n*(k+kx+1)+1+k≤29000000000) :
  Calls Tryz.prog 103 #[.agg #[v1,v2,v3],v4] w (RetL2 N w m (fun i=>av n X x i - y i)):=by
 have HGV:Hid (∀ w1,Ext w w1→Calls Tryz.prog 143 #[.agg #[v1,v2,v3],v4] w1 (RetV w1 (.int .i64 0))):=fun w1 e1=>by
  have h9:=n_given (linV_of (h1.ext e1) (h2.ext e1) (h3.ext e1)) (h4.ext e1) (linSz_of hkX hky hkp (by omega)) (fun i hi=>(hkp i hi).sz (by omega)) (fun i hi=>((hkx i hi).sz hkx1).raw);rw [giv_good hm0 hm hn0 hn hp] at h9;exact h9
 have HRS:Hid (∀ w1,Ext w w1→Calls Tryz.prog 144 #[.agg #[v1,v2,v3],v4] w1 (RetL N w1 m (fun i=>av n X x i - y i))) :=
  fun w1 e1=>n_residuals (h1.ext e1) (h2.ext e1) (h3.ext e1) (h4.ext e1) (by omega) hn0 (by omega) hkX hky hkx hK
 obtain⟨vv,hvv⟩:=hid_eq (fun i=>av n X x i - y i);rw [←hvv.out] at HRS ⊢;obtain⟨A1,c1,rfl,-⟩:=h1.form;obtain⟨A2,c2,rfl,-⟩:=h2.form;obtain⟨A3,c3,rfl,-⟩:=h3.form;obtain⟨A4,c4,rfl,-⟩:=h4.form;clear h1 h2 h3 h4 hkX hky hkp hkx hK hp;go_enter Tryz.func103,Tryz.ntmps103;go_upto_region 1 with (fail);refine boxes1 ?_;intro W hE hsz B0;obtain⟨a0,a1,a2,-⟩:=cells3 B0;go_wp2_with (go_at_call 143; refine Hid.out ?_);refine (HGV.out W hE).mono ?_;rintro e w1 ⟨rfl,e1⟩;replace hE:=hE.trans e1;replace B0:=e1.block B0;clear a0 a1 a2 e1 hsz HGV;obtain⟨a0,a1,a2,-⟩:=cells3 B0;go_wp2_with (go_at_call 144; refine Hid.out ?_);refine (HRS.out _ hE).mono ?_;rintro e w2 ⟨A5,c5,rfl,h5,e2⟩;have hs:=hE.size;go_wp2
 first | go_ret2 | skip
 exact⟨A5,c5,rfl,LsR.wide h5 hs (Nat.le_refl _) (Nat.le_refl _),hE.trans e2⟩
theorem rref_more (m:Nat) (Y:Nat→Nat→Rat) (j:Nat):∀ d,∃ l,(rref m Y (j+d)).2=(rref m Y j).2 ++ l∧∀ x∈l,j≤x
 | 0=>⟨[],by simp,by simp⟩
 | d+1=>by
  obtain⟨l,h1,h2⟩:=rref_more m Y j d
  show ∃ l,(rstep m (rref m Y (j+d)) (j+d)).2=_∧_
  unfold rstep;simp only []
  split
  ·refine⟨l ++ [j+d],by rw [h1,List.append_assoc],fun x hx=>?_⟩
   rcases List.mem_append.1 hx with h | h
   ·exact h2 x h
   ·rw [List.mem_singleton] at h; omega
  ·exact⟨l,h1,h2⟩
theorem inv_last {n:Nat} (hn:0 < n) (Y:Nat→Nat→Rat) :
  ((n≤(rref n Y (n+n)).2.length∧(rref n Y (n+n)).2[n - 1]?.getD 0 < n)↔(rref n Y n).2.length=n)∧((rref n Y n).2.length=n→rref n Y (n+n)=rref n Y n):=by
 have hl:=(rref_len n Y n).1;have h1:(rref n Y n).2.length=n→rref n Y (n+n)=rref n Y n:=fun h=>rref_full (j:=n) (by omega) (n+n) (by omega)
 refine⟨⟨fun ⟨h2,h3⟩=>?_,fun h=>?_⟩,h1⟩
 ·obtain⟨l,h4,h5⟩:=rref_more n Y n n
  by_cases h6:(rref n Y n).2.length=n
  ·exact h6
  ·rw [h4] at h2 h3;rw [List.length_append] at h2;rw [List.getElem?_append_right (by omega)] at h3;rw [List.getElem?_eq_getElem (by omega)] at h3;have:=h5 _ (List.getElem_mem (l:=l) (n:=n - 1 - (rref n Y n).2.length) (by omega));simp only [Option.getD_some] at h3;omega
 ·rw [h1 h];exact⟨by omega,(rref_ok n Y n).low (n - 1) (by omega)⟩
def RetIvO (N:Nat) (w:World) (n:Nat) (ok:Bool) (Z:Nat→Nat→Rat) (e:Ending) (w':World):Prop :=
 Ext w w'∧((ok=false∧e=.returned (.tuple #[.slice none 0 0,.bool false]))∨(ok=true∧∃ A c,e=.returned (.tuple #[.slice A n c,.bool true])∧MtV N w.heap.size w'.heap.size w' (.slice A n c) n n Z))
def ivB (n:Nat) (X:Nat→Nat→Rat):Bool:=decide ((rref n (augI n X) n).2.length=n)
theorem RowB.tail {N:Nat} {w:World} {b k n:Nat} {x:Nat→Rat} (h:RowB N w b k (n+n) x) {c lo hi:Nat} (hc:n≤c) (hm:c≤maxLen) (h1:lo≤b) (h2:b < hi) (h3:hi≤w.heap.size) :
  LsV N lo hi w (.slice (some ⟨b,n*4,none⟩) n c) n (fun j=>x (n+j)):=by
 refine⟨by have:=h.1; omega,h3,_,c,rfl,hc,hm,fun _=>⟨b,n*4,rfl,h1,h2,fun i hi=>?_⟩⟩;have:=h.2.2.2 (n+i) (by omega);rw [Nat.add_mul] at this;exact this
set_option maxRecDepth 100000 in
theorem r5_inverse {N lo hi:Nat} {w:World} {v:Value} {n:Nat} {X:Nat→Nat→Rat} (h:MtV N lo hi w v n n X) (hn0:0 < n) (hn:n < 100000)
  {q:Nat} (hq:HtM n n q X) (hK:5*(5 ^ n*(q+1))≤29000000000) :
  Calls Tryz.prog 63 #[v] w (RetIvO N w n (ivB n X) (invM n X)):=by
 obtain⟨Rf,hRf⟩:=hid_eq (RetIvO N w n (ivB n X) (invM n X));rw [←hRf.out];have hN:=h.le;obtain⟨A,c,rfl,hmc,hcm⟩:=h.form;have hI:=h;have HA:Hid (HtM n (n+n) (q+1) (augI n X)):=htM_augI hq
 have HE:Hid (∀ w1 v1 lo1 hi1,MtV N lo1 hi1 w1 v1 n (n+n) (augI n X)→Calls Tryz.prog 82 #[v1] w1 (RetEch N w1 n (n+n) (rref n (augI n X) (n+n)).1 (rref n (augI n X) (n+n)).2)) :=
  fun w1 v1 lo1 hi1 h1=>r5_echelon (P:=n) h1 hn0 (by omega) (by omega) (by omega) HA.out (.inl (Nat.le_refl _)) hK
 have HL1:Hid (ivB n X=decide (n≤(rref n (augI n X) (n+n)).2.length∧(rref n (augI n X) (n+n)).2[n - 1]?.getD 0 < n)):=by
  rw [Hid]; unfold ivB; exact decide_eq_decide.2 (inv_last hn0 (augI n X)).1.symm
 have HL2:Hid (ivB n X=true→invM n X=fun i j=>(rref n (augI n X) (n+n)).1 i (n+j)):=fun h9=>by
  rw [(inv_last hn0 (augI n X)).2 (of_decide_eq_true h9)]; rfl
 have hpl:(rref n (augI n X) (n+n)).2.length≤n:=(rref_len n _ _).1
 generalize rref n (augI n X) (n+n)=st at HE HL1 HL2 hpl
 obtain⟨M,p⟩:=st;simp only at HE HL1 HL2 hpl;obtain⟨np,hnp⟩:=hid_eq p.length;rw [←hnp.out] at hpl HL1;obtain⟨ok,hok⟩:=hid_eq (ivB n X);rw [←hok.out] at hRf HL1 HL2;unfold maxLen at hcm;clear h hq hK;go_enter Tryz.func63,Tryz.ntmps63;go_wp2_with (go_at_call 107; refine Hid.out ?_);refine (r5_identity hN n rfl hn0 (by omega)).mono ?_;intro e w1 hh;obtain⟨A1,c1,rfl,h1,e1⟩:=hh.mt;clear hh;go_wp2_with (go_at_call 106; refine Hid.out ?_);refine (r5_beside (hI.ext e1) h1 (by omega) hn0 (by omega)).mono ?_;intro e w2 hh;obtain⟨A2,c2,rfl,h2,e2⟩:=hh.mt;clear hh;go_wp2_with (go_at_call 82; refine Hid.out ?_);refine (HE.out w2 _ _ _ h2).mono ?_;rintro e w3 ⟨h,cap,β,κ,A',c',rfl,hcap,ho,hi',e3⟩;have hE:=(e1.trans e2).trans e3;have hs1:=e1.size;have hs2:=e2.size;have hs3:=e3.size;have hlo:w.heap.size≤w2.heap.size:=by omega
 have hNlo:N≤w2.heap.size:=by omega
 rw [←hnp.out] at hi' ⊢;clear h1 h2 e1 e2 e3;have hcap':=hcap;unfold maxLen at hcap;obtain⟨lo3,hlo3⟩:∃ lo3,lo3=w2.heap.size:=⟨_,rfl⟩
 rw [←hlo3] at ho hi' hlo hNlo
 by_cases hlt:np < n
 ·have HB:Hid (ok=false):=by rw [Hid,HL1.out]; exact decide_eq_false (fun h9=>by omega)
  go_wp2;rw [hRf.out];exact⟨hE,.inl ⟨HB.out,rfl⟩⟩
 ·obtain rfl:np=n:=by omega
  obtain⟨b,off,z,rfl,c0,hz⟩:=hi'.at_ (i:=np - 1) (by rw [←hnp.out]; omega);have hsub:((np:Int) - 1)=((np - 1:Nat):Int):=by omega
  obtain⟨nq,hnq⟩:∃ nq,nq=np - 1:=⟨_,rfl⟩
  have hnq1:((np:Int) - 1)=(nq:Int):=by omega
  have hnq2:nq < np:=by omega
  rw [←hnq] at c0 hz
  by_cases hzn:z < np
  ·have HB:Hid (ok=true):=by
    rw [Hid,HL1.out];refine decide_eq_true ⟨Nat.le_refl _,?_⟩;rw [←hnq,←hz.out]; exact hzn
   clear hsub hnq hz;have hZZ:Hid (invM np X=fun i j=>M i (np+j)):=HL2.out HB.out;obtain⟨Z,hZ⟩:=hid_eq (invM np X);rw [←hZ.out] at hRf hZZ;have hzd:decide (np≤z)=false:=decide_eq_false (by omega);clear HL2 HL1 HE HA hI hi' hpl;go_upto_region 6 with (fail);clear c0 hnq1 hnq2;refine boxes1 ?_;intro W e4 hsz4 B0;have hG0:GrowM N w3.heap.size W.heap.size W (.slice (some ⟨w3.heap.size,0,none⟩) 0 0) 0 np Z:=GrowM.empty (by omega) (Nat.le_refl _) (by omega) (Nat.le_refl _) B0 _;clear B0;go_wp2
   go_loopw [7,8] (fun v i wr=>∃ k:Nat,k≤np∧i=.int .i64 k∧Ext w3 wr∧∃ h c,v=.slice (some ⟨h,0,none⟩) k c∧GrowM N w3.heap.size wr.heap.size wr (.slice (some ⟨h,0,none⟩) k c) k np Z) (fun _ i _=>np - (intOf i).toNat)
   case atStart=>exact⟨0,Nat.zero_le _,rfl,e4,_,_,rfl,hG0⟩
   case round =>
    clear hG0 hsz4 e4;obtain⟨k,hk,rfl,hEr,h',c',rfl,hG⟩:=hrel;have hsz:=hEr.size
    by_cases hlt:k < np
    ·have hor:=ho.ext hEr;have p0:=hor.hcell hlt;have hbl:h < wr.heap.size:=cell_lt p0;have hrow:=hor.row k hlt;have hκ:=hrow.2.1;have hκm:=hor.cap k hlt;have hβ:=hor.hi_ k hlt;have hne:¬ np=κ k:=by omega
     have hl:LsV N 0 wr.heap.size wr (.slice (some ⟨β k,np*4,none⟩) np (κ k - np)) np (Z k):=by
      rw [hZZ.out];exact hrow.tail (by omega) (by unfold maxLen at hκm ⊢; omega) (Nat.zero_le _) (by omega) (Nat.le_refl _)
     have hcapk:κ k≤9223372036854775807:=by unfold maxLen at hκm; omega
     clear hrow hκm hor;go_wp2_with (at_builtin; refine Hid.out ?_);refine boxes1 ?_;intro W1 e5 hsz1 B1;have hR:Grow N wr.heap.size W1 (.slice (some ⟨wr.heap.size,0,none⟩) 0 0) 0 (Z k):=Grow.empty (by omega) (Nat.le_refl _) B1 _;replace hG:=hG.ext e5;replace hEr:=hEr.trans e5;refine wpList_append_list rfl _ _ 24 Tryz.underlying24 rfl (by rfl) hR (by simp [Act.eval,hne]) (hl.ext e5) (by omega:0+np < 1000000000) ?_;rintro A' c2 w4 hR2 ⟨g',hg',c3,-⟩;rw [Nat.zero_add] at hR2 ⊢;replace hEr:=c3.ext hEr (by omega);replace hG:=hG.chg c3 (by omega) (.inl hg');replace hR2:=hR2.congr (y:=Z k) (fun i hi=>by unfold cat; simp);obtain⟨g,cap',hv,hg,hgs,hcm,hnc,hrow⟩:=hR2.some hn0;injection hv with e2 e3 e4
     subst e2 e4;have hsz2:wr.heap.size≤w4.heap.size:=Nat.le_trans e5.size c3.size;clear hR hR2 c3 B1 e5 hsz1 p0 hl;go_wp2_with (at_builtin; refine Hid.out ?_);refine boxes1 ?_;intro w5 e6 hsz3 BX;replace hEr:=hEr.trans e6;replace hG:=hG.ext e6;refine wpList_append_row rfl _ _ 23 Tryz.underlying23 rfl rfl hG rfl (hrow.ext e6) hg hcm BX (by omega) ?_;rintro h'' cap'' w6 hG3 ⟨g',hg',c3,-⟩;replace hEr:=c3.ext hEr (by omega);replace hG3:=hG3.congr (B:=Z) (fun i _ j _=>by unfold updM; split <;> simp_all);clear hG c3 hrow BX e6;go_wp2;go_roundw
     case rel=>exact⟨k+1,by omega,by go_num,hEr,_,_,rfl,hG3⟩
     case measure=>simp [intOf]; omega
    ·obtain rfl:k=np:=by omega
     go_wp2;rw [hRf.out];exact⟨hE.trans hEr,.inr ⟨HB.out,_,_,rfl,MtR.wide hG.mtv (by omega) (Nat.le_refl _) (Nat.le_refl _)⟩⟩
  ·have HB:Hid (ok=false):=by
    rw [Hid,HL1.out];refine decide_eq_false (fun h9=>?_);have:=h9.2;rw [←hnq,←hz.out] at this; exact hzn this
   clear hsub hnq hz;go_wp2;rw [hRf.out];exact⟨hE,.inl ⟨HB.out,rfl⟩⟩
end Go.Proofs.YthkkknjcoidioaaGreat
namespace Go.Proofs.YthkkknjcoidioaaGreat
theorem nmat_nm5 (m:Nat) (B:Nat→Nat→Rat) (p:Nat→Rat) (i j:Nat):nmat B p m i j=nm m B p i j:=sum_congr fun t _=>by grind
theorem ivB_reg {n:Nat} {K:Nat→Nat→Rat}:ivB n K=true↔Reg n K:=by
 unfold ivB;rw [decide_eq_true_eq,augI_beside];exact inv_iff n K
theorem regInv {n:Nat} {K:Nat→Nat→Rat} (h:Reg n K):(∀ i,i < n→∀ c,c < n→mm n (invM n K) K i c=dlt i c)∧∀ i,i < n→∀ c,c < n→mm n K (invM n K) i c=dlt i c:=by
 have he:=augI_beside n K;have h9:=inv_ok (rref_ok n (besideI n K) n) ((inv_iff n K).2 h);have hi:invM n K=fun a b=>(rref n (besideI n K) n).1 a (n+b):=by funext a b; unfold invM; rw [he]
 rw [hi];exact⟨h9.2,h9.1⟩
end Go.Proofs.YthkkknjcoidioaaGreat
namespace Go.Proofs.YthkkknjcoidioaaGreat
open Go.RowKit
theorem val_one {l:List Nat} (h:l.length≤1):val l=l[0]?.getD 0:=by
 rcases l with _ | ⟨x,l⟩
 ·rfl
 ·have h2:l=[]:=List.eq_nil_of_length_eq_zero (by simpa using h);subst h2;simp [val]
theorem brief_sz {R:Raw} (h:briefB R=true):R.l1.length≤1∧R.l2.length≤1:=by
 unfold briefB at h;simp only [Bool.and_eq_true,decide_eq_true_eq] at h;exact⟨h.1.1.1,h.1.1.2⟩
theorem brief_ht {q:Rat} (h:briefB (raw q)=true):Ht 17 q:=by
 unfold briefB raw at h;simp only [Bool.and_eq_true,decide_eq_true_eq] at h;obtain⟨⟨⟨h1,h2⟩,h3⟩,h4⟩:=h;rw [←val_one h1,val_dg] at h3;rw [←val_one h2,val_dg] at h4;have h5:(2:Nat) ^ 17=131072:=by decide
 exact⟨by omega,by omega⟩
theorem brief_raw {R:Raw} (h:briefB R=true):RawSz R∧RawS R:=by
 obtain⟨h1,h2⟩:=brief_sz h;exact⟨⟨by omega,by omega⟩,⟨by omega,by omega⟩⟩
def ratOf (R:Raw):Rat:=Rat.divInt (zval R.b1 R.l1) (zval R.b2 R.l2)
theorem ratOf_raw (q:Rat):ratOf (raw q)=q:=by
 unfold ratOf raw;have h4:zval false (dg q.den)=(q.den:Int):=by unfold zval; rw [val_dg]; simp
 simp only [zval_canon,h4];exact Rat.num_divInt_den q
theorem raw_ratOf {R:Raw} (h:okR R=true):R=raw (ratOf R):=by
 obtain⟨q,rfl⟩:=okR_spec h;rw [ratOf_raw]
structure FewLin (Z:Lin) (n:Nat) (X:Nat→Nat→Rat) (y p:Nat→Rat):Prop where
 m0:0 < Z.m
 m6:Z.m≤6
 n0:0 < n
 n4:n≤4
 L:∀ i,i < Z.m→Z.L i=n
 eA:∀ i,i < Z.m→∀ j,j < n→Z.A i j=raw (X i j)
 nl:Z.nl=Z.m
 el:∀ i,i < Z.m→Z.l i=raw (y i)
 np:Z.np=Z.m
 ep:∀ i,i < Z.m→Z.p i=raw (p i)
 pos:∀ i,i < Z.m→0 < p i
 hX:HtM Z.m n 17 X
 hy:HtL Z.m 17 y
 hp:HtL Z.m 17 p
theorem rat_pos {q:Rat} (h:0 < q.num):0 < q:=by
 rw [Rat.lt_iff];simpa using h
theorem code_zero {Z:Lin} (h:codeOf Z=0):canonB Z=true∧sizeB Z=true∧fitB Z=true∧allB Z.np (fun i=>posB (Z.p i))=true:=by
 unfold codeOf at h
 by_cases h1:canonB Z=false
 ·rw [if_pos h1] at h; exact absurd h (by decide)
 rw [if_neg h1] at h
 by_cases h2:sizeB Z=false
 ·rw [if_pos h2] at h; exact absurd h (by decide)
 rw [if_neg h2] at h
 by_cases h3:fitB Z=false
 ·rw [if_pos h3] at h; exact absurd h (by decide)
 rw [if_neg h3] at h
 by_cases h4:allB Z.np (fun i=>posB (Z.p i))=false
 ·rw [if_pos h4] at h; exact absurd h (by decide)
 exact⟨by simpa using h1,by simpa using h2,by simpa using h3,by simpa using h4⟩
theorem FewLin.mem {Z:Lin} {n:Nat} {X:Nat→Nat→Rat} {y p:Nat→Rat} (f:FewLin Z n X y p) {N lo hi:Nat} {w:World} {A1 A2 A3:Option Addr} {c1 c2 c3:Nat} (h1:MtR N lo hi w (.slice A1 Z.m c1) Z.m Z.L Z.A) (h2:LsR N lo hi w (.slice A2 Z.nl c2) Z.nl Z.l) (h3:LsR N lo hi w (.slice A3 Z.np c3) Z.np Z.p) :
  MtV N lo hi w (.slice A1 Z.m c1) Z.m n X∧LsV N lo hi w (.slice A2 Z.m c2) Z.m y∧LsV N lo hi w (.slice A3 Z.m c3) Z.m p:=by
 refine⟨MtR.congr h1 f.L (fun i hi j hj=>f.eA i hi j (by rw [←f.L i hi]; exact hj)),?_,?_⟩
 ·rw [f.nl] at h2; exact LsR.congr h2 f.el
 ·rw [f.np] at h3; exact LsR.congr h3 f.ep
theorem shB_all {most n:Nat} {R:Nat→Raw} (h:shB most n R=true):n≤most∧∀ i,i < n→briefB (R i)=true:=by
 unfold shB at h;rw [Bool.and_eq_true,decide_eq_true_eq,allB_true] at h;exact h
theorem few34_all {r c:Nat} {Z:Lin} (h:few34 r c Z=true):Z.m≤r∧(∀ i,i < Z.nl→briefB (Z.l i)=true)∧(∀ i,i < Z.np→briefB (Z.p i)=true)∧∀ i,i < Z.m→Z.L i≤c∧∀ j,j < Z.L i→briefB (Z.A i j)=true:=by
 unfold few34 at h;rw [Bool.and_eq_true,Bool.and_eq_true,Bool.and_eq_true,decide_eq_true_eq,allB_true] at h;obtain⟨h1,h2,h3,h4⟩:=h;exact⟨h1,(shB_all h2).2,(shB_all h3).2,fun i hi=>shB_all (h4 i hi)⟩
theorem few34_sz {r c:Nat} {Z:Lin} (h:few34 r c Z=true):Z.m≤r∧LinSz Z∧∀ i,i < Z.np→RawS (Z.p i):=by
 obtain⟨h1,h2,h3,h4⟩:=few34_all h;exact⟨h1,⟨fun i hi j hj=>(brief_raw ((h4 i hi).2 j hj)).1,fun i hi=>(brief_raw (h2 i hi)).1,fun i hi=>(brief_raw (h3 i hi)).1⟩,fun i hi=>(brief_raw (h3 i hi)).2⟩
structure FewG (r c:Nat) (Z:Lin) (n:Nat) (X:Nat→Nat→Rat) (y p:Nat→Rat):Prop where
 m0:0 < Z.m
 mr:Z.m≤r
 n0:0 < n
 nc:n≤c
 L:∀ i,i < Z.m→Z.L i=n
 eA:∀ i,i < Z.m→∀ j,j < n→Z.A i j=raw (X i j)
 nl:Z.nl=Z.m
 el:∀ i,i < Z.m→Z.l i=raw (y i)
 np:Z.np=Z.m
 ep:∀ i,i < Z.m→Z.p i=raw (p i)
 pos:∀ i,i < Z.m→0 < p i
 hX:HtM Z.m n 17 X
 hy:HtL Z.m 17 y
 hp:HtL Z.m 17 p
theorem few34_lin {r c:Nat} {Z:Lin} (h:few34 r c Z=true) (hc:codeOf Z=0):FewG r c Z (Z.L 0) (fun i j=>ratOf (Z.A i j)) (fun i=>ratOf (Z.l i)) (fun i=>ratOf (Z.p i)):=by
 obtain⟨h1,h2,h3,h4⟩:=few34_all h;obtain⟨c1,c2,c3,c4⟩:=code_zero hc;unfold canonB canonA at c1;rw [Bool.and_eq_true,Bool.and_eq_true,allB_true,allB_true,allB_true] at c1;obtain⟨k1,k2,k3⟩:=c1;unfold sizeB at c2;simp only [Bool.and_eq_true,decide_eq_true_eq] at c2;unfold fitB evenB at c3;rw [Bool.and_eq_true,Bool.and_eq_true,allB_true,decide_eq_true_eq,decide_eq_true_eq] at c3;obtain⟨f1,f2,f3⟩:=c3;have hL:∀ i,i < Z.m→Z.L i=Z.L 0:=fun i hi=>of_decide_eq_true (f1 i hi)
 rw [allB_true] at c4;have kA:∀ i,i < Z.m→∀ j,j < Z.L 0→okR (Z.A i j)=true:=fun i hi j hj=>allB_true.1 (k1 i hi) j (by rw [hL i hi]; exact hj)
 refine⟨by omega,h1,by omega,(h4 0 (by omega)).1,hL,fun i hi j hj=>raw_ratOf (kA i hi j hj),f2,fun i hi=>raw_ratOf (k2 i (by omega)),f3,fun i hi=>raw_ratOf (k3 i (by omega)),fun i hi=>?_,fun i hi j hj=>?_,fun i hi=>?_,fun i hi=>?_⟩
 ·have h5:=c4 i (by omega);rw [raw_ratOf (k3 i (by omega)),posB_raw,decide_eq_true_eq] at h5;exact rat_pos h5
 ·refine brief_ht ?_;rw [←raw_ratOf (kA i hi j hj)];exact (h4 i hi).2 j (by rw [hL i hi]; exact hj)
 ·refine brief_ht ?_;rw [←raw_ratOf (k2 i (by omega))];exact h2 i (by omega)
 ·refine brief_ht ?_;rw [←raw_ratOf (k3 i (by omega))];exact h3 i (by omega)
theorem FewG.mem {r c:Nat} {Z:Lin} {n:Nat} {X:Nat→Nat→Rat} {y p:Nat→Rat} (f:FewG r c Z n X y p) {N lo hi:Nat} {w:World} {A1 A2 A3:Option Addr} {c1 c2 c3:Nat} (h1:MtR N lo hi w (.slice A1 Z.m c1) Z.m Z.L Z.A) (h2:LsR N lo hi w (.slice A2 Z.nl c2) Z.nl Z.l) (h3:LsR N lo hi w (.slice A3 Z.np c3) Z.np Z.p) :
  MtV N lo hi w (.slice A1 Z.m c1) Z.m n X∧LsV N lo hi w (.slice A2 Z.m c2) Z.m y∧LsV N lo hi w (.slice A3 Z.m c3) Z.m p:=by
 refine⟨MtR.congr h1 f.L (fun i hi j hj=>f.eA i hi j (by rw [←f.L i hi]; exact hj)),?_,?_⟩
 ·rw [f.nl] at h2; exact LsR.congr h2 f.el
 ·rw [f.np] at h3; exact LsR.congr h3 f.ep
end Go.Proofs.YthkkknjcoidioaaGreat
namespace Go.Proofs.YthkkknjcoidioaaGreat
structure Md (m n:Nat) (X:Nat→Nat→Rat) (y p:Nat→Rat):Prop where
 m0:0 < m
 m7:m≤7
 n0:0 < n
 n4:n≤4
 pos:∀ i,i < m→0 < p i
 hX:HtM m n 400 X
 hy:HtL m 400 y
 hp:HtL m 400 p
theorem FewG.md {Z:Lin} {n:Nat} {X:Nat→Nat→Rat} {y p:Nat→Rat} (f:FewG 7 4 Z n X y p):Md Z.m n X y p :=
 ⟨f.m0,f.mr,f.n0,f.nc,f.pos,f.hX.mono (by omega),f.hy.mono (by omega),f.hp.mono (by omega)⟩
def qS (m n:Nat) (X:Nat→Nat→Rat) (p:Nat→Rat):Nat→Nat→Rat:=invM n (nmat X p m)
def xS (m n:Nat) (X:Nat→Nat→Rat) (y p:Nat→Rat) (i:Nat):Rat:=sum n (fun c=>qS m n X p i c*nrhs X y p m c)
def vS (m n:Nat) (X:Nat→Nat→Rat) (y p:Nat→Rat) (i:Nat):Rat:=av n X (xS m n X y p) i - y i
def gS (m n:Nat) (X:Nat→Nat→Rat) (p:Nat→Rat) (i s:Nat):Rat:=sum n (fun t=>qS m n X p s t*X i t)
def rS (m n:Nat) (X:Nat→Nat→Rat) (p:Nat→Rat) (i:Nat):Rat:=1 - p i*sum n (fun s=>X i s*gS m n X p i s)
def tS (m n:Nat) (X:Nat→Nat→Rat) (y p:Nat→Rat) (i:Nat):Rat:=p i*(vS m n X y p i*vS m n X y p i) / rS m n X p i
theorem rS_rdn (m n:Nat) (X:Nat→Nat→Rat) (p:Nat→Rat) (i:Nat):rS m n X p i=rdn n X (qS m n X p) p i:=rfl
theorem pow5_4 {n:Nat} (h:n≤4) (k:Nat):5 ^ n*k≤625*k:=Nat.mul_le_mul_right _ (Nat.le_trans (Nat.pow_le_pow_right (by omega) h) (by decide))
section
variable {m n:Nat} {X:Nat→Nat→Rat} {y p:Nat→Rat}
theorem Md.K_ht (d:Md m n X y p):HtM n n 8408 (nmat X p m):=nmat_ht d.hX d.hp (Nat.le_refl _) (by have:=d.m7; omega)
theorem Md.b_ht (d:Md m n X y p):HtL n 8408 (nrhs X y p m):=nrhs_ht d.hX d.hy d.hp (Nat.le_refl _) (by have:=d.m7; omega)
theorem Md.hK1 (d:Md m n X y p):m*(3*400+1)+3*400+2≤29000000000:=by have:=d.m7; omega
theorem Md.hK2 (d:Md m n X y p):5*(5 ^ n*(8408+1))≤29000000000:=by have:=pow5_4 d.n4 (8408+1); omega
theorem Md.q_ht (d:Md m n X y p):HtM n n 5400000 (qS m n X p):=(invM_ht d.K_ht).mono (by have:=pow5_4 d.n4 (8408+1); omega)
theorem Md.hK3 (d:Md m n X y p):n*(5400000+8408+1)+1≤29000000000:=by have:=d.n4; omega
theorem Md.x_ht (d:Md m n X y p):HtL n 22000000 (xS m n X y p):=fun i hi =>
 sum_ht (n:=n) (k:=5400000+8408) (fun c hc=>(d.q_ht i hi c hc).mul (d.b_ht c hc)) (Nat.le_refl _) (by have:=d.n4; omega)
theorem Md.hK4 (d:Md m n X y p):n*(400+22000000+1)+1+400≤29000000000:=by have:=d.n4; omega
theorem Md.v_ht (d:Md m n X y p):HtL m 90000000 (vS m n X y p):=fun i hi =>
 Ht.mono (Ht.sub (sum_ht (n:=n) (k:=400+22000000) (K:=88002000) (fun c hc=>(d.hX i hi c hc).mul (d.x_ht c hc)) (Nat.le_refl _) (by have:=d.n4; omega)) (d.hy i hi)) (by omega)
theorem Md.hK5 (d:Md m n X y p):n*(5400000+400+1)+1≤29000000000:=by have:=d.n4; omega
theorem Md.g_ht (d:Md m n X y p) {i:Nat} (hi:i < m):HtL n 22000000 (gS m n X p i):=fun s hs =>
 sum_ht (n:=n) (k:=5400000+400) (fun c hc=>(d.q_ht s hs c hc).mul (d.hX i hi c hc)) (Nat.le_refl _) (by have:=d.n4; omega)
theorem Md.hK6 (d:Md m n X y p):n*(400+22000000+1)+1≤29000000000:=by have:=d.n4; omega
theorem Md.s_ht (d:Md m n X y p) {i:Nat} (hi:i < m):Ht 90000000 (sum n (fun s=>X i s*gS m n X p i s)) :=
 sum_ht (n:=n) (k:=400+22000000) (fun c hc=>(d.hX i hi c hc).mul (d.g_ht hi c hc)) (Nat.le_refl _) (by have:=d.n4; omega)
theorem Md.r_ht (d:Md m n X y p):HtL m 92000000 (rS m n X p):=fun i hi=>Ht.mono (Ht.sub Ht.one ((d.hp i hi).mul (d.s_ht hi))) (by omega)
theorem Md.t_ht (d:Md m n X y p):HtL m 280000000 (tS m n X y p):=fun i hi =>
 Ht.mono (((d.hp i hi).mul ((d.v_ht i hi).mul (d.v_ht i hi))).div (d.r_ht i hi)) (by omega)
theorem Md.inv2 (d:Md m n X y p) (h:Reg n (nmat X p m)):Inv2 m n X (qS m n X p) p:=by
 obtain⟨h1,h2⟩:=regInv h;refine⟨d.pos,fun i hi c hc=>?_,fun i hi c hc=>?_⟩
 ·rw [←h2 i hi c hc];exact sum_congr fun t _=>by rw [nmat_nm5]; rfl
 ·rw [←h1 i hi c hc];exact sum_congr fun t _=>by rw [nmat_nm5]; rfl
theorem Md.cut (d:Md (m+1) n X y p) (hm:0 < m) {i:Nat}:Md m n (fun j=>X (skip i j)) (fun j=>y (skip i j)) (fun j=>p (skip i j)) :=
 ⟨hm,by have:=d.m7; omega,d.n0,d.n4,fun j hj=>d.pos _ (skip_lt hj),fun j hj=>d.hX _ (skip_lt hj),fun j hj=>d.hy _ (skip_lt hj),fun j hj=>d.hp _ (skip_lt hj)⟩
theorem nmat_reg {K L:Nat→Nat→Rat} (h:∀ a,a < n→∀ b,b < n→K a b=L a b):Reg n K→Reg n L:=by
 intro hK x hx c hc;refine hK x (fun i hi=>?_) c hc;rw [←hx i hi];exact sum_congr fun b hb=>by rw [h i hi b hb]
theorem reg_nm {m:Nat}:Reg n (nmat X p m)↔Reg n (nm m X p) :=
 ⟨nmat_reg fun a _ b _=>nmat_nm5 m X p a b,nmat_reg fun a _ b _=>(nmat_nm5 m X p a b).symm⟩
theorem Md.zero (d:Md (m+1) n X y p) (h:Reg n (nmat X p (m+1))) {i:Nat} (hi:i < m+1):rS (m+1) n X p i=0↔¬ Reg n (nmat (fun j=>X (skip i j)) (fun j=>p (skip i j)) m):=by
 rw [rS_rdn,(d.inv2 h).zero hi,reg_nm]
theorem Md.zero1 (d:Md 1 n X y p) (h:Reg n (nmat X p 1)):rS 1 n X p 0=0:=(d.inv2 h).zero1 d.n0
end
end Go.Proofs.YthkkknjcoidioaaGreat
namespace Go.Proofs.YthkkknjcoidioaaGreat
open Go.RowKit
theorem f_divide0 {N:Nat} {w:World} {v v':Value} {x y:Rat} (h:RatV N w v x) (h':RatV N w v' y) (hz:Sz x) (hz':Sz y) (hy:y=0) :
  Calls Tryz.prog 87 #[v,v'] w (RetV w (.tuple #[nilRat,.int .i64 14])):=by
 have Y0:Hid (y.num.sign=0):=by rw [Hid,hy]; rfl
 clear hy;have hI:=h;have hI':=h';have hN:=h.le;obtain⟨m1,X1,i1,d1,X2,i2,d2,rfl,hm1,gx1,gx2⟩:=h.parts;obtain⟨m2,Y1,i3,d3,Y2,i4,d4,rfl,hm2,gy1,gy2⟩:=h'.parts;have HZ:=Lib.hid hz;have HZ':=Lib.hid hz';clear hz hz' h h' gx1 gx2 gy1 gy2;go_enter Tryz.func87,Tryz.ntmps87;go_wp2;refine boxes3 ?_;intro W hE hsz B0 B1 B2;obtain⟨a0,a1,a2,a3,-⟩:=cells4 B0;obtain⟨b0,b1,b2,b3,-⟩:=cells4 B1
 go_cut [] (fun wx=>∃ n1 A1 k1 c1 A2 k2 c2 n2 A3 k3 c3 A4 k4 c4,Ext w wx∧w.heap.size+2≤wx.heap.size∧wx.heap[w.heap.size]?=some (.cells #[.bool n1,.slice A1 k1 c1,.bool false,.slice A2 k2 c2] 36 (0,0))∧wx.heap[w.heap.size+1]?=some (.cells #[.bool n2,.slice A3 k3 c3,.bool false,.slice A4 k4 c4] 36 (0,0))∧Hid (n1=decide (x.num < 0))∧Hid (n2=decide (y.num < 0))∧Gs N wx (.slice A1 k1 c1) (dg x.num.natAbs)∧Gs N wx (.slice A2 k2 c2) (dg x.den)∧Gs N wx (.slice A3 k3 c3) (dg y.num.natAbs)∧Gs N wx (.slice A4 k4 c4) (dg y.den)∧w.heap.size+3≤wx.heap.size∧wx.heap[w.heap.size+1+1]?=some (.cells #[.bool false,.slice none 0 0,.bool false,.slice none 0 0] 36 (0,0)))
 case first =>
  have eC:=(Ext.refl W).drew
  go_region_with (first
   | (go_at_call_of 114 X1; refine (f_value (by exact hI.ext (hE.trans eC)) HZ.out).mono ?_; intro e w1 hh; obtain⟨n1,A1,k1,c1,A2,k2,c2,rfl,hb1,g1,g2,e1⟩:=hh.form; replace eC:=eC.trans e1; have C0:=eC.block B0; have C1:=eC.block B1; obtain⟨p0,p1,p2,p3,p4,p5,p6,p7⟩:=cells4 C0; obtain⟨q0,q1,q2,q3,q4,q5,q6,q7⟩:=cells4 C1)
   | (go_at_call_of 114 Y1; refine (f_value (by exact hI'.ext (hE.trans eC)) HZ'.out).mono ?_; intro e w2 hh; obtain⟨n2,A3,k3,c3,A4,k4,c4,rfl,hb2,g3,g4,e2⟩:=hh.form; replace eC:=eC.trans e2; have C0:=eC.block B0; have C1:=eC.block B1; obtain⟨p0,p1,p2,p3,p4,p5,p6,p7⟩:=cells4 C0; obtain⟨q0,q1,q2,q3,q4,q5,q6,q7⟩:=cells4 C1))
  all_goals
   go_wp2_with fail
   go_meet
   obtain⟨w3,E3,D0,U⟩:=ex4 C0 (.bool n1) (.slice A1 k1 c1) (.bool false) (.slice A2 k2 c2);rw [E3];obtain⟨w4,E4,D1,U'⟩:=ex4 (U.blk C1 (by omega)) (.bool n2) (.slice A3 k3 c3) (.bool false) (.slice A4 k4 c4);rw [E4];have hT0:=NoU.mk C0 (by decide);have hT1:=NoU.mk (U.blk C1 (by omega)) (by decide);refine⟨n1,A1,k1,c1,A2,k2,c2,n2,A3,k3,c3,A4,k4,c4,U'.ext (U.ext (hE.trans eC) (Nat.le_refl _)) (by omega),?_,U'.blk D0 (by omega),D1,hb1,hb2,((g1.ext e2).upd U (by omega) hT0).upd U' (by omega) hT1,((g2.ext e2).upd U (by omega) hT0).upd U' (by omega) hT1,(g3.upd U (by omega) hT0).upd U' (by omega) hT1,(g4.upd U (by omega) hT0).upd U' (by omega) hT1,(by rw [U'.size,U.size]; have:=eC.size; omega),U'.blk (U.blk (eC.block B2) (by omega)) (by omega)⟩;rw [U'.size,U.size]; have:=eC.size; omega
 case rest =>
  clear a0 a1 a2 a3 b0 b1 b2 b3 B0 B1 B2 hE hsz hI hI';obtain⟨n1,A1,k1,c1,A2,k2,c2,n2,A3,k3,c3,A4,k4,c4,hE,-,B0,B1,hb1,hb2,g1,g2,g3,g4,hsz,B2⟩:=hcut;obtain⟨a0,a1,a2,a3,-⟩:=cells4 B0;obtain⟨b0,b1,b2,b3,-⟩:=cells4 B1;go_wp2_with (go_at_call 125; refine Hid.out ?_);refine (i_sign (num_intV hb2 g3)).mono ?_;rw [Y0.out];rintro e w4 ⟨rfl,e4⟩;replace hE:=hE.trans e4;replace B2:=e4.block B2;clear a0 a1 a2 a3 b0 b1 b2 b3;obtain⟨r0,r1,r2,r3,r4,r5,r6,r7⟩:=cells4 B2;go_wp2;obtain⟨w12,E12,F2,U⟩:=ex4 B2 (.bool false) (.slice none 0 0) (.bool false) (.slice none 0 0);rw [E12];obtain⟨z0,z1,z2,z3,-⟩:=cells4 F2;refine bodyPost_ret (v:=.tuple #[nilRat,.int .i64 14]) ?_ rfl ⟨rfl,U.ext hE (by omega)⟩;simp [results,Tryz.results87,z0,z1,z2,z3,go_sem,nilRat]
theorem cells6 {w:World} {g:Nat} {t:TypeId} {x0 x1 x2 x3 x4 x5:Value} (h:w.heap[g]?=some (.cells #[x0,x1,x2,x3,x4,x5] t (0,0))):w.cell? ⟨g,0,none⟩=some x0∧w.cell? ⟨g,1,none⟩=some x1∧w.cell? ⟨g,2,none⟩=some x2∧w.cell? ⟨g,3,none⟩=some x3∧w.cell? ⟨g,4,none⟩=some x4∧w.cell? ⟨g,5,none⟩=some x5∧w.frozen? ⟨g,0,none⟩=false∧w.frozen? ⟨g,1,none⟩=false∧w.frozen? ⟨g,2,none⟩=false∧w.frozen? ⟨g,3,none⟩=false∧w.frozen? ⟨g,4,none⟩=false∧w.frozen? ⟨g,5,none⟩=false:=by
 refine⟨?_,?_,?_,?_,?_,?_,?_,?_,?_,?_,?_,?_⟩ <;> first | exact cell_blk h _ | exact frozen_blk h _
theorem set65 {w:World} {g:Nat} {t:TypeId} {y0 y1 y2 y3 y4 y5:Value} (hb:w.heap[g]?=some (.cells #[y0,y1,y2,y3,y4,y5] t (0,0))) (x:Value):∃ w1,w.setCell ⟨g,5,none⟩ x=w1∧w1.heap[g]?=some (.cells #[y0,y1,y2,y3,y4,x] t (0,0))∧Upd g w w1 :=
 ⟨_,rfl,by simpa using heap_set hb 5 x,(Upd.refl g w).set 5 x⟩
theorem wp_store_blk {o:Oper} {a:Act} {w:World} {K:Act→World→Prop} {Q:Exit→Act→World→Prop} (ty:TypeId) (x y:Operand) (ho:o.op=.store ty x y) {g:Nat} {cs old:Array Value} {t:TypeId} (hx:a.eval x=.pointer (some ⟨g,0,none⟩)) (hy:a.eval y=.agg cs)
  (hg:w.heap[g]?=some (.cells old t (0,0))) {sz:Nat} (hi:(Tryz.prog.info? ty).map (·.size)=some sz) (hsz:cs.size=sz) (hold:old.size=cs.size) (h1:cs.toList.all (·.oneCell')=true)
  (h:∀ w',w'.heap[g]?=some (.cells cs t (0,0))→Upd g w w'→K (a.put o.dst undef) w'):o.wp Tryz.prog a w K Q :=
 wp_store_row ty x y ho g _ hx hy t _ hg (by rw [hsz]; exact hi) hold (by rw [←Array.all_toList]; exact h1) (h _ (setRow_heap w g old cs t (0,0) hg) ⟨rfl,rfl,rfl,by simp [World.setRow],fun k hk=>setRow_other w g k cs hk⟩)
theorem wpList_store_blk {ops:Array Oper} {rest:List Oper} {o:Oper} {a:Act} {w:World} {Q:Exit→Act→World→Prop} (hgd:o.guard=none) (ty:TypeId) (x y:Operand) (ho:o.op=.store ty x y) {g:Nat} {cs old:Array Value} {t:TypeId} (hx:a.eval x=.pointer (some ⟨g,0,none⟩)) (hy:a.eval y=.agg cs)
  (hg:w.heap[g]?=some (.cells old t (0,0))) {sz:Nat} (hi:(Tryz.prog.info? ty).map (·.size)=some sz) (hsz:cs.size=sz) (hold:old.size=cs.size) (h1:cs.toList.all (·.oneCell')=true)
  (h:∀ w',w'.heap[g]?=some (.cells cs t (0,0))→Upd g w w'→wpList Tryz.prog ops Q rest (a.put o.dst undef) w'):wpList Tryz.prog ops Q (o :: rest) a w :=
 wpList_plain hgd fun _ hK=>wp_store_blk ty x y ho hx hy hg hi hsz hold h1 (fun w' a1 a2=>hK _ _ (h w' a1 a2))
theorem info_slv:(Tryz.prog.info? 94).map (·.size)=some 6:=by kernel_rfl
theorem l38_few {N lo hi:Nat} {w:World} {v:Value} {Z:Lin} (h:LinV N lo hi w v Z) :
  Calls Tryz.prog 11 #[v] w (RetV w (.bool (few34 7 4 Z))):=by
 obtain⟨A1,c1,A2,c2,A3,c3,rfl,-⟩:=h.parts;have hI:=h;obtain⟨r,hr⟩:=hid_eq (few34 7 4 Z);rw [←hr.out];clear h;go_enter Tryz.func11,Tryz.ntmps11;go_wp2_with (go_at_call 58; refine Hid.out ?_);refine boxesC1 ?_;intro W hE hsz B0;refine (l34_few (hI.ext hE) 7 4 rfl rfl (by omega) (by omega)).mono ?_;rintro e w1 ⟨rfl,e1⟩;rw [←hr.out];go_wp2;go_ret;exact⟨rfl,hE.trans e1⟩
theorem n_Normal_bad {N lo hi:Nat} {w:World} {v:Value} {Z:Lin} (h:LinV N lo hi w v Z) (hs:LinSz Z) (hp:∀ i,i < Z.np→RawS (Z.p i)) (hc:codeOf Z≠0) :
  Calls Tryz.prog 98 #[v] w (RetV w (.tuple #[.slice none 0 0,.slice none 0 0,.int .i64 (codeOf Z)])):=by
 have HS:=Lib.hid hs;have HP:=Lib.hid hp;obtain⟨r,hr⟩:=hid_eq (codeOf Z);have hr0:(r == 0)=false:=by rw [hr.out]; simpa using hc
 have hr1:(r != 0)=true:=by simpa using hr0
 rw [←hr.out];have hI:=h;obtain⟨A1,c1,A2,c2,A3,c3,rfl,h1,h2,h3,hm,hnl,hnp⟩:=h.parts;clear h h1 h2 h3 hc hs hp;go_enter Tryz.func98,Tryz.ntmps98;go_upto_region 1 with (fail);refine boxes1 ?_;intro W hE hsz B0;obtain⟨a0,a1,a2,-⟩:=cells3 B0;go_wp2_with (go_at_call 117; refine Hid.out ?_);refine (n_check (hI.ext hE) HS.out HP.out).mono ?_;rintro e w1 ⟨rfl,e1⟩;rw [←hr.out];clear a0 a1 a2;go_wp2
 first | go_ret3 | skip
 exact⟨rfl,hE.trans e1⟩
theorem sn_solve1 {N:Nat} {w:World} {v:Value} {R:Raw} (h:RawV N w v R) (hs:RawSz R) :
  Calls Tryz.prog 100 #[v] w (RetV w (.bool (!okR R))):=by
 obtain⟨A1,n1,c1,A2,n2,c2,rfl,g1,g2⟩:=h.parts;obtain⟨r,hr⟩:=hid_eq (okR R);rw [←hr.out];have hI:=h;clear g1 g2 h;go_enter Tryz.func100,Tryz.ntmps100;go_wp2_with (go_at_call 101; refine Hid.out ?_);refine boxesC1 ?_;intro W hE hsz B0;refine (f_valid (hI.ext hE) hs.1 hs.2).mono ?_;rintro e w1 ⟨rfl,e1⟩;rw [←hr.out];go_wp2;go_ret;exact⟨rfl,hE.trans e1⟩
theorem sl_solve1x {N lo hi:Nat} {w:World} {v:Value} {n:Nat} {R:Nat→Raw} (h:LsR N lo hi w v n R)  (g:Nat→Bool)
  (hf:∀ i,i < n→∀ w' u,Ext w w'→RawV N w' u (R i)→Calls Tryz.prog 100 #[u] w' (RetV w' (.bool (g i)))) :
  Calls Tryz.prog 134 #[v,.func (.func 100) #[] #[]] w (RetIdx w (anyB n g)):=by
 obtain⟨r,hr⟩:=hid_eq (anyB n g);rw [←hr.out];obtain⟨A,c,rfl,hnc,hcm⟩:=h.form;unfold maxLen at hcm;have hI:=h;have HF:=Lib.hid hf;clear h hf;go_enter Tryz.func134,Tryz.ntmps134;go_wp2
 go_loopw [8] (fun i wr=>∃ k:Nat,k≤n∧i=.int .i64 k∧Hid (∀ j,j < k→g j=false)∧Ext w wr) (fun i _=>n - (intOf i).toNat)
 case atStart=>exact⟨0,Nat.zero_le _,rfl,fun j hj=>absurd hj (by omega),Ext.refl w⟩
 case round =>
  obtain⟨k,hk,rfl,HA,hE⟩:=hrel
  by_cases hlt:k < n
  ·(obtain⟨b,off,rfl,-,-,hx⟩:=(hI.ext hE).addr (by omega)); (obtain⟨A1,n1,c1,A2,n2,c2,p0,p1,p2,p3,hv⟩:=(hx k hlt).val)
   clear hx;go_wp2_with (go_at_call 100; refine Hid.out ?_);refine (HF.out k hlt _ _ hE hv).mono ?_;rintro e w1 ⟨rfl,e1⟩;replace hE:=hE.trans e1;obtain⟨o,ho⟩:=hid_eq (g k);rw [←ho.out];cases o with
   | false =>
    go_wp2;go_roundw
    case rel=>exact⟨k+1,by omega,by go_num,all_succ (p:=fun j=>g j=false) HA.out ho.out.symm,hE⟩
    case measure=>simp [intOf]; omega
   | true =>
    have HT:Hid (r=true):=by rw [Hid,hr.out]; exact anyB_true hlt ho.out.symm
    go_wp2;go_ret;exact⟨_,rfl,by rw [Hid,HT.out]; symm; simp,hE⟩
  ·have HT:Hid (r=false):=by rw [Hid,hr.out]; exact anyB_false.2 (fun j hj=>HA.out j (by omega))
   go_wp2;go_ret;exact⟨_,rfl,by rw [Hid,HT.out]; rfl,hE⟩
theorem sl_solve1 {N lo hi:Nat} {w:World} {v:Value} {n:Nat} {R:Nat→Raw} (h:LsR N lo hi w v n R)  (g:Nat→Bool)
  (hf:∀ i,i < n→∀ w' u,Ext w w'→RawV N w' u (R i)→Calls Tryz.prog 100 #[u] w' (RetV w' (.bool (g i)))) :
  Calls Tryz.prog 99 #[v,.func (.func 100) #[] #[]] w (RetV w (.bool (anyB n g))):=by
 obtain⟨r,hr⟩:=hid_eq (anyB n g);rw [←hr.out];obtain⟨A,c,rfl,hnc,hcm⟩:=h.form;have hI:=h;have HF:=Lib.hid hf;clear h hf;go_enter Tryz.func99,Tryz.ntmps99;go_wp2_with (go_at_call 134; refine Hid.out ?_);refine (sl_solve1x hI  g HF.out).mono ?_;rintro e w1 ⟨z,rfl,hz,e1⟩;rw [←hr.out] at hz;go_wp2;go_ret;exact⟨ret_bool hz.out.symm,e1⟩
def nilSlv:Value:=.agg #[.slice none 0 0,.slice none 0 0,.slice none 0 0,.slice none 0 0,.slice none 0 0,.nilFunc]
def SlvV (N:Nat) (w:World) (v:Value) (m n:Nat) (X:Nat→Nat→Rat) (y p:Nat→Rat):Prop :=
 ∃ A1 c1 A2 c2 A3 c3 AQ cq AV cv gq gl,v=.agg #[.slice A1 m c1,.slice A2 m c2,.slice A3 m c3,.slice AQ n cq,.slice AV m cv,.func (.func 104) #[] #[.pointer (some ⟨gq,0,none⟩),.pointer (some ⟨gl,0,none⟩)]] ∧
  w.heap[gq]?=some (.cells #[.slice AQ n cq] 23 (0,0))∧w.heap[gl]?=some (.cells #[.slice A1 m c1,.slice A2 m c2,.slice A3 m c3] 26 (0,0)) ∧
  MtV N 0 w.heap.size w (.slice A1 m c1) m n X∧LsV N 0 w.heap.size w (.slice A2 m c2) m y∧LsV N 0 w.heap.size w (.slice A3 m c3) m p∧MtV N 0 w.heap.size w (.slice AQ n cq) n n (qS m n X p)∧LsV N 0 w.heap.size w (.slice AV m cv) m (vS m n X y p)
theorem SlvV.ext {N:Nat} {w w':World} {v:Value} {m n:Nat} {X:Nat→Nat→Rat} {y p:Nat→Rat} (h:SlvV N w v m n X y p) (e:Ext w w'):SlvV N w' v m n X y p:=by
 obtain⟨A1,c1,A2,c2,A3,c3,AQ,cq,AV,cv,gq,gl,hv,b1,b2,k1,k2,k3,k4,k5⟩:=h;exact⟨A1,c1,A2,c2,A3,c3,AQ,cq,AV,cv,gq,gl,hv,e.block b1,e.block b2,(k1.ext e).all,LsV.all (k2.ext e),LsV.all (k3.ext e),MtV.all (k4.ext e),LsV.all (k5.ext e)⟩
def RetSlv (N:Nat) (w:World) (m n:Nat) (X:Nat→Nat→Rat) (y p:Nat→Rat) (e:Ending) (w':World):Prop:=∃ v,e=.returned (.tuple #[v,.int .i64 0])∧SlvV N w' v m n X y p∧Ext w w'
set_option maxRecDepth 100000 in
theorem sn_solve_b1 {N lo hi:Nat} {w:World} {v:Value} {Z:Lin} (h:LinV N lo hi w v Z) (hs:LinSz Z) (hp:∀ i,i < Z.np→RawS (Z.p i)) (hc:codeOf Z≠0) (A4:Option Addr) (n4 c4:Nat) :
  Calls Tryz.prog 60 #[v,.slice A4 n4 c4] w (RetV w (.tuple #[nilSlv,.int .i64 (codeOf Z)])):=by
 have HS:=Lib.hid hs;have HP:=Lib.hid hp;have HCC:=Lib.hid hc;obtain⟨r,hr⟩:=hid_eq (codeOf Z);have hr0:(r == 0)=false:=by rw [hr.out]; simpa using hc
 have hr1:(r != 0)=true:=by simpa using hr0
 rw [←hr.out];have hI:=h;obtain⟨A1,c1,A2,c2,A3,c3,rfl,h1,h2,h3,hm,hnl,hnp⟩:=h.parts;clear h h1 h2 h3 hc hs hp;go_enter Tryz.func60,Tryz.ntmps60;go_upto_region 1 with (fail);refine boxes2 ?_;intro W hE hsz B0 B4;obtain⟨a0,a1,a2,-⟩:=cells3 B0;go_wp2_with (go_at_call 98; refine Hid.out ?_);refine (n_Normal_bad (hI.ext hE) HS.out HP.out HCC.out).mono ?_;rintro e w1 ⟨rfl,e1⟩;rw [←hr.out];replace B4:=e1.block B4;replace hE:=hE.trans e1;clear a0 a1 a2;go_upto_region 3 with (fail);refine wp_region_lit ?_;refine wpList_plain rfl (fun K hK=>?_);go_simp;refine hK _ _ ?_;clear hK K;try simp only [nr]
 refine wpList_plain rfl (fun K hK=>?_);go_simp;refine hK _ _ ?_;clear hK K;try simp only [nr]
 refine wpList_store_blk rfl 94 _ _ rfl (by rfl) (by rfl) B4 info_slv (by rfl) (by rfl) (by rfl) ?_;try simp only [nr]
 intro w10 D10 U10;have C10:=U10.chg (NoU.mk B4 (by decide));have hE10:=C10.ext hE (by omega);obtain⟨x0,x1,x2,x3,x4,x5,-⟩:=cells6 D10;clear D10 U10 C10 B4;refine wpList_plain rfl (fun K hK=>?_);go_simp;refine hK _ _ ?_;clear hK K;try simp only [nr]
 refine wpList_nil ?_;go_wp2;refine bodyPost_ret (v:=.tuple #[nilSlv,.int .i64 r]) ?_ rfl ?_
 ·simp [results,x0,x1,x2,x3,x4,x5,go_sem,nilSlv]
 ·exact⟨rfl,hE10⟩
set_option maxRecDepth 100000 in
theorem sn_solve_b2 {N lo hi lo2 hi2 lo' hi':Nat} {w:World} {v1 v2 v3 v4:Value} {m n k:Nat} {X:Nat→Nat→Rat} {y p:Nat→Rat} {R:Nat→Raw} (h1:MtV N lo hi w v1 m n X) (h2:LsV N lo2 hi2 w v2 m y) (h3:LsV N lo2 hi2 w v3 m p) (hx:LsR N lo' hi' w v4 k R) (d:Md m n X y p) (hsx:∀ i,i < k→RawSz (R i)) (hok:allB k (fun i=>okR (R i))=false) :
  Calls Tryz.prog 60 #[.agg #[v1,v2,v3],v4] w (RetV w (.tuple #[nilSlv,.int .i64 1])):=by
 have HOK:Hid (anyB k (fun j=>!okR (R j))=true):=by rw [Hid,←Bool.not_not (anyB k _),anyB_not,hok]; rfl
 clear hok;have hN:=h1.le;have HD:=Lib.hid d;have HSX:=Lib.hid hsx;obtain⟨A1,c1,rfl,hmc,hcm⟩:=h1.form;obtain⟨A2,c2,rfl,hmc2,hcm2⟩:=h2.form;obtain⟨A3,c3,rfl,hmc3,hcm3⟩:=h3.form;obtain⟨A4,c4,rfl,hmc4,hcm4⟩:=hx.form;have hI1:=h1;have hI2:=h2;have hI3:=h3;have hI4:=hx;have hm0:=d.m0;have hm7:=d.m7;have hn0:=d.n0;have hn4:=d.n4;clear h1 h2 h3 hx d hsx;go_enter Tryz.func60,Tryz.ntmps60;go_upto_region 1 with (fail);refine boxes2 ?_;intro W hE hsz B0 B4;obtain⟨a0,a1,a2,-⟩:=cells3 B0;go_wp2_with (go_at_call 98; refine Hid.out ?_);refine (n_normal (hI1.ext hE) (hI2.ext hE) (hI3.ext hE) hm0 (by omega) hn0 (by omega) HD.out.pos HD.out.hX HD.out.hy HD.out.hp HD.out.hK1).mono ?_;rintro e w1 ⟨AN,cN,AR,cR,rfl,hNM,hNR,e1⟩;replace hNM:=MtV.all hNM;replace hNR:=LsV.all hNR;replace B4:=e1.block B4;replace B0:=e1.block B0;replace hE:=hE.trans e1;clear a0 a1 a2 e1;obtain⟨a0,a1,a2,-⟩:=cells3 B0;go_wp2_with (go_at_call 99; refine Hid.out ?_);refine (sl_solve1 (hI4.ext hE) (fun j=>!okR (R j)) (fun i hi w' u e hu=>sn_solve1 hu (HSX.out i hi))).mono ?_;rw [HOK.out];rintro e w2 ⟨rfl,e2⟩;replace hNM:=hNM.ext e2;replace hNR:=hNR.ext e2;replace B4:=e2.block B4;replace B0:=e2.block B0;replace hE:=hE.trans e2;clear a0 a1 a2 e2;obtain⟨a0,a1,a2,-⟩:=cells3 B0;go_upto_region 5 with (fail);refine wp_region_lit ?_;refine wpList_plain rfl (fun K hK=>?_);go_simp;refine hK _ _ ?_;clear hK K;try simp only [nr]
 refine wpList_store_blk rfl 94 _ _ rfl (by rfl) (by rfl) B4 info_slv (by rfl) (by rfl) (by rfl) ?_;try simp only [nr]
 intro w10 D10 U10;have C10:=U10.chg (NoU.mk B4 (by decide));have hE10:=C10.ext hE (by omega);obtain⟨x0,x1,x2,x3,x4,x5,-⟩:=cells6 D10;clear D10 U10 C10 B4;refine wpList_plain rfl (fun K hK=>?_);go_simp;refine hK _ _ ?_;clear hK K;try simp only [nr]
 refine wpList_nil ?_;go_wp2;refine bodyPost_ret (v:=.tuple #[nilSlv,.int .i64 1]) ?_ rfl ?_
 ·simp [results,x0,x1,x2,x3,x4,x5,go_sem,nilSlv]
 ·exact⟨rfl,hE10⟩
set_option maxRecDepth 100000 in
theorem sn_solve_b3 {N lo hi lo2 hi2 lo' hi':Nat} {w:World} {v1 v2 v3 v4:Value} {m n k:Nat} {X:Nat→Nat→Rat} {y p:Nat→Rat} {R:Nat→Raw} (h1:MtV N lo hi w v1 m n X) (h2:LsV N lo2 hi2 w v2 m y) (h3:LsV N lo2 hi2 w v3 m p) (hx:LsR N lo' hi' w v4 k R) (d:Md m n X y p) (hsx:∀ i,i < k→RawSz (R i)) (hok:allB k (fun i=>okR (R i))=true) (hr:¬ Reg n (nmat X p m)) :
  Calls Tryz.prog 60 #[.agg #[v1,v2,v3],v4] w (RetV w (.tuple #[nilSlv,.int .i64 14])):=by
 have HOK:Hid (anyB k (fun j=>!okR (R j))=false):=by rw [Hid,←Bool.not_not (anyB k _),anyB_not,hok]; rfl
 have HLT:Hid (¬ n≤(rref n (augI n (nmat X p m)) n).2.length):=fun h9=>hr (ivB_reg.1 (decide_eq_true (Nat.le_antisymm (rref_len n _ n).1 h9)))
 clear hok hr;have hN:=h1.le;have HD:=Lib.hid d;have HSX:=Lib.hid hsx;obtain⟨A1,c1,rfl,hmc,hcm⟩:=h1.form;obtain⟨A2,c2,rfl,hmc2,hcm2⟩:=h2.form;obtain⟨A3,c3,rfl,hmc3,hcm3⟩:=h3.form;obtain⟨A4,c4,rfl,hmc4,hcm4⟩:=hx.form;have hI1:=h1;have hI2:=h2;have hI3:=h3;have hI4:=hx;have hm0:=d.m0;have hm7:=d.m7;have hn0:=d.n0;have hn4:=d.n4;clear h1 h2 h3 hx d hsx;go_enter Tryz.func60,Tryz.ntmps60;go_upto_region 1 with (fail);refine boxes2 ?_;intro W hE hsz B0 B4;obtain⟨a0,a1,a2,-⟩:=cells3 B0;go_wp2_with (go_at_call 98; refine Hid.out ?_);refine (n_normal (hI1.ext hE) (hI2.ext hE) (hI3.ext hE) hm0 (by omega) hn0 (by omega) HD.out.pos HD.out.hX HD.out.hy HD.out.hp HD.out.hK1).mono ?_;rintro e w1 ⟨AN,cN,AR,cR,rfl,hNM,hNR,e1⟩;replace hNM:=MtV.all hNM;replace hNR:=LsV.all hNR;replace B4:=e1.block B4;replace B0:=e1.block B0;replace hE:=hE.trans e1;clear a0 a1 a2 e1;obtain⟨a0,a1,a2,-⟩:=cells3 B0;go_wp2_with (go_at_call 99; refine Hid.out ?_);refine (sl_solve1 (hI4.ext hE) (fun j=>!okR (R j)) (fun i hi w' u e hu=>sn_solve1 hu (HSX.out i hi))).mono ?_;rw [HOK.out];rintro e w2 ⟨rfl,e2⟩;replace hNM:=hNM.ext e2;replace hNR:=hNR.ext e2;replace B4:=e2.block B4;replace B0:=e2.block B0;replace hE:=hE.trans e2;clear a0 a1 a2 e2;obtain⟨a0,a1,a2,-⟩:=cells3 B0;go_wp2_with (go_at_call 102; refine Hid.out ?_);refine (m_inverse hNM hn0 (by omega) HD.out.K_ht HD.out.hK2).mono ?_;rintro e w3 ⟨e3,hh⟩
 rcases hh with ⟨-,rfl⟩ | ⟨h9,-⟩
 case inr=>exact absurd h9 HLT.out
 replace B4:=e3.block B4;replace hE:=hE.trans e3;clear a0 a1 a2 B0 hNM hNR;go_upto_region 7 with (fail);refine boxes1 ?_;intro w4 e4 hsz4 B9;replace B4:=e4.block B4;replace hE:=hE.trans e4;clear e3 e4 hsz4 B9;go_upto_region 8 with (fail);refine wp_region_lit ?_;refine wpList_plain rfl (fun K hK=>?_);go_simp;refine hK _ _ ?_;clear hK K;try simp only [nr]
 refine wpList_store_blk rfl 94 _ _ rfl (by rfl) (by rfl) B4 info_slv (by rfl) (by rfl) (by rfl) ?_;try simp only [nr]
 intro w10 D10 U10;have C10:=U10.chg (NoU.mk B4 (by decide));have hE10:=C10.ext hE (by omega);obtain⟨x0,x1,x2,x3,x4,x5,-⟩:=cells6 D10;clear D10 U10 C10 B4;refine wpList_plain rfl (fun K hK=>?_);go_simp;refine hK _ _ ?_;clear hK K;try simp only [nr]
 refine wpList_nil ?_;go_wp2;refine bodyPost_ret (v:=.tuple #[nilSlv,.int .i64 14]) ?_ rfl ?_
 ·simp [results,x0,x1,x2,x3,x4,x5,go_sem,nilSlv]
 ·exact⟨rfl,hE10⟩
set_option maxRecDepth 100000 in
theorem sn_solve {N lo hi lo2 hi2 lo' hi':Nat} {w:World} {v1 v2 v3 v4:Value} {m n k:Nat} {X:Nat→Nat→Rat} {y p:Nat→Rat} {R:Nat→Raw} (h1:MtV N lo hi w v1 m n X) (h2:LsV N lo2 hi2 w v2 m y) (h3:LsV N lo2 hi2 w v3 m p) (hx:LsR N lo' hi' w v4 k R) (d:Md m n X y p) (hsx:∀ i,i < k→RawSz (R i)) (hok:allB k (fun i=>okR (R i))=true) (hr:Reg n (nmat X p m)) :
  Calls Tryz.prog 60 #[.agg #[v1,v2,v3],v4] w (RetSlv N w m n X y p):=by
 have HOK:Hid (anyB k (fun j=>!okR (R j))=false):=by rw [Hid,←Bool.not_not (anyB k _),anyB_not,hok]; rfl
 have HLT:Hid (¬ (rref n (augI n (nmat X p m)) n).2.length < n):=by
  have h9:=of_decide_eq_true (ivB_reg.2 hr);rw [Hid]; omega
 obtain⟨Rf,hRf⟩:=hid_eq (RetSlv N w m n X y p);rw [←hRf.out];clear hok hr;have hN:=h1.le;have HD:=Lib.hid d;have HSX:=Lib.hid hsx;obtain⟨A1,c1,rfl,hmc,hcm⟩:=h1.form;obtain⟨A2,c2,rfl,hmc2,hcm2⟩:=h2.form;obtain⟨A3,c3,rfl,hmc3,hcm3⟩:=h3.form;obtain⟨A4,c4,rfl,hmc4,hcm4⟩:=hx.form;have hI1:=h1;have hI2:=h2;have hI3:=h3;have hI4:=hx;have hm0:=d.m0;have hm7:=d.m7;have hn0:=d.n0;have hn4:=d.n4;clear h1 h2 h3 hx d hsx;go_enter Tryz.func60,Tryz.ntmps60;go_upto_region 1 with (fail);refine boxes2 ?_;intro W hE hsz B0 B4;obtain⟨a0,a1,a2,-⟩:=cells3 B0;go_wp2_with (go_at_call 98; refine Hid.out ?_);refine (n_normal (hI1.ext hE) (hI2.ext hE) (hI3.ext hE) hm0 (by omega) hn0 (by omega) HD.out.pos HD.out.hX HD.out.hy HD.out.hp HD.out.hK1).mono ?_;rintro e w1 ⟨AN,cN,AR,cR,rfl,hNM,hNR,e1⟩;replace hNM:=MtV.all hNM;replace hNR:=LsV.all hNR;replace B4:=e1.block B4;replace B0:=e1.block B0;replace hE:=hE.trans e1;clear a0 a1 a2 e1;obtain⟨a0,a1,a2,-⟩:=cells3 B0;go_wp2_with (go_at_call 99; refine Hid.out ?_);refine (sl_solve1 (hI4.ext hE) (fun j=>!okR (R j)) (fun i hi w' u e hu=>sn_solve1 hu (HSX.out i hi))).mono ?_;rw [HOK.out];rintro e w2 ⟨rfl,e2⟩;replace hNM:=hNM.ext e2;replace hNR:=hNR.ext e2;replace B4:=e2.block B4;replace B0:=e2.block B0;replace hE:=hE.trans e2;clear a0 a1 a2 e2;obtain⟨a0,a1,a2,-⟩:=cells3 B0;go_wp2_with (go_at_call 102; refine Hid.out ?_);refine (m_inverse hNM hn0 (by omega) HD.out.K_ht HD.out.hK2).mono ?_
 rintro e w3 ⟨e3,hh⟩
 rcases hh with ⟨h9,-⟩ | ⟨-,hq,capq,β,κ,rfl,hcq,hoq⟩
 case inl=>exact absurd h9 HLT.out
 have hQ:MtV N w2.heap.size w3.heap.size w3 (.slice (some ⟨hq,0,none⟩) n capq) n n (qS m n X p):=hoq.mtv hoq.mle hcq;have hs2:=blk_lt B4;have hs3:=e3.size;replace B4:=e3.block B4;replace B0:=e3.block B0;replace hNR:=hNR.ext e3;replace hE:=hE.trans e3;clear a0 a1 a2 hNM hoq;obtain⟨a0,a1,a2,-⟩:=cells3 B0;go_upto_region 7 with (fail);refine boxes1 ?_;intro w4 e4 hsz4 B9;replace B4:=e4.block B4;replace B0:=e4.block B0;replace hNR:=hNR.ext e4;replace hQ:=hQ.ext e4;replace hE:=hE.trans e4;obtain⟨gq,hgq⟩:∃ gq,gq=w3.heap.size:=⟨_,rfl⟩
 rw [←hgq] at B9 ⊢;have e4s:=e4.size;have hgq2:w.heap.size+1 < gq:=by omega
 clear a0 a1 a2 e3 e4 hsz4 hgq;obtain⟨a0,a1,a2,-⟩:=cells3 B0;obtain⟨q0,-⟩:=cells1 B9;go_wp2_with (go_at_call 89; refine Hid.out ?_);refine (m_apply hQ hNR hn0 (by omega) hn0 (by omega) HD.out.q_ht HD.out.b_ht HD.out.hK3).mono ?_;rintro e w5 ⟨AX,cX,rfl,hXs,e5⟩;have e5s:=e5.size;replace hXs:LsV N 0 w5.heap.size w5 (.slice AX n cX) n (xS m n X y p):=LsV.all hXs;replace B4:=e5.block B4;replace B0:=e5.block B0;replace B9:=e5.block B9;replace hQ:=hQ.ext e5;replace hE:=hE.trans e5;clear a0 a1 a2 e5 q0 hNR;obtain⟨a0,a1,a2,-⟩:=cells3 B0;go_wp2_with (go_at_call 103; refine Hid.out ?_);refine (n_Residuals (hI1.ext hE) (hI2.ext hE) (hI3.ext hE) hXs hm0 (by omega) hn0 (by omega) HD.out.pos HD.out.hX HD.out.hy HD.out.hp HD.out.x_ht (by omega) HD.out.hK4).mono ?_;rintro e w6 ⟨AV,cV,rfl,hVs,e6⟩;replace hVs:LsV N w5.heap.size w6.heap.size w6 (.slice AV m cV) m (vS m n X y p):=hVs;replace B4:=e6.block B4;replace B0:=e6.block B0;replace B9:=e6.block B9;replace hQ:=hQ.ext e6;have e6s:=e6.size;replace hE:=hE.trans e6;clear a0 a1 a2 e6 hXs;obtain⟨a0,a1,a2,-⟩:=cells3 B0;obtain⟨q0,-⟩:=cells1 B9;go_upto_region 11 with (fail);refine wp_region_lit ?_;refine wpList_plain rfl (fun K hK=>?_);go_simp;refine hK _ _ ?_;clear hK K;try simp only [nr]
 refine wpList_plain rfl (fun K hK=>?_);go_simp;refine hK _ _ ?_;clear hK K;try simp only [nr]
 refine wpList_plain rfl (fun K hK=>?_);go_simp;refine hK _ _ ?_;clear hK K;try simp only [nr]
 refine wpList_plain rfl (fun K hK=>?_);go_simp;refine hK _ _ ?_;clear hK K;try simp only [nr]
 refine wpList_plain rfl (fun K hK=>?_);go_simp;refine hK _ _ ?_;clear hK K;try simp only [nr]
 have hs6:=blk_lt B4;have hs9:=blk_lt B9;refine boxes1 ?_;intro w7 e7 hsz7 B14;replace B4:=e7.block B4;replace B0:=e7.block B0;replace B9:=e7.block B9;replace hQ:=hQ.ext e7;replace hVs:=hVs.ext e7;replace hE:=hE.trans e7;obtain⟨gs,hgs⟩:∃ gs,gs=w6.heap.size:=⟨_,rfl⟩
 rw [←hgs] at B14 hs6 hs9 hVs e6s ⊢;clear a0 a1 a2 e7 hsz7 hgs q0;refine wpList_store_blk rfl 94 _ _ rfl (by rfl) (by rfl) B14 info_slv (by rfl) (by rfl) (by rfl) ?_;try simp only [nr]
 intro w8 D14 U14;have C14:=U14.chg (NoU.mk B14 (by decide));replace B4:=C14.blk B4 (by omega);replace B0:=C14.blk B0 (by omega);replace B9:=C14.blk B9 (by omega);replace hQ:=hQ.chg C14 (by omega) (.inl (by omega));replace hVs:=hVs.chg C14 (by omega) (.inl (Nat.le_refl _));replace hE:=C14.ext hE (by omega);clear B14 U14 C14;refine wpList_nil ?_;obtain⟨o0,o1,o2,o3,o4,o5,o6,o7,o8,o9,o10,o11⟩:=cells6 D14;go_upto_region 13 with (fail);obtain⟨w9,E9,D9,U9⟩:=set65 D14 (.func (.func 104) #[] #[.pointer (some ⟨gq,0,none⟩),.pointer (some ⟨w.heap.size,0,none⟩)]);rw [E9];have C9:=U9.chg (NoU.mk D14 (by decide));replace B4:=C9.blk B4 (by omega);replace B0:=C9.blk B0 (by omega);replace B9:=C9.blk B9 (by omega);replace hQ:=hQ.chg C9 (by omega) (.inl (by omega));replace hVs:=hVs.chg C9 (by omega) (.inl (Nat.le_refl _));replace hE:=C9.ext hE (by omega);clear o0 o1 o2 o3 o4 o5 o6 o7 o8 o9 o10 o11 E9 D14 U9 C9;obtain⟨o0,o1,o2,o3,o4,o5,-⟩:=cells6 D9;refine wp_region_lit ?_;refine wpList_plain rfl (fun K hK=>?_);go_simp;refine hK _ _ ?_;clear hK K;try simp only [nr]
 refine wpList_store_blk rfl 94 _ _ rfl (by rfl) (by rfl) B4 info_slv (by rfl) (by rfl) (by rfl) ?_;try simp only [nr]
 intro w10 D10 U10;have C10:=U10.chg (NoU.mk B4 (by decide));replace B0:=C10.blk B0 (by omega);replace B9:=C10.blk B9 (by omega);have hQ10:=MtV.all (hQ.chg C10 (by omega) (.inr (by omega)));have hV10:=LsV.all (hVs.chg C10 (by omega) (.inr (by omega)));have hE10:=C10.ext hE (by omega);obtain⟨x0,x1,x2,x3,x4,x5,-⟩:=cells6 D10;clear o0 o1 o2 o3 o4 o5 D9 U10 B4;refine wpList_plain rfl (fun K hK=>?_);go_simp;refine hK _ _ ?_;clear hK K;try simp only [nr]
 refine wpList_nil ?_;go_wp2;refine bodyPost_ret (v:=.tuple #[.agg #[.slice A1 m c1,.slice A2 m c2,.slice A3 m c3,.slice (some ⟨hq,0,none⟩) n capq,.slice AV m cV,.func (.func 104) #[] #[.pointer (some ⟨gq,0,none⟩),.pointer (some ⟨w.heap.size,0,none⟩)]],.int .i64 0]) ?_ rfl ?_
 ·simp [results,x0,x1,x2,x3,x4,x5,go_sem]
 ·rw [hRf.out];exact⟨_,rfl,⟨A1,c1,A2,c2,A3,c3,_,capq,AV,cV,gq,w.heap.size,rfl,B9,B0,MtV.all (hI1.ext hE10),LsV.all (hI2.ext hE10),LsV.all (hI3.ext hE10),hQ10,hV10⟩,hE10⟩
section
variable {P:Program} {ops:Array Oper} {Q:Exit→Act→World→Prop} {late:List Nat}
def lateS (ops:Array Oper) (late soft:List Nat):Bool:=(List.range ops.size).all fun i=>late.contains i || soft.contains i || waitsB ops late i
def apartB (ops:Array Oper) (i:Nat):Bool :=
 match ops[i]? with
 | some oi=>(List.range ops.size).all fun j=>j == i || (preds ops j).contains i || (sweep ops i (preds ops i)).contains j || (match ops[j]? with | some oj=>oi.apart ops oj | none=>true)
 | none=>false
def softB (ops:Array Oper) (late soft:List Nat):Bool:=soft.all fun i=>decide (i < ops.size) && !late.contains i && apartB ops i && (preds ops i).all fun j=>waitsB ops late j
def Sft (P:Program) (ops:Array Oper) (Q:Exit→Act→World→Prop) (Js:List Mn) (ds:List (Option Tmp)) (a0:Act) (W:World) (i:Nat):Prop :=
 ∀ o,ops.toList[i]?=some o→(∀ c a v w,Q (.panic c) (Act.put a o.dst v) w→Q (.panic c) a w)∧∀ a w,Ext W w→(∀ t,ds.contains (some t)=false→a.tmps[t]?=a0.tmps[t]?) →
  (∀ j,(preds ops i).contains j=true→∀ t,ds[j]?=some (some t)→∃ v,a.tmps[t]?=some v∧(Js[j]?.getD Mn.any).p v w) →
  ∃ v,YieldsIf P ops (fun _=>True) o v a∧(Js[i]?.getD Mn.any).p v w
theorem sft {Js:List Mn} {ds:List (Option Tmp)} {a0:Act} {W:World} {i:Nat} {o:Oper} (hi:ops.toList[i]?=some o) (hQ:∀ c a v w,Q (.panic c) (Act.put a o.dst v) w→Q (.panic c) a w)
  (h:∀ a w,Ext W w→(∀ t,ds.contains (some t)=false→a.tmps[t]?=a0.tmps[t]?) →
   (∀ j,(preds ops i).contains j=true→∀ t,ds[j]?=some (some t)→∃ v,a.tmps[t]?=some v∧(Js[j]?.getD Mn.any).p v w) →
   ∃ v,YieldsIf P ops (fun _=>True) o v a∧(Js[i]?.getD Mn.any).p v w):Sft P ops Q Js ds a0 W i:=by
 intro o' ho';rw [hi] at ho';cases ho'
 exact⟨hQ,h⟩
theorem inv_goS {soft:List Nat} {Js:List Mn} {ds:List (Option Tmp)} {a0:Act} {W:World} (hd:ops.toList.map (·.dst)=ds) (hnd:nodupB ds=true) (hsz:fitsB ds a0.tmps.size=true) (hlow:lowB ops=true) (hlate:lateS ops late soft=true) (hsoft:softB ops late soft=true) (hns:Region.noSelect ops=true)
  (hstep:∀ i,i < ops.size→late.contains i=false→soft.contains i=false→Stp P ops Q late Js ds a0 W i) (hsft:∀ i,soft.contains i=true→Sft P ops Q Js ds a0 W i) {k:Nat} (hk:cnt (lastB ops late).toArray ops.size=k)
  (hdone:∀ vals w,Ext W w→(∀ j,j < ops.size→late.contains j=false→(Js[j]?.getD Mn.any).p (vals j) w)→stepL P ops Q (fun _=>True) late k (lastB ops late).toArray (putAll ds (lastB ops late) vals 0 a0) w) :
  ∀ (fuel:Nat) (listed:Array Bool) (vals:Nat→Value) (w:World),listed.size=ops.size→Closed ops listed→(∀ t,late.contains t=true→t < ops.size→listed.getD t false=false)→cnt listed ops.size≤fuel→Ext W w →
   (∀ j,listed.getD j false=true→(Js[j]?.getD Mn.any).p (vals j) w)→anyL P ops Q (fun _=>True) late fuel listed (putAll ds listed.toList vals 0 a0) w:=by
 intro fuel
 induction fuel with
 | zero =>
  intro listed vals w h1 h2 h3 h4 h5 h6
  by_cases hall:∀ i,i < ops.size→late.contains i=false→listed.getD i false=true
  ·have hL:listed=(lastB ops late).toArray:=by
    apply Array.ext
    ·simp [lastB,h1]
    ·intro i hi _;have hio:i < ops.size:=by omega
     have e1:listed[i]=listed.getD i false:=by simp [hi]
     rw [e1];simp only [lastB,List.getElem_toArray,List.getElem_map,List.getElem_range];cases hc:late.contains i with
     | false=>exact hall i hio hc
     | true=>exact h3 i hc hio
   subst hL;have:=hdone vals w h5 (fun j hj hc=>h6 j (hall j hj hc)) h2;rw [hk] at h4;exact anyL_ge h4 this
  ·exfalso
   apply hall
   intro i hi _
   have hz:∀ n,n≤ops.size→cnt listed n=0→∀ i,i < n→listed.getD i false=true:=by
    intro n
    induction n with
    | zero=>intro _ _ i hi; omega
    | succ n ih =>
     intro hn hc i hi;unfold cnt at hc
     by_cases e:i=n
     ·subst e
      by_cases hg:listed.getD i false=true
      ·exact hg
      ·rw [if_neg hg] at hc; omega
     ·exact ih (by omega) (by omega) i (by omega)
   exact hz ops.size (Nat.le_refl _) (by omega) i hi
 | succ fuel ih =>
  intro listed vals w h1 h2 h3 h4 h5 h6
  by_cases hall:∀ i,i < ops.size→late.contains i=false→listed.getD i false=true
  ·have hL:listed=(lastB ops late).toArray:=by
    apply Array.ext
    ·simp [lastB,h1]
    ·intro i hi _;have hio:i < ops.size:=by omega
     have e1:listed[i]=listed.getD i false:=by simp [hi]
     rw [e1];simp only [lastB,List.getElem_toArray,List.getElem_map,List.getElem_range];cases hc:late.contains i with
     | false=>exact hall i hio hc
     | true=>exact h3 i hc hio
   subst hL;have:=hdone vals w h5 (fun j hj hc=>h6 j (hall j hj hc)) h2;rw [hk] at h4;exact anyL_ge h4 this
  ·have hfacts:∀ i,i∈Region.ready .any ops listed→∀ j,(preds ops i).contains j=true→∀ t,ds[j]?=some (some t)→∃ v,(putAll ds listed.toList vals 0 a0).tmps[t]?=some v∧(Js[j]?.getD Mn.any).p v w:=by
    intro i hi j hj t ht;have hjl:=preds_ready hi j (by simpa using hj);refine⟨vals j,?_,h6 j hjl⟩
    have hjs:j < listed.size:=by
     rcases Nat.lt_or_ge j listed.size with h | h
     ·exact h
     ·simp [Array.getElem?_eq_none h] at hjl
    have:=putAll_new ds listed.toList vals 0 j a0 hnd (by rw [Array.getElem?_toList]; simp [hjs] at hjl ⊢; exact hjl) ht (by
     have:=List.all_eq_true.1 hsz (some t) (List.mem_of_getElem? ht)
     simpa using this)
    rw [Nat.zero_add] at this;exact this
   have hnext:∀ i,i∈Region.ready .any ops listed→late.contains i=false→∀ (o:Oper),ops.toList[i]?=some o→∀ v w',Ext w w'→(Js[i]?.getD Mn.any).p v w'→anyL P ops Q (fun _=>True) late fuel (listed.setIfInBounds i true) ((putAll ds listed.toList vals 0 a0).put o.dst v) w':=by
    intro i hi hic o ho' v w' e hJ;have hun:=ready_not hi
    have hio:i < ops.size:=by
     rw [Array.getElem?_toList] at ho';exact (Array.getElem?_eq_some_iff.1 ho').1
    have hdi:ds[i]?=some o.dst:=by rw [←hd,List.getElem?_map,ho']; rfl
    have hbi:listed.toList[i]?=some false:=by
     rw [Array.getElem?_toList];have:i < listed.size:=by omega
     simp [this] at hun ⊢; exact hun
    have hc:=cnt_set (by omega:i < listed.size) hun ops.size;rw [if_pos hio] at hc;have hps:=putAll_set (v:=v) ds listed.toList vals 0 i a0 hnd hbi hdi;rw [Nat.zero_add] at hps;rw [←hps,←Array.toList_setIfInBounds];refine ih (listed.setIfInBounds i true) (updV vals i v) w' (by simpa using h1) (h2.set hi) (fun t htl htn=>?_) (by omega) (h5.trans e) (fun j hj=>?_)
    ·rw [Go.getD_set_ne false (fun e=>by subst e; rw [hic] at htl; cases htl)];exact h3 t htl htn
    ·by_cases hji:i=j
     ·subst hji;have:updV vals i v i=v:=by simp [updV]
      rw [this]; exact hJ
     ·rw [Go.getD_set_ne false hji] at hj;have:updV vals i v j=vals j:=by unfold updV; rw [if_neg (fun e=>hji e.symm)]
      rw [this];exact (Js[j]?.getD Mn.any).mono e (h6 j hj)
   by_cases hsr:∃ i,soft.contains i=true∧i∈Region.ready .any ops listed
   ·obtain⟨i,his,hi⟩:=hsr;have hsb:=List.all_eq_true.1 hsoft i (by simpa using his);simp only [Bool.and_eq_true,decide_eq_true_eq,Bool.not_eq_true'] at hsb;obtain⟨⟨⟨hio,hic⟩,hap⟩,-⟩:=hsb;obtain⟨-,o,ho,-⟩:=mem_ready.1 hi;have ho':ops.toList[i]?=some o:=by rw [Array.getElem?_toList]; exact ho
    obtain⟨hQ,hsf⟩:=hsft i his o ho';obtain⟨v,hy,hJ⟩:=hsf _ w h5 (fun t ht=>putAll_old ds _ vals 0 a0 ht) (hfacts i hi);refine anyL_pure ho (Region.noSelect_spec hns) (fun c a w=>hQ c a v w) fuel listed _ w (fun j oj hoj hji hjl hno=>?_) hi hy (hnext i hi hic o ho' v w (Ext.refl _) hJ);unfold apartB at hap;rw [ho] at hap;have hjo:j < ops.size:=(Array.getElem?_eq_some_iff.1 hoj).1;have h9:=List.all_eq_true.1 hap j (by simpa using hjo);rw [hoj] at h9;simp only [Bool.or_eq_true,beq_iff_eq] at h9
    rcases h9 with ((h9 | h9) | h9) | h9
    ·exact absurd h9 hji
    ·exfalso
     have h8:i∈preds ops j:=by simpa using h9
     unfold preds at h8;rw [hoj] at h8;simp only [List.mem_map,List.mem_filter] at h8;obtain⟨e,⟨he,hb⟩,hon⟩:=h8;exact hno e (by simpa using he) hb hon
    ·exfalso
     have h7:=sweep_listed h2 i (preds ops i) (fun x hx=>preds_ready hi x hx) j (by simpa using h9);have h6':j < listed.size:=by omega
     simp [h6'] at h7 hjl
     rw [h7] at hjl; cases hjl
    ·exact h9
   ·have hex:∃ i,i < ops.size∧late.contains i=false∧listed.getD i false=false:=by
     apply Classical.byContradiction
     intro hno
     apply hall
     intro i hi hc;cases hl:listed.getD i false with
     | true=>rfl
     | false=>exact absurd ⟨i,hi,hc,hl⟩ hno
    obtain⟨u,hu,huc,hul⟩:=hex;have hne:=ready_low hlow h1 0 (Nat.zero_le _) (fun i hi=>by omega) ⟨u,hu,hul⟩;refine⟨fun h0=>?_,fun i hi=>?_⟩
    ·obtain⟨i,hi⟩:=hne; rw [h0] at hi; cases hi
    ·obtain⟨-,o,ho,-⟩:=mem_ready.1 hi;have hio:i < ops.size:=(Array.getElem?_eq_some_iff.1 ho).1
     have hsi:soft.contains i=false:=by
      cases hc:soft.contains i with
      | false=>rfl
      | true=>exact absurd ⟨i,hc,hi⟩ hsr
     have hic:late.contains i=false:=by
      cases hc:late.contains i with
      | false=>rfl
      | true =>
       exfalso
       have hw:=List.all_eq_true.1 hlate u (by simpa using hu);rw [huc,Bool.false_or] at hw
       rcases (by simpa using hw:soft.contains u=true∨waitsB ops late u=true) with hs | hs
       ·have hsb:=List.all_eq_true.1 hsoft u (by simpa using hs);rw [Bool.and_eq_true] at hsb;have hpr:=List.all_eq_true.1 hsb.2;refine hsr ⟨u,hs,mem_ready.2 ⟨?_,ops[u],by simp [hu],fun e he hb=>?_⟩⟩
        ·have:u < listed.size:=by omega
         simp [this] at hul ⊢; exact hul
        ·have h8:=hpr e.on (by
          unfold preds;rw [Array.getElem?_eq_getElem hu];simp only [List.mem_map,List.mem_filter]
          exact⟨e,⟨by simpa using he,hb⟩,rfl⟩)
         exact late_listed h8 h2 hi hc
       ·have:=late_listed hs h2 hi hc;rw [hul] at this; cases this
     have ho':ops.toList[i]?=some o:=by rw [Array.getElem?_toList]; exact ho
     refine wpOp_step ho (fun K' hK=>?_);exact hstep i hio hic hsi o ho' _ w h5 (fun t ht=>putAll_oldB (by rw [←hd]; simp) h3 vals a0 ht) (hfacts i hi) K' (fun v w' e hJ=>hK _ _ ⟨fun _ _=>trivial,hnext i hi hic o ho' v w' e hJ⟩)
theorem region_invS (Js:List Mn) (ds:List (Option Tmp)) (late soft:List Nat) (bs:List Bool) (k:Nat) {id:Nat} {a0:Act} {W:World} (hm:P.follows .mixedOrders=true) (hd:ops.toList.map (·.dst)=ds) (hnd:nodupB ds=true) (hsz:fitsB ds a0.tmps.size=true) (hlow:lowB ops=true) (hlate:lateS ops late soft=true) (hsoft:softB ops late soft=true) (hns:Region.noSelect ops=true)
  (hb:lastB ops late=bs) (hk:cnt bs.toArray ops.size=k) (hstep:∀ i,i < ops.size→late.contains i=false→soft.contains i=false→Stp P ops Q late Js ds a0 W i) (hsft:∀ i,soft.contains i=true→Sft P ops Q Js ds a0 W i)
  (hdone:∀ vals w,Ext W w→(∀ j,j < ops.size→late.contains j=false→(Js[j]?.getD Mn.any).p (vals j) w)→stepL P ops Q (fun _=>True) late k bs.toArray (putAll ds bs vals 0 a0) w) :
  (Code.region id ops true).wp P Q a0 W:=by
 subst hb
 have h0:∀ n,putAll ds (Array.replicate n false).toList (fun _=>undef) 0 a0=a0:=by
  intro n;simp only [Array.toList_replicate]
  have:∀ (ds:List (Option Tmp)) (n k:Nat),putAll ds (List.replicate n false) (fun _=>undef) k a0=a0:=by
   intro ds
   induction ds with
   | nil=>intro n k; unfold putAll; rfl
   | cons d ds ih =>
    intro n k;cases n with
    | zero=>rfl
    | succ n=>exact ih n (k+1)
  exact this ds n 0
 have hc0:∀ (n:Nat) (l:Array Bool),cnt l n≤n:=by
  intro n l
  induction n with
  | zero=>exact Nat.le_refl _
  | succ n ih=>unfold cnt; split <;> omega
 have hf0:∀ j,(Array.replicate ops.size false).getD j false=false:=fun j=>by
  rw [Array.getD_eq_getD_getElem?,Array.getElem?_replicate]; split <;> rfl
 have:=inv_goS (P:=P) (Q:=Q) (late:=late) hd hnd hsz hlow hlate hsoft hns hstep hsft hk hdone ops.size (Array.replicate ops.size false) (fun _=>undef) W.drew (by simp) (Closed.start _) (fun t _ _=>hf0 t) (hc0 _ _) (Ext.refl W).drew (fun j hj=>by rw [hf0 j] at hj; cases hj);rw [h0] at this;exact wp_region_any hm (any_of_anyL _ _ _ _ this)
theorem regS (Js:List Mn) (ds:List (Option Tmp)) (late soft:List Nat) (bs:List Bool) (k:Nat) {id:Nat} {a0:Act} {W:World} (h:(P.follows .mixedOrders && (decide (ops.toList.map (·.dst)=ds) && (nodupB ds && (fitsB ds a0.tmps.size && (lowB ops && (lateS ops late soft && (softB ops late soft && (Region.noSelect ops && (decide (lastB ops late=bs) && decide (cnt bs.toArray ops.size=k))))))))))=true) (hstep:∀ i,i < ops.size→late.contains i=false→soft.contains i=false→Stp P ops Q late Js ds a0 W i) (hsft:∀ i,soft.contains i=true→Sft P ops Q Js ds a0 W i)
  (hdone:∀ vals w,Ext W w→(∀ j,j < ops.size→late.contains j=false→(Js[j]?.getD Mn.any).p (vals j) w)→stepL P ops Q (fun _=>True) late k bs.toArray (putAll ds bs vals 0 a0) w) :
  (Code.region id ops true).wp P Q a0 W:=by
 simp only [Bool.and_eq_true,decide_eq_true_eq] at h;obtain⟨h1,h2,h3,h4,h5,h6,h7,h8,h9,h10⟩:=h;exact region_invS Js ds late soft bs k h1 h2 h3 h4 h5 h6 h7 h8 h9 h10 hstep hsft hdone
end
def Mn.l2 (N n:Nat) (x:Nat→Rat):Mn:=⟨fun v w=>∃ A c,v=.tuple #[.slice A n c,.int .i64 0]∧LsV N 0 w.heap.size w (.slice A n c) n x,fun e h=>by
  obtain⟨A,c,h0,h1⟩:=h
  exact⟨A,c,h0,LsV.all (h1.ext e)⟩⟩
def Mn.rc (N:Nat) (q:Rat):Mn:=⟨fun v w=>∃ u,v=.tuple #[u,.int .i64 0]∧RatV N w u q,fun e h=>by
  obtain⟨u,h0,h1⟩:=h
  exact⟨u,h0,h1.ext e⟩⟩
def code38 (Z:Lin) (k:Nat) (R:Nat→Raw):Int :=
 if codeOf Z≠0 then codeOf Z else if allB k (fun i=>okR (R i))=false then 1 else if ivB (Z.L 0) (nmat (fun i j=>ratOf (Z.A i j)) (fun i=>ratOf (Z.p i)) Z.m)=false then 14 else 0
structure G38 (Z:Lin) (k:Nat) (R:Nat→Raw) (m n:Nat) (X:Nat→Nat→Rat) (y p:Nat→Rat):Prop where
 few:FewG 7 4 Z n X y p
 em:m=Z.m
 ok:allB k (fun i=>okR (R i))=true
 reg:Reg n (nmat X p m)
theorem code38_zero {Z:Lin} {k:Nat} {R:Nat→Raw} (hf:few34 7 4 Z=true) (h:code38 Z k R=0):G38 Z k R Z.m (Z.L 0) (fun i j=>ratOf (Z.A i j)) (fun i=>ratOf (Z.l i)) (fun i=>ratOf (Z.p i)):=by
 unfold code38 at h
 by_cases h1:codeOf Z≠0
 ·rw [if_pos h1] at h; exact absurd h h1
 rw [if_neg h1] at h
 by_cases h2:allB k (fun i=>okR (R i))=false
 ·rw [if_pos h2] at h; exact absurd h (by decide)
 rw [if_neg h2] at h
 by_cases h3:ivB (Z.L 0) (nmat (fun i j=>ratOf (Z.A i j)) (fun i=>ratOf (Z.p i)) Z.m)=false
 ·rw [if_pos h3] at h; exact absurd h (by decide)
 exact⟨few34_lin hf (by omega),rfl,by simpa using h2,ivB_reg.1 (by simpa using h3)⟩
theorem sn_solve_bad {N lo hi lo' hi':Nat} {w:World} {v u:Value} {Z:Lin} {k:Nat} {R:Nat→Raw} (h:LinV N lo hi w v Z) (hx:LsR N lo' hi' w u k R) (hf:few34 7 4 Z=true) (hsx:∀ i,i < k→RawSz (R i)) (hc:code38 Z k R≠0) :
  Calls Tryz.prog 60 #[v,u] w (RetV w (.tuple #[nilSlv,.int .i64 (code38 Z k R)])):=by
 obtain⟨f1,f2,f3⟩:=few34_sz hf
 by_cases h1:codeOf Z=0
 ·have f:=few34_lin hf h1;have hI:=h;obtain⟨A1,c1,A2,c2,A3,c3,rfl,h1',h2',h3',-⟩:=h.parts;obtain⟨k1,k2,k3⟩:=f.mem h1' h2' h3';have e1:=f.nl;have e2:=f.np;rw [e1,e2]
  by_cases h2:allB k (fun i=>okR (R i))=false
  ·have e:code38 Z k R=1:=by unfold code38; rw [if_neg (by simpa using h1),if_pos h2]
   rw [e];exact sn_solve_b2 k1 k2 k3 hx f.md hsx h2
  ·by_cases h3:ivB (Z.L 0) (nmat (fun i j=>ratOf (Z.A i j)) (fun i=>ratOf (Z.p i)) Z.m)=false
   ·have e:code38 Z k R=14:=by unfold code38; rw [if_neg (by simpa using h1),if_neg h2,if_pos h3]
    rw [e];exact sn_solve_b3 k1 k2 k3 hx f.md hsx (by simpa using h2) (fun h9=>by rw [ivB_reg.2 h9] at h3; cases h3)
   ·exact absurd (by unfold code38; rw [if_neg (by simpa using h1),if_neg h2,if_neg h3]) hc
 ·have e:code38 Z k R=codeOf Z:=by unfold code38; rw [if_pos h1]
  rw [e];obtain⟨A4,c4,rfl,-⟩:=hx.form;exact sn_solve_b1 h f2 f3 h1 A4 k c4
def inB (m:Nat) (z:Int):Bool:=decide (0≤z) && decide (z < (m:Int))
theorem inB_true {m:Nat} {z:Int} (h:inB m z=true):z=(z.toNat:Int)∧z.toNat < m:=by
 unfold inB at h;rw [Bool.and_eq_true,decide_eq_true_eq,decide_eq_true_eq] at h;omega
theorem sn_has {N:Nat} {w:World} {v:Value} {m n:Nat} {X:Nat→Nat→Rat} {y p:Nat→Rat} (h:SlvV N w v m n X y p) (hm:m≤7) (z:Int) :
  Calls Tryz.prog 61 #[v,.int .i64 z] w (RetV w (.bool (inB m z))):=by
 obtain⟨A1,c1,A2,c2,A3,c3,AQ,cq,AV,cv,gq,gl,rfl,-⟩:=h;obtain⟨r,hr⟩:=hid_eq (inB m z);rw [←hr.out]
 by_cases h0:z < 0
 ·have HR:Hid (r=false):=by rw [Hid,hr.out]; unfold inB; rw [decide_eq_false (by omega)]; rfl
  have t0:decide (0≤z)=false:=decide_eq_false (by omega);clear hr;go_enter Tryz.func61,Tryz.ntmps61;go_upto_region 1 with (fail);refine boxes1 ?_;intro W hE hsz B0;go_wp2;go_ret;exact⟨ret_bool HR.out.symm,hE⟩
 ·have t0:decide (0≤z)=true:=decide_eq_true (by omega)
  by_cases h1:z < (m:Int)
  ·have HR:Hid (r=true):=by rw [Hid,hr.out]; unfold inB; rw [decide_eq_true (by omega),decide_eq_true h1]; rfl
   have t1:decide (z < (m:Int))=true:=decide_eq_true h1;clear hr;go_enter Tryz.func61,Tryz.ntmps61;go_upto_region 1 with (fail);refine boxes1 ?_;intro W hE hsz B0;obtain⟨a0,-⟩:=cells6 B0;go_wp2;go_ret;exact⟨ret_bool HR.out.symm,hE⟩
  ·have HR:Hid (r=false):=by rw [Hid,hr.out]; unfold inB; rw [decide_eq_true (by omega),decide_eq_false h1]; rfl
   have t1:decide (z < (m:Int))=false:=decide_eq_false h1;clear hr;go_enter Tryz.func61,Tryz.ntmps61;go_upto_region 1 with (fail);refine boxes1 ?_;intro W hE hsz B0;obtain⟨a0,-⟩:=cells6 B0;go_wp2;go_ret;exact⟨ret_bool HR.out.symm,hE⟩
set_option maxRecDepth 100000 in
theorem sn_redund {N lo hi lo2 hi2 lo3 hi3:Nat} {w:World} {m n c1 c2 c3 cq:Nat} {A1 A2 A3 AQ:Option Addr} {gq gl:Nat} {X:Nat→Nat→Rat} {y p:Nat→Rat} (b1:w.heap[gq]?=some (.cells #[.slice AQ n cq] 23 (0,0))) (b2:w.heap[gl]?=some (.cells #[.slice A1 m c1,.slice A2 m c2,.slice A3 m c3] 26 (0,0)))
  (h1:MtV N lo hi w (.slice A1 m c1) m n X) (h3:LsV N lo2 hi2 w (.slice A3 m c3) m p) (hq:MtV N lo3 hi3 w (.slice AQ n cq) n n (qS m n X p)) (d:Md m n X y p) {i:Nat} {z:Int} (hz:z=(i:Int)) (hi':i < m) :
  Calls Tryz.prog 104 #[.int .i64 z,.pointer (some ⟨gq,0,none⟩),.pointer (some ⟨gl,0,none⟩)] w (RetR N w (rS m n X p i)):=by
 subst hz;obtain⟨Rf,hRf⟩:=hid_eq (RetR N w (rS m n X p i));rw [←hRf.out];have hN:=h1.le;have HD:=Lib.hid d;have hm0:=d.m0;have hm7:=d.m7;have hn0:=d.n0;have hn4:=d.n4;have HZR:=Lib.hid ((d.r_ht i hi').sz (by omega));have HZS:=Lib.hid ((d.s_ht hi').sz (by omega));have HZP:=Lib.hid ((d.hp i hi').sz (by omega));have HZ1:Hid (Sz ((1:Int):Rat)):=(ht_nat 1 1 (by decide) (by omega)).sz (by omega);have HZM:=Lib.hid (((d.hp i hi').mul (d.s_ht hi')).sz (by omega));have HGH:=Lib.hid (d.g_ht hi');have hI1:=h1;have hI3:=h3;have hIq:=hq;clear h1 h3 hq d;obtain⟨e1,off1,rfl,-,-,hx1⟩:=hI1.addr hm0;obtain⟨A0,c0,o0,hc0,hm0',hR0⟩:=hx1 i hi';obtain⟨e3,off3,rfl,-,-,hx3⟩:=LsV.addr hI3 hm0;clear hx1;unfold maxLen at hm0';go_enter Tryz.func104,Tryz.ntmps104;go_upto_region 1 with (fail);refine boxes1 ?_;intro W hE hsz B4;have B1:=hE.block b1;have B2:=hE.block b2;clear b1 b2;obtain⟨q0,-⟩:=cells1 B1;obtain⟨a0,a1,a2,-⟩:=cells3 B2;have p0:=hE.cell o0;refine regI [Mn.eq (.slice AQ n cq),Mn.eq (.pointer (some ⟨gl,0,none⟩)),Mn.eq (.slice (some ⟨e1,off1,none⟩) m c1),Mn.eq (.int .i64 (i:Int)),Mn.eq (.pointer (some ⟨e1,off1+i,none⟩)),Mn.eq (.slice A0 n c0),Mn.l2 N n (gS m n X p i),Mn.l2 N n (gS m n X p i),Mn.ls N n (gS m n X p i),Mn.eq (.int .i64 0),Mn.ls N n (gS m n X p i),Mn.eq (.int .i64 0)] [some 10,some 11,some 12,some 13,some 14,some 15,some 16,some 9,some 17,some 18,some 5,some 6] [] [true,true,true,true,true,true,true,true,true,true,true,true] 0 (by kernel_rfl) ?_ ?_
 ·show ∀ i,i < 12→_
  iterate 12 refine fs ?_ ?_
  ·exact fz
  all_goals intro hl
  all_goals clear hl
  all_goals refine stp rfl ?_
  all_goals intro ac wi eI hB hA K hK
  have o1:=oOf (hB 1 (by kernel_rfl)) rfl;have cc0:=eI.cell q0
  rotate_left
  have o2:=oOf (hB 2 (by kernel_rfl)) rfl
  rotate_left
  obtain⟨_,s11,rfl⟩:=hA 1 (by kernel_rfl) 11 rfl;have cc0:=eI.cell a0
  rotate_left
  have o0:=oOf (hB 0 (by kernel_rfl)) rfl
  rotate_left
  obtain⟨_,s12,rfl⟩:=hA 2 (by kernel_rfl) 12 rfl;obtain⟨_,s13,rfl⟩:=hA 3 (by kernel_rfl) 13 rfl
  rotate_left
  obtain⟨_,s14,rfl⟩:=hA 4 (by kernel_rfl) 14 rfl;have cc0:=eI.cell p0
  rotate_left
  obtain⟨_,s10,rfl⟩:=hA 0 (by kernel_rfl) 10 rfl;obtain⟨_,s15,rfl⟩:=hA 5 (by kernel_rfl) 15 rfl;clear hB hA
  ·go_simp;refine (m_apply (hIq.ext (hE.trans eI)) (hR0.ext (hE.trans eI)) hn0 (by omega) hn0 (by omega) HD.out.q_ht (HD.out.hX i hi') HD.out.hK5).mono ?_;rintro e wj ⟨Aj,cj,rfl,hj,ej⟩;go_wp2_with fail;exact hK.out _ _ ej ⟨_,_,rfl,LsV.all hj⟩
  obtain⟨x16,s16,j16⟩:=hA 6 (by kernel_rfl) 16 rfl;replace j16:Mn.p (Mn.l2 N n (gS m n X p i)) x16 wi:=j16;clear hB hA
  ·go_simp;exact hK.out _ _ (Ext.refl _) j16
  obtain⟨x9,s9,j9⟩:=hA 7 (by kernel_rfl) 9 rfl;replace j9:Mn.p (Mn.l2 N n (gS m n X p i)) x9 wi:=j9;clear hB hA
  ·obtain⟨Aj,cj,rfl,hj⟩:=j9;go_simp;exact hK.out _ _ (Ext.refl _) hj
  obtain⟨x9,s9,j9⟩:=hA 7 (by kernel_rfl) 9 rfl;replace j9:Mn.p (Mn.l2 N n (gS m n X p i)) x9 wi:=j9;clear hB hA
  ·obtain⟨Aj,cj,rfl,hj⟩:=j9;go_simp;exact hK.out _ _ (Ext.refl _) rfl
  obtain⟨x17,s17,j17⟩:=hA 8 (by kernel_rfl) 17 rfl;replace j17:Mn.p (Mn.ls N n (gS m n X p i)) x17 wi:=j17;clear hB hA
  ·go_simp;exact hK.out _ _ (Ext.refl _) j17
  obtain⟨_,s18,rfl⟩:=hA 9 (by kernel_rfl) 18 rfl
  rotate_left
  all_goals clear hB hA
  all_goals go_simp
  all_goals exact hK.out _ _ (Ext.refl _) rfl
 intro vals wz eZ hJ;have J16:Mn.p (Mn.l2 N n (gS m n X p i)) (vals 6) wz:=hJ 6 (by decide) (by decide);have J9:Mn.p (Mn.l2 N n (gS m n X p i)) (vals 7) wz:=hJ 7 (by decide) (by decide);have J17:Mn.p (Mn.ls N n (gS m n X p i)) (vals 8) wz:=hJ 8 (by decide) (by decide);have J5:Mn.p (Mn.ls N n (gS m n X p i)) (vals 10) wz:=hJ 10 (by decide) (by decide);clear hJ;simp only [pr,Nat.reduceAdd]
 generalize vals 6=z16 at J16 ⊢
 generalize vals 7=z9 at J9 ⊢
 generalize vals 8=z17 at J17 ⊢
 generalize vals 10=z5 at J5 ⊢
 refine stepL_done (by kernel_rfl) ?_ _;have h5:LsV N 0 wz.heap.size wz z5 n (gS m n X p i):=J5;obtain⟨A5,c5,rfl,-⟩:=h5.form;replace hE:=hE.trans eZ;replace B4:=eZ.block B4;replace B2:=eZ.block B2;replace p0:=eZ.cell p0;clear J16 J9 J17 J5 a0 a1 a2 q0 B1 eZ hIq;obtain⟨a0,a1,a2,-⟩:=cells3 B2;go_wp2_with (go_at_call 105; refine Hid.out ?_);refine (f_dot (hR0.ext hE) h5 (HD.out.hX i hi') HGH.out HD.out.hK6).mono ?_;intro e w3 hh;obtain⟨nb,A6,n6,c6,A7,n7,c7,rfl,hnb,g6,g7,e3⟩:=hh.form;replace hE:=hE.trans e3;replace B4:=e3.block B4;replace B2:=e3.block B2;clear a0 a1 a2 p0 e3;go_upto_region 3 with (fail);refine boxes1 ?_;intro w4 e4 hsz4 B7;have hR7:RatV N w4 (.agg #[.bool nb,.slice A6 n6 c6,.bool false,.slice A7 n7 c7]) (sum n (fun s=>X i s*gS m n X p i s)):=RatV.mk hnb (g6.ext e4) (g7.ext e4);replace hE:=hE.trans e4;replace B4:=e4.block B4;replace B2:=e4.block B2;obtain⟨gt,hgt⟩:∃ gt,gt=w3.heap.size:=⟨_,rfl⟩
 rw [←hgt] at B7 ⊢;clear e4 hsz4 hgt g6 g7 hnb;obtain⟨a0,a1,a2,-⟩:=cells3 B2;obtain⟨t0,t1,t2,t3,-⟩:=cells4 B7;obtain⟨n8,A8,k8,c8,A9,k9,c9,r0,r1,r2,r3,hb8,g8,g9⟩:=((hx3 i hi').ext hE).open;have hR8:RatV N w4 (.agg #[.bool n8,.slice A8 k8 c8,.bool false,.slice A9 k9 c9]) (p i):=RatV.mk hb8 g8 g9;refine regI [Mn.rat N ((1:Int):Rat),Mn.eq (.pointer (some ⟨gl,2,none⟩)),Mn.eq (.slice (some ⟨e3,off3,none⟩) m c3),Mn.eq (.int .i64 (i:Int)),Mn.eq (.pointer (some ⟨e3,off3+i*4,none⟩)),Mn.rat N (p i),Mn.rat N (sum n (fun s=>X i s*gS m n X p i s)),Mn.rat N (p i*sum n (fun s=>X i s*gS m n X p i s)),Mn.rat N (rS m n X p i),Mn.any] [some 29,some 30,some 31,some 32,some 33,some 34,some 35,some 36,some 37,none] [9] [true,true,true,true,true,true,true,true,true,false] 1 (by kernel_rfl) ?_ ?_
 ·show ∀ i,i < 10→_
  iterate 10 refine fs ?_ ?_
  ·exact fz
  all_goals intro hl
  all_goals first | exact absurd hl (by decide) | skip
  all_goals clear hl
  all_goals refine stp rfl ?_
  all_goals intro ac wi eI hB hA K hK
  clear hB hA
  ·go_simp;refine (f_whole (N:=N) (by have:=eI.size; have:=hE.size; omega) 1 (by omega) (by omega)).mono ?_;rintro e wj ⟨vj,rfl,hj,ej⟩;go_wp2_with fail;exact hK.out _ _ ej hj
  have o2:=oOf (hB 2 (by kernel_rfl)) rfl
  rotate_left
  obtain⟨_,s30,rfl⟩:=hA 1 (by kernel_rfl) 30 rfl;have cc0:=eI.cell a2
  rotate_left
  have o0:=oOf (hB 0 (by kernel_rfl)) rfl
  rotate_left
  obtain⟨_,s31,rfl⟩:=hA 2 (by kernel_rfl) 31 rfl;obtain⟨_,s32,rfl⟩:=hA 3 (by kernel_rfl) 32 rfl
  rotate_left
  obtain⟨_,s33,rfl⟩:=hA 4 (by kernel_rfl) 33 rfl;clear hB hA;have cc0:=eI.cell r0;have cc1:=eI.cell r1;have cc2:=eI.cell r2;have cc3:=eI.cell r3
  ·go_simp;exact hK.out _ _ (Ext.refl _) (hR8.ext eI)
  have o7:=oOf (hB 7 (by kernel_rfl)) rfl;clear hB hA;have cc0:=eI.cell t0;have cc1:=eI.cell t1;have cc2:=eI.cell t2;have cc3:=eI.cell t3
  ·go_simp;exact hK.out _ _ (Ext.refl _) (hR7.ext eI)
  obtain⟨x34,s34,j34⟩:=hA 5 (by kernel_rfl) 34 rfl;replace j34:Mn.p (Mn.rat N (p i)) x34 wi:=j34;obtain⟨x35,s35,j35⟩:=hA 6 (by kernel_rfl) 35 rfl;replace j35:Mn.p (Mn.rat N (sum n (fun s=>X i s*gS m n X p i s))) x35 wi:=j35;clear hB hA
  ·go_simp;refine (f_mul j34 j35 HZP.out HZS.out).mono ?_;rintro e wj ⟨vj,rfl,hj,ej⟩;go_wp2_with fail;exact hK.out _ _ ej hj
  obtain⟨x29,s29,j29⟩:=hA 0 (by kernel_rfl) 29 rfl;replace j29:Mn.p (Mn.rat N ((1:Int):Rat)) x29 wi:=j29;obtain⟨x36,s36,j36⟩:=hA 7 (by kernel_rfl) 36 rfl;replace j36:Mn.p (Mn.rat N (p i*sum n (fun s=>X i s*gS m n X p i s))) x36 wi:=j36;clear hB hA
  ·go_simp;refine (f_sub j29 j36 HZ1.out HZM.out).mono ?_;rintro e wj ⟨vj,rfl,hj,ej⟩;go_wp2_with fail;exact hK.out _ _ ej hj
  all_goals clear hB hA
  all_goals go_simp
  all_goals exact hK.out _ _ (Ext.refl _) rfl
 intro vals wz eZ hJ;have J37:Mn.p (Mn.rat N (rS m n X p i)) (vals 8) wz:=hJ 8 (by decide) (by decide);clear hJ;simp only [pr,Nat.reduceAdd]
 generalize vals 8=z37 at J37 ⊢
 replace hE:=hE.trans eZ;replace B4:=eZ.block B4;obtain⟨bz,Az,kz,cz,Az',kz',cz',rfl,hbz,gz1,gz2⟩:=RatV.parts J37;obtain⟨u0,u1,u2,u3,u4,u5,u6,u7⟩:=cells4 B4;refine stepL_late (i:=9) rfl (by kernel_rfl) (by kernel_rfl) (fun K hK=>?_);go_simp;refine hK.out _ _ ?_;clear hK K;try simp only [nr]
 refine stepL_done (by kernel_rfl) ?_ _;go_wp2;rw [hRf.out];exact fin_rat rfl rfl rfl hE B4 (Nat.le_refl _) hN gz1 gz2 hbz
theorem f_compare {N:Nat} {w:World} {v v':Value} {x y:Rat} (h:RatV N w v x) (h':RatV N w v' y) (hz:Sz x) (hz':Sz y) :
  Calls Tryz.prog 71 #[v,v'] w (RetV w (.int .i64 (x.num*y.den - y.num*x.den).sign)):=by
 obtain⟨s,hs⟩:=hid_eq (x.num*y.den - y.num*x.den).sign;rw [←hs.out];have hI:=h;have hI':=h';have hN:=h.le;obtain⟨m1,X1,i1,d1,X2,i2,d2,rfl,hm1,gx1,gx2⟩:=h.parts;obtain⟨m2,Y1,i3,d3,Y2,i4,d4,rfl,hm2,gy1,gy2⟩:=h'.parts;have HZ:=Lib.hid hz;have HZ':=Lib.hid hz';clear hz hz' h h' gx1 gx2 gy1 gy2;go_enter Tryz.func71,Tryz.ntmps71;go_wp2;refine boxes2 ?_;intro W hE hsz B0 B1;obtain⟨a0,a1,a2,a3,-⟩:=cells4 B0;obtain⟨b0,b1,b2,b3,-⟩:=cells4 B1
 go_cut [] (fun wx=>∃ n1 A1 k1 c1 A2 k2 c2 n2 A3 k3 c3 A4 k4 c4,Ext w wx∧w.heap.size+2≤wx.heap.size∧wx.heap[w.heap.size]?=some (.cells #[.bool n1,.slice A1 k1 c1,.bool false,.slice A2 k2 c2] 36 (0,0))∧wx.heap[w.heap.size+1]?=some (.cells #[.bool n2,.slice A3 k3 c3,.bool false,.slice A4 k4 c4] 36 (0,0))∧Hid (n1=decide (x.num < 0))∧Hid (n2=decide (y.num < 0))∧Gs N wx (.slice A1 k1 c1) (dg x.num.natAbs)∧Gs N wx (.slice A2 k2 c2) (dg x.den)∧Gs N wx (.slice A3 k3 c3) (dg y.num.natAbs)∧Gs N wx (.slice A4 k4 c4) (dg y.den)∧w.heap.size+2≤wx.heap.size)
 case first =>
  have eC:=(Ext.refl W).drew
  go_region_with (first
   | (go_at_call_of 114 X1; refine (f_value (by exact hI.ext (hE.trans eC)) HZ.out).mono ?_; intro e w1 hh; obtain⟨n1,A1,k1,c1,A2,k2,c2,rfl,hb1,g1,g2,e1⟩:=hh.form; replace eC:=eC.trans e1; have C0:=eC.block B0; have C1:=eC.block B1; obtain⟨p0,p1,p2,p3,p4,p5,p6,p7⟩:=cells4 C0; obtain⟨q0,q1,q2,q3,q4,q5,q6,q7⟩:=cells4 C1)
   | (go_at_call_of 114 Y1; refine (f_value (by exact hI'.ext (hE.trans eC)) HZ'.out).mono ?_; intro e w2 hh; obtain⟨n2,A3,k3,c3,A4,k4,c4,rfl,hb2,g3,g4,e2⟩:=hh.form; replace eC:=eC.trans e2; have C0:=eC.block B0; have C1:=eC.block B1; obtain⟨p0,p1,p2,p3,p4,p5,p6,p7⟩:=cells4 C0; obtain⟨q0,q1,q2,q3,q4,q5,q6,q7⟩:=cells4 C1))
  all_goals
   go_wp2_with fail
   go_meet
   obtain⟨w3,E3,D0,U⟩:=ex4 C0 (.bool n1) (.slice A1 k1 c1) (.bool false) (.slice A2 k2 c2);rw [E3];obtain⟨w4,E4,D1,U'⟩:=ex4 (U.blk C1 (by omega)) (.bool n2) (.slice A3 k3 c3) (.bool false) (.slice A4 k4 c4);rw [E4];have hT0:=NoU.mk C0 (by decide);have hT1:=NoU.mk (U.blk C1 (by omega)) (by decide);refine⟨n1,A1,k1,c1,A2,k2,c2,n2,A3,k3,c3,A4,k4,c4,U'.ext (U.ext (hE.trans eC) (Nat.le_refl _)) (by omega),?_,U'.blk D0 (by omega),D1,hb1,hb2,((g1.ext e2).upd U (by omega) hT0).upd U' (by omega) hT1,((g2.ext e2).upd U (by omega) hT0).upd U' (by omega) hT1,(g3.upd U (by omega) hT0).upd U' (by omega) hT1,(g4.upd U (by omega) hT0).upd U' (by omega) hT1,(by rw [U'.size,U.size]; have:=eC.size; omega)⟩;rw [U'.size,U.size]; have:=eC.size; omega
 case rest =>
  clear a0 a1 a2 a3 b0 b1 b2 b3 B0 B1 hE hsz hI hI';obtain⟨n1,A1,k1,c1,A2,k2,c2,n2,A3,k3,c3,A4,k4,c4,hE,-,B0,B1,hb1,hb2,g1,g2,g3,g4,hsz⟩:=hcut;obtain⟨a0,a1,a2,a3,-⟩:=cells4 B0;obtain⟨b0,b1,b2,b3,-⟩:=cells4 B1;have eC:=(Ext.refl wc).drew;go_wp2
  go_region_held3 (fun w'=>(w'.cell? ⟨w.heap.size,0,none⟩=some (.bool n1)∧w'.cell? ⟨w.heap.size,1,none⟩=some (.slice A1 k1 c1)∧w'.cell? ⟨w.heap.size,2,none⟩=some (.bool false)∧w'.cell? ⟨w.heap.size,3,none⟩=some (.slice A2 k2 c2))∧(w'.cell? ⟨w.heap.size+1,0,none⟩=some (.bool n2)∧w'.cell? ⟨w.heap.size+1,1,none⟩=some (.slice A3 k3 c3)∧w'.cell? ⟨w.heap.size+1,2,none⟩=some (.bool false)∧w'.cell? ⟨w.heap.size+1,3,none⟩=some (.slice A4 k4 c4)))
   (first | exact⟨⟨a0,a1,a2,a3⟩,⟨b0,b1,b2,b3⟩⟩ | exact⟨⟨eC.cell a0,eC.cell a1,eC.cell a2,eC.cell a3⟩,⟨eC.cell b0,eC.cell b1,eC.cell b2,eC.cell b3⟩⟩ | exact⟨⟨cell_far _ (cell_far _ (cell_far _ (cell_far _ (eC.cell a0) (by omega)) (by omega)) (by omega)) (by omega),cell_far _ (cell_far _ (cell_far _ (cell_far _ (eC.cell a1) (by omega)) (by omega)) (by omega)) (by omega),cell_far _ (cell_far _ (cell_far _ (cell_far _ (eC.cell a2) (by omega)) (by omega)) (by omega)) (by omega),cell_far _ (cell_far _ (cell_far _ (cell_far _ (eC.cell a3) (by omega)) (by omega)) (by omega)) (by omega)⟩,⟨cell_far _ (cell_far _ (cell_far _ (cell_far _ (eC.cell b0) (by omega)) (by omega)) (by omega)) (by omega),cell_far _ (cell_far _ (cell_far _ (cell_far _ (eC.cell b1) (by omega)) (by omega)) (by omega)) (by omega),cell_far _ (cell_far _ (cell_far _ (cell_far _ (eC.cell b2) (by omega)) (by omega)) (by omega)) (by omega),cell_far _ (cell_far _ (cell_far _ (cell_far _ (eC.cell b3) (by omega)) (by omega)) (by omega)) (by omega)⟩⟩)
   (first
    | (go_at_call_of 116 A1; refine (i_mul (by exact num_intV hb1 (g1.ext eC)) (by exact den_intV (g4.ext eC)) (by have:=HZ.out.1; omega) (by rw [Int.natAbs_natCast]; have:=HZ'.out.2; omega)).mono ?_; rintro e w5 ⟨v5,rfl,h5,e5⟩; replace eC:=eC.trans e5)
    | (go_at_call_of 116 A3; refine (i_mul (by exact num_intV hb2 (g3.ext eC)) (by exact den_intV (g2.ext eC)) (by have:=HZ'.out.1; omega) (by rw [Int.natAbs_natCast]; have:=HZ.out.2; omega)).mono ?_; rintro e w6 ⟨v6,rfl,h6,e6⟩; replace eC:=eC.trans e6)
    | (go_at_call 115; refine (i_cmp (by exact h5.ext e6) (by exact h6)).mono ?_; rintro e w7 ⟨rfl,e7⟩; rw [←hs.out]; replace eC:=eC.trans e7))
  go_wp2;go_ret;exact⟨rfl,hE.trans eC⟩
end Go.Proofs.YthkkknjcoidioaaGreat
