import Derived.Test.YthkkknjcoidioaaGreatWb32
import Derived.Test.YthkkknjcoidioaaGreatWb28
import Derived.Test.YthkkknjcoidioaaGreatWb36
import Derived.Test.YthkkknjcoidioaaGreatWb41
set_option linter.all false
set_option maxHeartbeats 8000000
namespace Go.Proofs.YthkkknjcoidioaaGreat
open Go.RowKit
def RowP (N B:Nat) (w:World) (g cap n:Nat) (x:Nat→Rat):Prop:=B≤g∧g < w.heap.size∧cap≤maxLen∧n≤cap∧RowB N w g cap n x
theorem RowP.ext {N B:Nat} {w w':World} {g cap n:Nat} {x:Nat→Rat} (h:RowP N B w g cap n x) (e:Ext w w'):RowP N B w' g cap n x:=by
 obtain⟨h1,h2,h3,h4,h5⟩:=h;exact⟨h1,Nat.lt_of_lt_of_le h2 e.size,h3,h4,h5.ext e⟩
def Mn.row (N B n:Nat) (x:Nat→Rat):Mn:=⟨fun v w=>∃ g cap,v=.slice (some ⟨g,0,none⟩) n cap∧RowP N B w g cap n x,fun e h=>by
  obtain⟨g,cap,h0,h1⟩:=h
  exact⟨g,cap,h0,h1.ext e⟩⟩
def Mn.rt (N B n:Nat) (x:Nat→Rat):Mn:=⟨fun v w=>∃ g cap,v=.tuple #[.slice (some ⟨g,0,none⟩) n cap,.int .i64 0]∧RowP N B w g cap n x,fun e h=>by
  obtain⟨g,cap,h0,h1⟩:=h
  exact⟨g,cap,h0,h1.ext e⟩⟩
def RetRowP (N B:Nat) (w:World) (n:Nat) (x:Nat→Rat) (e:Ending) (w':World):Prop:=∃ g cap,e=.returned (.slice (some ⟨g,0,none⟩) n cap)∧RowP N B w' g cap n x∧Ext w w'
def RetRowT (N B:Nat) (w:World) (n:Nat) (x:Nat→Rat) (e:Ending) (w':World):Prop:=∃ g cap,e=.returned (.tuple #[.slice (some ⟨g,0,none⟩) n cap,.int .i64 0])∧RowP N B w' g cap n x∧Ext w w'
theorem m_appliedB {N B lo hi lo' hi':Nat} {w:World} {v v':Value} {m n:Nat} {X:Nat→Nat→Rat} {x:Nat→Rat} (hB:B≤w.heap.size) (h:MtV N lo hi w v m n X) (h':LsV N lo' hi' w v' n x) (hm0:0 < m) (hm:m < 1000000)
  {k k':Nat} (hk:HtM m n k X) (hk':HtL n k' x) (hK:n*(k+k'+1)+1≤29000000000) :
  Calls Tryz.prog 129 #[v,v'] w (RetRowP N B w m (fun i=>sum n (fun c=>X i c*x c))):=by
 obtain⟨Rf,hRf⟩:=hid_eq (RetRowP N B w m (fun i=>sum n (fun c=>X i c*x c)));rw [←hRf.out];have hN:=h.le;obtain⟨A,c,rfl,hmc,hcm⟩:=h.form;obtain⟨A',c',rfl,hnc,hcm'⟩:=h'.form;have hI:=h;have hI':=h';have HK:=Lib.hid hk;have HK':=Lib.hid hk';have HB:=Lib.hid hK;clear h h' hk hk' hK hcm hcm';go_enter Tryz.func129,Tryz.ntmps129;go_wp2
 go_loopw [5,10] (fun v i wr=>∃ k:Nat,k≤m∧i=.int .i64 k∧Ext w wr∧∃ A c,v=.slice A k c∧Grow N w.heap.size wr (.slice A k c) k (fun i=>sum n (fun c=>X i c*x c))) (fun _ i _=>m - (intOf i).toNat)
 case atStart=>exact⟨0,Nat.zero_le _,rfl,Ext.refl w,_,_,rfl,Grow.nil hN (Nat.le_refl _) _⟩
 case round =>
  obtain⟨i,hi,rfl,hE,A3,c3,rfl,hG⟩:=hrel;have hsz:=hE.size
  by_cases hlt:i < m
  ·obtain⟨b,off,rfl,-,-,hx⟩:=(hI.ext hE).addr (by omega);obtain⟨A4,c4,p0,-,-,hl⟩:=hx i hlt;clear hx;go_wp2_with (go_at_call 167; refine Hid.out ?_);refine (m_dot hl (hI'.ext hE) (HK.out i hlt) HK'.out HB.out).mono ?_;intro e w1 hh;obtain⟨b1,A1,k1,c1,A2,k2,c2,rfl,hb1,g1,g2,e1⟩:=hh.form;replace hE:=hE.trans e1;replace hG:=hG.ext e1;have hsz1:=e1.size;clear p0 hl;go_wp2_with (at_builtin; refine Hid.out ?_);refine boxes1 ?_;intro w2 e2 hsz2 BX;replace hE:=hE.trans e2;replace hG:=hG.ext e2;refine wpList_append_rat rfl _ _ 24 Tryz.underlying24 rfl rfl hG rfl BX hb1 (g1.ext e2) (g2.ext e2) (by omega) ?_;rintro g cap' w3 hG3 ⟨g',hg',c5,-⟩ -;replace hE:=c5.ext hE (by omega);replace hG3:=hG3.congr (y:=fun i=>sum n (fun c=>X i c*x c)) (fun j _=>by unfold upd; split <;> simp_all);clear hG c5 BX e1 e2 g1 g2 hb1;go_wp2;go_roundw
   case rel=>exact⟨i+1,by omega,by go_num,hE,_,_,rfl,hG3⟩
   case measure=>simp [intOf]; omega
  ·obtain rfl:i=m:=by omega
   obtain⟨g,cap,hv,k1,k2,k3,k4,k5⟩:=hG.some hm0;injection hv with e8 _ e9
   subst e8 e9;go_wp2
   first | go_ret | skip
   rw [hRf.out];exact⟨g,c3,rfl,⟨by omega,k2,k3,k4,k5⟩,hE⟩
theorem m_applyB {N B lo hi lo' hi':Nat} {w:World} {v v':Value} {m n:Nat} {X:Nat→Nat→Rat} {x:Nat→Rat} (hB:B≤w.heap.size) (h:MtV N lo hi w v m n X) (h':LsV N lo' hi' w v' n x) (hm0:0 < m) (hm:m≤64) (hn0:0 < n) (hn:n≤64)
  {k k':Nat} (hk:HtM m n k X) (hk':HtL n k' x) (hK:n*(k+k'+1)+1≤29000000000) :
  Calls Tryz.prog 89 #[v,v'] w (RetRowT N B w m (fun i=>sum n (fun c=>X i c*x c))):=by
 obtain⟨Rf,hRf⟩:=hid_eq (RetRowT N B w m (fun i=>sum n (fun c=>X i c*x c)));rw [←hRf.out];have hN:=h.le;have h1:=Nat.le_mul_of_pos_left (k+k'+1) hn0;have HS:Hid (∀ i,i < m→∀ j,j < n→Sz (X i j)):=fun i hi j hj=>(hk i hi j hj).sz (by omega)
 have HS':Hid (∀ i,i < n→Sz (x i)):=fun i hi=>(hk' i hi).sz (by omega)
 obtain⟨A,c,rfl,hmc,hcm⟩:=h.form;obtain⟨A',c',rfl,hnc,hcm'⟩:=h'.form;have hI:=h;have hI':=h';have HK:=Lib.hid hk;have HK':=Lib.hid hk';have HB:=Lib.hid hK;clear h h' hk hk' hK hcm hcm' h1;go_enter Tryz.func89,Tryz.ntmps89;go_wp2_with (go_at_call 127; refine Hid.out ?_);refine boxesC1 ?_;intro W hE hsz B0;obtain⟨a0,-⟩:=cells1 B0;refine (m_list a0 (hI.ext hE) (hI'.ext hE) hm0 hm hn0 hn HS.out HS'.out).mono ?_;rintro e w1 ⟨rfl,e1⟩;replace hE:=hE.trans e1;replace a0:=e1.cell a0;go_wp2_with (go_at_call 129; refine Hid.out ?_);refine (m_appliedB (B:=B) (by have:=hE.size; omega) (hI.ext hE) (hI'.ext hE) hm0 (by omega) HK.out HK'.out HB.out).mono ?_;rintro e w2 ⟨g2,c2,rfl,h2,e2⟩;clear a0;go_wp2
 first | go_ret2 | skip
 rw [hRf.out];exact⟨g2,c2,rfl,h2,hE.trans e2⟩
set_option maxRecDepth 100000 in
theorem sn_External_bad {N lo hi:Nat} {w:World} {v:Value} {Z:Lin} (h:LinV N lo hi w v Z) (hf:few34 7 4 Z=true) (hc:code38 Z 0 (fun _=>raw 0)≠0) (z:Int) :
  Calls Tryz.prog 43 #[v,.int .i64 z] w (RetV w (.tuple #[.slice none 0 0,.int .i64 (code38 Z 0 (fun _=>raw 0))])):=by
 have hI:=h;have HC:=Lib.hid hc;have HF:=Lib.hid hf
 have hN:N≤w.heap.size:=by
  obtain⟨s1,s2,s3,-,g1,-⟩:=h;exact g1.le
 obtain⟨r,hr⟩:=hid_eq (code38 Z 0 (fun _=>raw 0));have hr0:(r == 0)=false:=by rw [hr.out]; simpa using hc
 have hr1:(r != 0)=true:=by simpa using hr0
 rw [←hr.out];obtain⟨A1,c1,A2,c2,A3,c3,rfl,-⟩:=h.parts;clear h hc hf;go_enter Tryz.func43,Tryz.ntmps43;go_upto_region 1 with (fail);refine boxes1 ?_;intro W hE hsz B0;obtain⟨a0,a1,a2,-⟩:=cells3 B0;go_wp2_with (go_at_call 60; refine Hid.out ?_);refine (sn_solve_bad (R:=fun _=>raw 0) (hI.ext hE) (lsr_nil (N:=N) (by have:=hE.size; omega) _) HF.out (fun i hi=>absurd hi (by omega)) HC.out).mono ?_;rintro e w1 ⟨rfl,e1⟩;unfold nilSlv;rw [←hr.out];replace hE:=hE.trans e1;clear a0 a1 a2;go_upto_region 2 with (fail);refine boxes1 ?_;intro w2 e2 hsz2 B6;replace hE:=hE.trans e2;go_wp2;go_ret2;exact⟨rfl,hE⟩
set_option maxRecDepth 100000 in
theorem sn_External_out {N lo hi lo2 hi2:Nat} {w:World} {v1 v2 v3:Value} {m n:Nat} {X:Nat→Nat→Rat} {y p:Nat→Rat} (h1:MtV N lo hi w v1 m n X) (h2:LsV N lo2 hi2 w v2 m y) (h3:LsV N lo2 hi2 w v3 m p) (d:Md m n X y p) (hr:Reg n (nmat X p m)) (z:Int) (hz:inB m z=false) :
  Calls Tryz.prog 43 #[.agg #[v1,v2,v3],.int .i64 z] w (RetV w (.tuple #[.slice none 0 0,.int .i64 2])):=by
 have HB:=Lib.hid hz;clear hz;have HD:=Lib.hid d;have HG:=Lib.hid hr;have hN:=h1.le;have hm0:=d.m0;have hm7:=d.m7;have hn0:=d.n0;have hn4:=d.n4;have hI1:=h1;have hI2:=h2;have hI3:=h3;obtain⟨A1,c1,rfl,hmc,hcm⟩:=h1.form;obtain⟨A2,c2,rfl,hmc2,hcm2⟩:=h2.form;obtain⟨A3,c3,rfl,hmc3,hcm3⟩:=h3.form;unfold maxLen at hcm hcm2 hcm3;clear h1 h2 h3 d hr;go_enter Tryz.func43,Tryz.ntmps43;go_upto_region 1 with (fail);refine boxes1 ?_;intro W hE hsz B0;obtain⟨a0,a1,a2,-⟩:=cells3 B0;go_wp2_with (go_at_call 60; refine Hid.out ?_);refine (sn_solve (hI1.ext hE) (hI2.ext hE) (hI3.ext hE) (lsr_nil (N:=N) (by have:=hE.size; omega) (fun _=>raw 0)) HD.out (fun i hi=>absurd hi (by omega)) rfl HG.out).mono ?_;rintro e w1 ⟨v,rfl,hS,e1⟩;replace hE:=hE.trans e1;replace B0:=e1.block B0;clear a0 a1 a2 e1;obtain⟨A5,c5,A6,c6,A7,c7,AQ,cq,AV,cv,gq,gl,hv6,-⟩:=id hS;subst hv6;go_upto_region 2 with (fail);refine boxes1 ?_;intro w2 e2 hsz2 B6;replace hS:=hS.ext e2;obtain⟨g6,hg6⟩:∃ g6,g6=w1.heap.size:=⟨_,rfl⟩
 rw [←hg6] at B6 ⊢;have hw1:w1.heap.size≤g6:=by omega
 replace hE:=hE.trans e2;replace B0:=e2.block B0;clear e2 hsz2 hg6;obtain⟨o0,o1,o2,o3,o4,o5,-⟩:=cells6 B6;go_wp2_with (go_at_call 61; refine Hid.out ?_);refine (sn_has hS hm7 _).mono ?_;rw [HB.out];rintro e w3 ⟨rfl,e3⟩;replace hE:=hE.trans e3;clear o0 o1 o2 o3 o4 o5;go_wp2;go_ret2;exact⟨rfl,hE⟩
def exS (c:Rat) (g:Nat→Rat) (j k:Nat):Rat:=if k < j then c*g k else g k
theorem exS_0 (c:Rat) (g:Nat→Rat) (k:Nat):exS c g 0 k=g k:=if_neg (by omega)
theorem exS_n (c:Rat) (g:Nat→Rat) {n k:Nat} (h:k < n):exS c g n k=c*g k:=if_pos h
theorem exS_j (c:Rat) (g:Nat→Rat) (k:Nat):exS c g k k=g k:=if_neg (by omega)
theorem exS_s (c:Rat) (g:Nat→Rat) (j k:Nat):upd (exS c g j) j (c*g j) k=exS c g (j+1) k:=by
 unfold upd exS
 by_cases h:k=j
 ·rw [if_pos h,if_pos (by omega),h]
 ·rw [if_neg h]
  by_cases h':k < j
  ·rw [if_pos h',if_pos (by omega)]
  ·rw [if_neg h',if_neg (by omega)]
set_option maxRecDepth 100000 in
theorem sn_External {N lo hi lo2 hi2:Nat} {w:World} {v1 v2 v3:Value} {m n:Nat} {X:Nat→Nat→Rat} {y p:Nat→Rat} (h1:MtV N lo hi w v1 m n X) (h2:LsV N lo2 hi2 w v2 m y) (h3:LsV N lo2 hi2 w v3 m p) (d:Md m n X y p) (hr:Reg n (nmat X p m)) (z:Int) (hz:inB m z=true) :
  Calls Tryz.prog 43 #[.agg #[v1,v2,v3],.int .i64 z] w (RetL2 N w n (fun k=>p z.toNat*gS m n X p z.toNat k)):=by
 obtain⟨i,hi'⟩:∃ i,i=z.toNat:=⟨_,rfl⟩
 have him:i < m:=by rw [hi']; exact (inB_true hz).2
 have hzi:z=(i:Int):=by rw [hi']; exact (inB_true hz).1
 have HB:=Lib.hid hz;rw [←hi'];subst hzi;obtain⟨Rf,hRf⟩:=hid_eq (RetL2 N w n (fun k=>p i*gS m n X p i k));rw [←hRf.out];clear hz hi';have HD:=Lib.hid d;have HG:=Lib.hid hr;have hN:=h1.le;have hm0:=d.m0;have hm7:=d.m7;have hn0:=d.n0;have hn4:=d.n4;have hI1:=h1;have hI2:=h2;have hI3:=h3;obtain⟨A1,c1,rfl,hmc,hcm⟩:=h1.form;obtain⟨A2,c2,rfl,hmc2,hcm2⟩:=h2.form;obtain⟨A3,c3,rfl,hmc3,hcm3⟩:=h3.form;unfold maxLen at hcm hcm2 hcm3;clear h1 h2 h3 d hr;go_enter Tryz.func43,Tryz.ntmps43;go_upto_region 1 with (fail);refine boxes1 ?_;intro W hE hsz B0;obtain⟨a0,a1,a2,-⟩:=cells3 B0;go_wp2_with (go_at_call 60; refine Hid.out ?_);refine (sn_solve (hI1.ext hE) (hI2.ext hE) (hI3.ext hE) (lsr_nil (N:=N) (by have:=hE.size; omega) (fun _=>raw 0)) HD.out (fun i hi=>absurd hi (by omega)) rfl HG.out).mono ?_;rintro e w1 ⟨v,rfl,hS,e1⟩;replace hE:=hE.trans e1;replace B0:=e1.block B0;clear a0 a1 a2 e1;obtain⟨A5,c5,A6,c6,A7,c7,AQ,cq,AV,cv,gq,gl,hv6,-⟩:=id hS;subst hv6;go_upto_region 2 with (fail);refine boxes1 ?_;intro w2 e2 hsz2 B6;replace hS:=hS.ext e2;obtain⟨g6,hg6⟩:∃ g6,g6=w1.heap.size:=⟨_,rfl⟩
 rw [←hg6] at B6 ⊢;have hw1:w1.heap.size≤g6:=by omega
 replace hE:=hE.trans e2;replace B0:=e2.block B0;clear e2 hsz2 hg6;obtain⟨o0,o1,o2,o3,o4,o5,-⟩:=cells6 B6;go_wp2_with (go_at_call 61; refine Hid.out ?_);refine (sn_has hS hm7 _).mono ?_;rw [HB.out];rintro e w3 ⟨rfl,e3⟩;replace B0:=e3.block B0;replace B6:=e3.block B6;replace hS:=hS.ext e3;replace hE:=hE.trans e3;clear o0 o1 o2 o3 o4 o5 e3;obtain⟨o0,o1,o2,o3,o4,o5,-⟩:=cells6 B6;obtain⟨a0,a1,a2,-⟩:=cells3 B0
 have hIq:MtV N 0 w3.heap.size w3 (.slice AQ n cq) n n (qS m n X p):=by
  obtain⟨A1',c1',A2',c2',A3',c3',AQ',cq',AV',cv',gq',gl',hv7,-,-,-,-,-,k4,-⟩:=hS;injection hv7 with hv8
  simp only [Array.mk.injEq,List.cons.injEq,Value.slice.injEq] at hv8;obtain⟨-,-,-,⟨rfl,-,rfl⟩,-⟩:=hv8;exact k4
 obtain⟨e1,off1,rfl,-,-,hx1⟩:=(hI1.ext hE).addr hm0;obtain⟨A0,c0,p0,hc0,hm0',hR0⟩:=hx1 i him;obtain⟨f3,off3,rfl,-,-,hx3⟩:=LsV.addr hI3 hm0;have HGH:=Lib.hid (HD.out.g_ht him);have HZP:=Lib.hid ((HD.out.hp i him).sz (by omega));have HZG:Hid (∀ k,k < n→Sz (gS m n X p i k)):=fun k hk=>(HGH.out k hk).sz (by omega)
 clear hx1 hS;unfold maxLen at hm0';go_upto_region 6 with (fail);refine regI [Mn.eq (.pointer (some ⟨g6,3,none⟩)),Mn.eq (.slice AQ n cq),Mn.eq (.pointer (some ⟨w.heap.size,0,none⟩)),Mn.eq (.slice (some ⟨e1,off1,none⟩) m c1),Mn.eq (.int .i64 (i:Int)),Mn.eq (.pointer (some ⟨e1,off1+i,none⟩)),Mn.eq (.slice A0 n c0),Mn.rt N w3.heap.size n (gS m n X p i),Mn.rt N w3.heap.size n (gS m n X p i),Mn.row N w3.heap.size n (gS m n X p i),Mn.eq (.int .i64 0),Mn.row N w3.heap.size n (gS m n X p i),Mn.eq (.int .i64 0)] [some 24,some 25,some 26,some 27,some 28,some 29,some 30,some 31,some 23,some 32,some 33,some 8,some 9] [] [true,true,true,true,true,true,true,true,true,true,true,true,true] 0 (by kernel_rfl) ?_ ?_
 ·show ∀ i,i < 13→_
  iterate 13 refine fs ?_ ?_
  ·exact fz
  all_goals intro hl
  all_goals clear hl
  all_goals refine stp rfl ?_
  all_goals intro ac wi eI hB hA K hK
  have o6:=oOf (hB 6 (by kernel_rfl)) rfl
  rotate_left
  obtain⟨_,s24,rfl⟩:=hA 0 (by kernel_rfl) 24 rfl;have cc0:=eI.cell o3
  rotate_left
  have o2:=oOf (hB 2 (by kernel_rfl)) rfl
  rotate_left
  obtain⟨_,s26,rfl⟩:=hA 2 (by kernel_rfl) 26 rfl;have cc0:=eI.cell a0
  rotate_left
  have o1:=oOf (hB 1 (by kernel_rfl)) rfl
  rotate_left
  obtain⟨_,s27,rfl⟩:=hA 3 (by kernel_rfl) 27 rfl;obtain⟨_,s28,rfl⟩:=hA 4 (by kernel_rfl) 28 rfl
  rotate_left
  obtain⟨_,s29,rfl⟩:=hA 5 (by kernel_rfl) 29 rfl;have cc0:=eI.cell p0
  rotate_left
  obtain⟨_,s25,rfl⟩:=hA 1 (by kernel_rfl) 25 rfl;obtain⟨_,s30,rfl⟩:=hA 6 (by kernel_rfl) 30 rfl;clear hB hA
  ·go_simp;refine (m_applyB (B:=w3.heap.size) eI.size (hIq.ext eI) (hR0.ext eI) hn0 (by omega) hn0 (by omega) HD.out.q_ht (HD.out.hX i him) HD.out.hK5).mono ?_;rintro e wj ⟨gj,cj,rfl,hj,ej⟩;go_wp2_with fail;exact hK.out _ _ ej ⟨gj,cj,rfl,hj⟩
  obtain⟨x31,s31,j31⟩:=hA 7 (by kernel_rfl) 31 rfl;replace j31:Mn.p (Mn.rt N w3.heap.size n (gS m n X p i)) x31 wi:=j31;clear hB hA
  ·go_simp;exact hK.out _ _ (Ext.refl _) j31
  obtain⟨x23,s23,j23⟩:=hA 8 (by kernel_rfl) 23 rfl;replace j23:Mn.p (Mn.rt N w3.heap.size n (gS m n X p i)) x23 wi:=j23;clear hB hA
  ·obtain⟨gj,cj,rfl,hj⟩:=j23;go_simp;exact hK.out _ _ (Ext.refl _) ⟨gj,cj,rfl,hj⟩
  obtain⟨x23,s23,j23⟩:=hA 8 (by kernel_rfl) 23 rfl;replace j23:Mn.p (Mn.rt N w3.heap.size n (gS m n X p i)) x23 wi:=j23;clear hB hA
  ·obtain⟨gj,cj,rfl,hj⟩:=j23;go_simp;exact hK.out _ _ (Ext.refl _) rfl
  obtain⟨x32,s32,j32⟩:=hA 9 (by kernel_rfl) 32 rfl;replace j32:Mn.p (Mn.row N w3.heap.size n (gS m n X p i)) x32 wi:=j32;clear hB hA
  ·go_simp;exact hK.out _ _ (Ext.refl _) j32
  obtain⟨_,s33,rfl⟩:=hA 10 (by kernel_rfl) 33 rfl
  rotate_left
  all_goals clear hB hA
  all_goals go_simp
  all_goals exact hK.out _ _ (Ext.refl _) rfl
 intro vals wz eZ hJ;have J8:Mn.p (Mn.row N w3.heap.size n (gS m n X p i)) (vals 11) wz:=hJ 11 (by decide) (by decide);clear hJ;simp only [pr,Nat.reduceAdd]
 generalize vals 11=z8 at J8 ⊢
 refine stepL_done (by kernel_rfl) ?_ _;obtain⟨gx,cx,rfl,hgx,hgl,hcx,hncx,hR⟩:∃ g cap,z8=.slice (some ⟨g,0,none⟩) n cap∧RowP N w3.heap.size wz g cap n (gS m n X p i):=J8;have hE2:=hE.trans eZ;have hs3:=hE.size;have hB0l:=blk_lt B0;replace B0:=eZ.block B0;unfold maxLen at hcx;obtain⟨hgx2,hNgx,hwgx⟩:w.heap.size < gx∧N≤gx∧w.heap.size≤gx:=⟨by omega,by omega,by omega⟩
 obtain⟨f,hf⟩:∃ f:Nat→Nat→Rat,f=exS (p i) (gS m n X p i):=⟨_,rfl⟩
 have HF0:Hid (∀ k,f 0 k=gS m n X p i k):=fun k=>by rw [hf]; exact exS_0 _ _ k
 have HFn:Hid (∀ k,k < n→f n k=p i*gS m n X p i k):=fun k hk=>by rw [hf]; exact exS_n _ _ hk
 have HFj:Hid (∀ j,f j j=gS m n X p i j):=fun k=>by rw [hf]; exact exS_j _ _ k
 have HFs:Hid (∀ j k,upd (f j) j (p i*gS m n X p i j) k=f (j+1) k):=fun j k=>by rw [hf]; exact exS_s _ _ j k
 clear hf;replace hR:RowB N wz gx cx n (f 0):=hR.congr fun k _=>(HF0.out k).symm
 clear HF0 hIq hR0 a0 a1 a2 o0 o1 o2 o3 o4 o5 p0 B6 hgx hgl hE hs3 hB0l;go_wp2
 go_loopw [36,10] (fun j _ wr=>∃ k:Nat,k≤n∧j=.int .i64 k∧Chg gx (gx+1) wz wr∧RowB N wr gx cx n (f k)) (fun j _ _=>n - (intOf j).toNat)
 case atStart=>exact⟨0,Nat.zero_le _,rfl,Chg.refl _ _ _,hR⟩
 case round =>
  clear hR;obtain⟨k,hk,rfl,hC,hR⟩:=hrel;have hsC:=hC.size;have B0r:=hC.blk B0 (.inl hgx2);have hEr:=hC.ext hE2 hwgx
  by_cases hlt:k < n
  ·obtain⟨a0,a1,a2,-⟩:=cells3 B0r;obtain⟨n1,A11,k11,c11,A12,k12,c12,q0,q1,q2,q3,hb1,g1,g2⟩:=((hx3 i him).ext hEr).open;obtain⟨zb,zA,zn,zc,zA2,zn2,zc2,t0,t1,t2,t3,t4,t5,t6,t7,hbz,gz1,gz2⟩:=hR.at_ hlt;have hRp:RatV N wr (.agg #[.bool n1,.slice A11 k11 c11,.bool false,.slice A12 k12 c12]) (p i):=RatV.mk hb1 g1 g2;have hRg:RatV N wr (.agg #[.bool zb,.slice zA zn zc,.bool false,.slice zA2 zn2 zc2]) (f k k):=RatV.mk hbz gz1 gz2;rw [HFj.out k] at hRg;have HZGk:=Lib.hid (HZG.out k hlt);clear hb1 g1 g2 hbz gz1 gz2;go_upto_region 10 with (fail);refine regI [Mn.eq (.slice (some ⟨gx,0,none⟩) n cx),Mn.eq (.int .i64 (k:Int)),Mn.eq (.pointer (some ⟨w.heap.size,2,none⟩)),Mn.eq (.slice (some ⟨f3,off3,none⟩) m c3),Mn.eq (.int .i64 (i:Int)),Mn.eq (.pointer (some ⟨f3,off3+i*4,none⟩)),Mn.rat N (p i),Mn.eq (.slice (some ⟨gx,0,none⟩) n cx),Mn.eq (.int .i64 (k:Int)),Mn.eq (.pointer (some ⟨gx,k*4,none⟩)),Mn.rat N (gS m n X p i k),Mn.rat N (p i*gS m n X p i k),Mn.eq (.pointer (some ⟨gx,k*4,none⟩)),Mn.any] [some 39,some 40,some 41,some 42,some 43,some 44,some 45,some 46,some 47,some 48,some 49,some 50,some 51,none] [13] [true,true,true,true,true,true,true,true,true,true,true,true,true,false] 1 (by kernel_rfl) ?_ ?_
   ·show ∀ i,i < 14→_
    iterate 14 refine fs ?_ ?_
    ·exact fz
    all_goals intro hl
    all_goals first | exact absurd hl (by decide) | skip
    all_goals clear hl
    all_goals refine stp rfl ?_
    all_goals intro ac wi eI hB hA K hK
    have o8:=oOf (hB 8 (by kernel_rfl)) rfl
    rotate_left
    have o10:=oOf (hB 10 (by kernel_rfl)) rfl
    rotate_left
    have o2:=oOf (hB 2 (by kernel_rfl)) rfl
    rotate_left
    obtain⟨_,s41,rfl⟩:=hA 2 (by kernel_rfl) 41 rfl;have cc0:=eI.cell a2
    rotate_left
    have o1:=oOf (hB 1 (by kernel_rfl)) rfl
    rotate_left
    obtain⟨_,s42,rfl⟩:=hA 3 (by kernel_rfl) 42 rfl;obtain⟨_,s43,rfl⟩:=hA 4 (by kernel_rfl) 43 rfl
    rotate_left
    obtain⟨_,s44,rfl⟩:=hA 5 (by kernel_rfl) 44 rfl;clear hB hA;have cc0:=eI.cell q0;have cc1:=eI.cell q1;have cc2:=eI.cell q2;have cc3:=eI.cell q3
    ·go_simp;exact hK.out _ _ (Ext.refl _) (hRp.ext eI)
    have o8:=oOf (hB 8 (by kernel_rfl)) rfl
    rotate_left
    have o10:=oOf (hB 10 (by kernel_rfl)) rfl
    rotate_left
    obtain⟨_,s46,rfl⟩:=hA 7 (by kernel_rfl) 46 rfl;obtain⟨_,s47,rfl⟩:=hA 8 (by kernel_rfl) 47 rfl
    rotate_left
    obtain⟨_,s48,rfl⟩:=hA 9 (by kernel_rfl) 48 rfl;clear hB hA;have cc0:=eI.cell t0;have cc1:=eI.cell t1;have cc2:=eI.cell t2;have cc3:=eI.cell t3
    ·go_simp;exact hK.out _ _ (Ext.refl _) (hRg.ext eI)
    obtain⟨x45,s45,j45⟩:=hA 6 (by kernel_rfl) 45 rfl;replace j45:Mn.p (Mn.rat N (p i)) x45 wi:=j45;obtain⟨x49,s49,j49⟩:=hA 10 (by kernel_rfl) 49 rfl;replace j49:Mn.p (Mn.rat N (gS m n X p i k)) x49 wi:=j49;clear hB hA
    ·go_simp;refine (f_mul j45 j49 HZP.out HZGk.out).mono ?_;rintro e wj ⟨vj,rfl,hj,ej⟩;go_wp2_with fail;exact hK.out _ _ ej hj
    obtain⟨_,s39,rfl⟩:=hA 0 (by kernel_rfl) 39 rfl;obtain⟨_,s40,rfl⟩:=hA 1 (by kernel_rfl) 40 rfl
    rotate_left
    all_goals clear hB hA
    all_goals go_simp
    all_goals exact hK.out _ _ (Ext.refl _) rfl
   intro vals wz eZ hJ;have J50:Mn.p (Mn.rat N (p i*gS m n X p i k)) (vals 11) wz:=hJ 11 (by decide) (by decide);have J51:vals 12=_:=hJ 12 (by decide) (by decide);clear hJ;simp only [pr,Nat.reduceAdd,J51];clear J51
   generalize vals 11=z50 at J50 ⊢
   obtain⟨bz,Az,kz,cz,Az',kz',cz',rfl,hbz,gz1,gz2⟩:=RatV.parts J50;have hRz:=hR.ext eZ;replace t0:=eZ.cell t0;replace t1:=eZ.cell t1;replace t2:=eZ.cell t2;replace t3:=eZ.cell t3;replace t4:=hRz.frozen (k*4);replace t5:=hRz.frozen (k*4+1);replace t6:=hRz.frozen (k*4+2);replace t7:=hRz.frozen (k*4+3);refine stepL_late (i:=13) rfl (by kernel_rfl) (by kernel_rfl) (fun K hK=>?_);go_simp;refine hK.out _ _ ?_;clear hK K;try simp only [nr]
   refine stepL_done (by kernel_rfl) ?_ _;obtain⟨w7,E7,C7,hs7,hr7⟩:=hRz.set (i:=k) (q:=p i*gS m n X p i k) (by omega) (by omega) hbz gz1 gz2;rw [E7];have hC7:=(hC.trans (eZ.chg _ _)).trans C7;replace hr7:RowB N w7 gx cx n (f (k+1)):=(hr7.less (n':=n) (by omega)).congr fun j _=>HFs.out k j
   clear E7 C7 hs7 hRz hR t0 t1 t2 t3 t4 t5 t6 t7 a0 a1 a2 q0 q1 q2 q3 hbz gz1 gz2;go_wp2;go_roundw
   case rel=>exact⟨k+1,by omega,by go_num,hC7,hr7⟩
   case measure=>simp [intOf]; omega
  ·obtain rfl:k=n:=by omega
   have hgs:=hR.lt;go_wp2
   first | go_ret2 | skip
   rw [hRf.out];exact⟨_,_,rfl,(hR.congr HFn.out).lsv hncx (by unfold maxLen; omega) hwgx hgs (Nat.le_refl _),hEr⟩
end Go.Proofs.YthkkknjcoidioaaGreat
