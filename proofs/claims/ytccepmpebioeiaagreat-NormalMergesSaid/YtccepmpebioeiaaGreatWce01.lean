import Derived.Test.YtccepmpebioeiaaGreatWb41
import Derived.Test.YtccepmpebioeiaaGreatWb44
set_option linter.all false
set_option maxHeartbeats 8000000
set_option maxRecDepth 100000
namespace Go.Proofs.YtccepmpebioeiaaGreat
open Go.RowKit
theorem r2_new {N:Nat} {w:World} {v v':Value} {x y:Int} (h:IntV N w v x) (h':IntV N w v' y) (hy:y≠0) (hL:ln x.natAbs≤10000000000) (hL':ln y.natAbs≤10000000000) :
  Calls Tryz.prog 100 #[v,v'] w (RetRC N w (Rat.divInt x y)):=by
 obtain⟨q,hq⟩:=hid_eq (Rat.divInt x y);rw [←hq.out];have hI:=h;have hI':=h';obtain⟨n1,A1,k1,c1,rfl,Hn1,hs,-⟩:=h.parts;obtain⟨n2,A2,k2,c2,rfl,Hn2,hs',-⟩:=h'.parts;have hN:=hs.le;have HY:=Lib.hid hy;have HLx:=Lib.hid hL;have HLy:=Lib.hid hL';obtain⟨sy,hsy⟩:=hid_eq y.sign
 have t1:(sy == 0)=false:=by
  have:sy≠0:=by rw [hsy.out]; intro e; exact hy (Int.sign_eq_zero_iff_zero.1 e)
  simpa using this
 clear hy hL hL' h h' hs hs';go_enter Tryz.func100,Tryz.ntmps100;go_wp2_with (go_at_call 90; refine Hid.out ?_);refine boxesC3 ?_;intro W hE hsz B0 B1 B2;refine (r1_sign (hI'.ext hE) (by have:=HLy.out; omega)).mono ?_;rintro e w1 ⟨rfl,e1⟩;rw [←hsy.out];replace hE:=hE.trans e1;replace B0:=e1.block B0;replace B1:=e1.block B1;replace B2:=e1.block B2;obtain⟨a0,a1,-⟩:=cells2 B0;obtain⟨b0,b1,-⟩:=cells2 B1;go_wp2_with (go_at_call 155; refine Hid.out ?_);refine (r2_reduced (hI.ext hE) (hI'.ext hE) HY.out HLx.out HLy.out).mono ?_;rw [←hq.out];intro e w2 hh;obtain⟨n3,A3,k3,c3,A4,k4,c4,rfl,hb3,g3,g4,e2⟩:=hh.form;replace hE:=hE.trans e2;replace B2:=e2.block B2;obtain⟨r0,r1,r2,r3,r4,r5,r6,r7⟩:=cells4 B2;go_wp2;obtain⟨w12,E12,F2,U⟩:=ex4 B2 (.bool n3) (.slice A3 k3 c3) (.bool false) (.slice A4 k4 c4);rw [E12];obtain⟨z0,z1,z2,z3,-⟩:=cells4 F2;refine bodyPost_ret (v:=.tuple #[.agg #[.bool n3,.slice A3 k3 c3,.bool false,.slice A4 k4 c4],.int .i64 0]) ?_ rfl ⟨_,rfl,RatV.mk hb3 (g3.upd U (by omega) (NoU.mk B2 (by decide))) (g4.upd U (by omega) (NoU.mk B2 (by decide))),U.ext hE (by omega)⟩;simp [results,Tryz.results100,z0,z1,z2,z3,go_sem]
theorem r2_divide {N:Nat} {w:World} {v v':Value} {x y:Rat} (h:RatV N w v x) (h':RatV N w v' y) (hz:Sz x) (hz':Sz y) (hy:y≠0) :
  Calls Tryz.prog 47 #[v,v'] w (RetRC N w (x / y)):=by
 obtain⟨q,hq⟩:=hid_eq (x / y);rw [←hq.out];have HQ:Hid (Rat.divInt (x.num*y.den) ((x.den:Int)*y.num)=q):=by rw [Hid,hq.out,div_divInt]
 have L1:Hid (ln (x.num*(y.den:Int)).natAbs≤2000000000):=by rw [Hid,Int.natAbs_mul,Int.natAbs_natCast]; exact ln_prod hz.1 hz'.2
 have L3:Hid (ln ((x.den:Int)*y.num).natAbs≤2000000000):=by rw [Hid,Int.natAbs_mul,Int.natAbs_natCast]; exact ln_prod hz.2 hz'.1
 have Y0:Hid (y.num≠0):=by unfold Hid; intro e; exact hy (Rat.num_eq_zero.1 e)
 have D0:Hid ((x.den:Int)*y.num≠0):=by have h8:=x.den_pos; exact Int.mul_ne_zero (by omega) Y0.out
 clear hq hy;have hI:=h;have hI':=h';have hN:=h.le;obtain⟨m1,X1,i1,d1,X2,i2,d2,rfl,hm1,gx1,gx2⟩:=h.parts;obtain⟨m2,Y1,i3,d3,Y2,i4,d4,rfl,hm2,gy1,gy2⟩:=h'.parts;have HZ:=Lib.hid hz;have HZ':=Lib.hid hz';clear hz hz' h h' gx1 gx2 gy1 gy2;go_enter Tryz.func47,Tryz.ntmps47;go_wp2_with (go_at_call 94; refine Hid.out ?_);refine boxesC3 ?_;intro W hE hsz B0 B1 B2;refine (r2_value (hI.ext hE) HZ.out).mono ?_;intro e w1 hh;obtain⟨n1,A1,k1,c1,A2,k2,c2,rfl,hb1,g1,g2,e1⟩:=hh.form;replace hE:=hE.trans e1;replace hsz:=Nat.le_trans hsz e1.size;replace B1:=e1.block B1;replace B2:=e1.block B2;obtain⟨b0,b1,b2,b3,-⟩:=cells4 B1;have hl1:w.heap.size+1 < w1.heap.size:=by omega
 go_wp2_with (go_at_call 94; refine Hid.out ?_);refine boxesC1 ?_;intro W2 e2 hsz2 C0;replace hE:=hE.trans e2;refine (r2_value (hI'.ext hE) HZ'.out).mono ?_;intro e w3 hh;obtain⟨n2,A3,k3,c3,A4,k4,c4,rfl,hb2,g3,g4,e3⟩:=hh.form;replace hE:=hE.trans e3;have hsz3:w1.heap.size+1≤w3.heap.size:=by have:=e3.size; omega
 go_upto_region 3 with (fail);refine boxes1 ?_;intro W4 e4 hsz4 C1;replace hE:=hE.trans e4;replace B2:=e4.block (e3.block (e2.block B2));replace C0:=e4.block (e3.block C0);replace g1:=((g1.ext e2).ext e3).ext e4;replace g2:=((g2.ext e2).ext e3).ext e4;replace g3:=g3.ext e4;replace g4:=g4.ext e4;clear b0 b1 b2 b3 B0 B1;obtain⟨a0,a1,a2,a3,-⟩:=cells4 C0;obtain⟨b0,b1,b2,b3,-⟩:=cells4 C1;have eC:=(Ext.refl W4).drew;refine region_late (fun w'=>w'.cell? ⟨w1.heap.size,0,none⟩=some (.bool n1)∧w'.cell? ⟨w1.heap.size,1,none⟩=some (.slice A1 k1 c1)∧w'.cell? ⟨w1.heap.size,2,none⟩=some (.bool false)∧w'.cell? ⟨w1.heap.size,3,none⟩=some (.slice A2 k2 c2)∧w'.cell? ⟨w3.heap.size,0,none⟩=some (.bool n2)∧w'.cell? ⟨w3.heap.size,1,none⟩=some (.slice A3 k3 c3)∧w'.cell? ⟨w3.heap.size,2,none⟩=some (.bool false)∧w'.cell? ⟨w3.heap.size,3,none⟩=some (.slice A4 k4 c4)) [13] (by kernel_rfl) (by exact⟨eC.cell a0,eC.cell a1,eC.cell a2,eC.cell a3,eC.cell b0,eC.cell b1,eC.cell b2,eC.cell b3⟩) (fun hHeld=>?_);refine sP 0 (h:=?_);try simp only [nr]
 refine sT 1 (h:=?_);try simp only [nr]
 refine sP 2 (h:=?_);try simp only [nr]
 refine sT 3 (h:=?_);try simp only [nr]
 refine sP 5 (h:=?_);try simp only [nr]
 refine sT 6 (h:=?_);try simp only [nr]
 refine sP 7 (h:=?_);try simp only [nr]
 refine sT 8 (h:=?_);try simp only [nr]
 refine stepL_only (i:=4) rfl (by kernel_rfl) (fun K hK=>?_);go_simp;refine (r1_mul (by exact num_intV hb1 (g1.ext eC)) (by exact den_intV (g4.ext eC)) (by have:=HZ.out.1; omega) (by rw [Int.natAbs_natCast]; have:=HZ'.out.2; omega)).mono ?_;rintro e w5 ⟨v5,rfl,h5,e5⟩;replace eC:=eC.trans e5;go_wp2_with fail;clear hHeld;refine hK.out _ _ (by exact⟨eC.cell a0,eC.cell a1,eC.cell a2,eC.cell a3,eC.cell b0,eC.cell b1,eC.cell b2,eC.cell b3⟩) fun hHeld=>?_
 clear hK K;try simp only [nr]
 refine stepL_only (i:=9) rfl (by kernel_rfl) (fun K hK=>?_);go_simp;refine (r1_mul (by exact den_intV (g2.ext eC)) (by exact num_intV hb2 (g3.ext eC)) (by rw [Int.natAbs_natCast]; have:=HZ.out.2; omega) (by have:=HZ'.out.1; omega)).mono ?_;rintro e w6 ⟨v6,rfl,h6,e6⟩;replace eC:=eC.trans e6;go_wp2_with fail;clear hHeld;refine hK.out _ _ (by exact⟨eC.cell a0,eC.cell a1,eC.cell a2,eC.cell a3,eC.cell b0,eC.cell b1,eC.cell b2,eC.cell b3⟩) fun hHeld=>?_
 clear hK K;try simp only [nr]
 refine stepL_only (i:=10) rfl (by kernel_rfl) (fun K hK=>?_);go_simp;refine (r2_new (by exact h5.ext e6) (by exact h6) D0.out (by have:=L1.out; omega) (by have:=L3.out; omega)).mono ?_;rw [HQ.out];intro e w10 hh;obtain⟨n10,A10,k10,c10,A11,k11,c11,rfl,hb10,h10,h11,e10⟩:=hh.form;replace eC:=eC.trans e10;have D2:=eC.block B2;obtain⟨r0,r1,r2,r3,r4,r5,r6,r7⟩:=cells4 D2;go_wp2_with fail;clear hHeld;refine hK.out _ _ (by exact⟨eC.cell a0,eC.cell a1,eC.cell a2,eC.cell a3,eC.cell b0,eC.cell b1,eC.cell b2,eC.cell b3⟩) fun hHeld=>?_
 clear hK K;try simp only [nr]
 refine sP 11 (h:=?_);try simp only [nr]
 refine sP 12 (h:=?_);try simp only [nr]
 refine stepL_late (i:=13) rfl (by kernel_rfl) (by kernel_rfl) (fun K hK=>?_);go_simp;refine hK.out _ _ ?_;clear hK K;try simp only [nr]
 refine sP 14 (h:=?_);try simp only [nr]
 refine stepL_done (by kernel_rfl) ?_ _;clear hHeld;go_wp2;obtain⟨w12,E12,F2,U⟩:=ex4 D2 (.bool n10) (.slice A10 k10 c10) (.bool false) (.slice A11 k11 c11);rw [E12];obtain⟨z0,z1,z2,z3,-⟩:=cells4 F2;refine bodyPost_ret (v:=.tuple #[.agg #[.bool n10,.slice A10 k10 c10,.bool false,.slice A11 k11 c11],.int .i64 0]) ?_ rfl ⟨_,rfl,RatV.mk hb10 (h10.upd U (by omega) (NoU.mk D2 (by decide))) (h11.upd U (by omega) (NoU.mk D2 (by decide))),U.ext (hE.trans eC) (by omega)⟩;simp [results,Tryz.results47,z0,z1,z2,z3,go_sem]
end Go.Proofs.YtccepmpebioeiaaGreat
namespace Go.Proofs.YtccepmpebioeiaaGreat
theorem merge_sum {m i j:Nat} (hij:i < j) (hj:j < m+1) {f g:Nat→Rat} {e:Rat} (hg:∀ k,k < m→g k=if k=i then f i+f j+e else f (skip j k)):sum m g=sum (m+1) f+e:=by
 rw [←sum_skip hj f];have hi:i < m:=by omega
 have h1:sum m g=sum m (fun k=>f (skip j k))+sum m (fun k=>dlt i k*(f j+e)):=by
  rw [←sum_add];refine sum_congr (fun k hk=>?_);rw [hg k hk]
  by_cases h:k=i
  ·subst h;rw [if_pos rfl,dlt_same];have:skip j k=k:=by unfold skip; rw [if_pos hij]
   rw [this]; grind
  ·rw [if_neg h,dlt_ne (fun e=>h e.symm)]; grind
 rw [h1,sum_dlt hi]; grind
section
variable {m n i j:Nat} {A:Nat→Nat→Rat} {P L P' L':Nat→Rat}
theorem merge_nm (hij:i < j) (hj:j < m+1) (hA:∀ c,c < n→A i c=A j c) (hP:∀ k,k < m→P' k=if k=i then P i+P j else P (skip j k)) {a b:Nat} (ha:a < n) (hb:b < n) :
  sum m (fun k=>P' k*A (skip j k) a*A (skip j k) b)=sum (m+1) (fun k=>P k*A k a*A k b):=by
 rw [merge_sum (f:=fun k=>P k*A k a*A k b) (e:=0) hij hj (fun k hk=>?_)]
 ·grind
 ·rw [hP k hk]
  by_cases h:k=i
  ·subst h;have:skip j k=k:=by unfold skip; rw [if_pos hij]
   rw [if_pos rfl,if_pos rfl,this,←hA a ha,←hA b hb]; grind
  ·rw [if_neg h,if_neg h]
theorem merge_nb (hij:i < j) (hj:j < m+1) (hA:∀ c,c < n→A i c=A j c) (hpos:0 < P i+P j) (hP:∀ k,k < m→P' k=if k=i then P i+P j else P (skip j k))
  (hL:∀ k,k < m→L' k=if k=i then (P i*L i+P j*L j) / (P i+P j) else L (skip j k)) {a:Nat} (ha:a < n) :
  sum m (fun k=>P' k*A (skip j k) a*L' k)=sum (m+1) (fun k=>P k*A k a*L k):=by
 rw [merge_sum (f:=fun k=>P k*A k a*L k) (e:=0) hij hj (fun k hk=>?_)]
 ·grind
 ·rw [hP k hk,hL k hk]
  by_cases h:k=i
  ·subst h;have:skip j k=k:=by unfold skip; rw [if_pos hij]
   rw [if_pos rfl,if_pos rfl,if_pos rfl,this,←hA a ha];have h0:P k+P j≠0:=fun e=>by rw [e] at hpos; exact absurd hpos Rat.lt_irrefl
   grind
  ·rw [if_neg h,if_neg h,if_neg h]
theorem merge_av (hA:∀ c,c < n→A i c=A j c) (x:Nat→Rat):av n A x i=av n A x j:=sum_congr (fun c hc=>by rw [hA c hc])
theorem merge_obj (hij:i < j) (hj:j < m+1) (hA:∀ c,c < n→A i c=A j c) (hpos:0 < P i+P j) (hP:∀ k,k < m→P' k=if k=i then P i+P j else P (skip j k))
  (hL:∀ k,k < m→L' k=if k=i then (P i*L i+P j*L j) / (P i+P j) else L (skip j k)) (x:Nat→Rat) :
  obj m P' (fun k=>av n (fun j' c=>A (skip j j') c) x k - L' k)=obj (m+1) P (fun k=>av n A x k - L k) - P i*P j / (P i+P j)*((L i - L j)*(L i - L j)):=by
 have h0:P i+P j≠0:=fun e=>by rw [e] at hpos; exact absurd hpos Rat.lt_irrefl
 have h1:=merge_sum (f:=fun k=>P k*((av n A x k - L k)*(av n A x k - L k))) (g:=fun k=>P' k*((av n (fun j' c=>A (skip j j') c) x k - L' k)*(av n (fun j' c=>A (skip j j') c) x k - L' k))) (e:=- (P i*P j / (P i+P j)*((L i - L j)*(L i - L j)))) hij hj (fun k hk=>?_)
 ·unfold obj; rw [h1]; grind
 ·show P' k*((av n A x (skip j k) - L' k)*(av n A x (skip j k) - L' k))=_
  rw [hP k hk,hL k hk]
  by_cases h:k=i
  ·subst h;have:skip j k=k:=by unfold skip; rw [if_pos hij]
   rw [if_pos rfl,if_pos rfl,if_pos rfl,this,←merge_av hA x]
   generalize av n A x k=v
   grind
  ·rw [if_neg h,if_neg h,if_neg h]
end
end Go.Proofs.YtccepmpebioeiaaGreat
namespace Go.Proofs.YtccepmpebioeiaaGreat
open Go.RowKit
structure FewLin (Z:Lin) (n:Nat) (X:Nat→Nat→Rat) (y p:Nat→Rat):Prop where
 m0:0 < Z.m
 m6:Z.m≤6
 n0:0 < n
 n4:n≤4
 L:∀ i,i < Z.m→Z.L i=n
 eA:∀ i,i < Z.m→∀ j,j < n→Z.A i j=raw (X i j)
 nl:Z.nl=Z.m
 el:∀ i,i < Z.m→Z.l i=raw (y i)
 np:Z.np=Z.m
 ep:∀ i,i < Z.m→Z.p i=raw (p i)
 pos:∀ i,i < Z.m→0 < p i
 hX:HtM Z.m n 17 X
 hy:HtL Z.m 17 y
 hp:HtL Z.m 17 p
theorem FewLin.mem {Z:Lin} {n:Nat} {X:Nat→Nat→Rat} {y p:Nat→Rat} (f:FewLin Z n X y p) {N lo hi:Nat} {w:World} {A1 A2 A3:Option Addr} {c1 c2 c3:Nat} (h1:MtR N lo hi w (.slice A1 Z.m c1) Z.m Z.L Z.A) (h2:LsR N lo hi w (.slice A2 Z.nl c2) Z.nl Z.l) (h3:LsR N lo hi w (.slice A3 Z.np c3) Z.np Z.p) :
  MtV N lo hi w (.slice A1 Z.m c1) Z.m n X∧LsV N lo hi w (.slice A2 Z.m c2) Z.m y∧LsV N lo hi w (.slice A3 Z.m c3) Z.m p:=by
 refine⟨MtR.congr h1 f.L (fun i hi j hj=>f.eA i hi j (by rw [←f.L i hi]; exact hj)),?_,?_⟩
 ·rw [f.nl] at h2; exact LsR.congr h2 f.el
 ·rw [f.np] at h3; exact LsR.congr h3 f.ep
theorem FewG.mem {r c:Nat} {Z:Lin} {n:Nat} {X:Nat→Nat→Rat} {y p:Nat→Rat} (f:FewG r c Z n X y p) {N lo hi:Nat} {w:World} {A1 A2 A3:Option Addr} {c1 c2 c3:Nat} (h1:MtR N lo hi w (.slice A1 Z.m c1) Z.m Z.L Z.A) (h2:LsR N lo hi w (.slice A2 Z.nl c2) Z.nl Z.l) (h3:LsR N lo hi w (.slice A3 Z.np c3) Z.np Z.p) :
  MtV N lo hi w (.slice A1 Z.m c1) Z.m n X∧LsV N lo hi w (.slice A2 Z.m c2) Z.m y∧LsV N lo hi w (.slice A3 Z.m c3) Z.m p:=by
 refine⟨MtR.congr h1 f.L (fun i hi j hj=>f.eA i hi j (by rw [←f.L i hi]; exact hj)),?_,?_⟩
 ·rw [f.nl] at h2; exact LsR.congr h2 f.el
 ·rw [f.np] at h3; exact LsR.congr h3 f.ep
def RetCutC (N:Nat) (w:World) (m n:Nat) (X:Nat→Nat→Rat) (y p:Nat→Rat) (e:Ending) (w':World):Prop:=∃ v,e=.returned (.tuple #[v,.int .i64 0])∧CutV N w m n X y p v w'∧Ext w w'
theorem f_compare {N:Nat} {w:World} {v v':Value} {x y:Rat} (h:RatV N w v x) (h':RatV N w v' y) (hz:Sz x) (hz':Sz y) :
  Calls Tryz.prog 97 #[v,v'] w (RetV w (.int .i64 (x.num*y.den - y.num*x.den).sign)):=by
 obtain⟨s,hs⟩:=hid_eq (x.num*y.den - y.num*x.den).sign;rw [←hs.out];have hI:=h;have hI':=h';have hN:=h.le;obtain⟨m1,X1,i1,d1,X2,i2,d2,rfl,hm1,gx1,gx2⟩:=h.parts;obtain⟨m2,Y1,i3,d3,Y2,i4,d4,rfl,hm2,gy1,gy2⟩:=h'.parts;have HZ:=Lib.hid hz;have HZ':=Lib.hid hz';clear hz hz' h h' gx1 gx2 gy1 gy2;go_enter Tryz.func97,Tryz.ntmps97;go_wp2;refine boxes2 ?_;intro W hE hsz B0 B1;obtain⟨a0,a1,a2,a3,-⟩:=cells4 B0;obtain⟨b0,b1,b2,b3,-⟩:=cells4 B1
 go_cut [] (fun wx=>∃ n1 A1 k1 c1 A2 k2 c2 n2 A3 k3 c3 A4 k4 c4,Ext w wx∧w.heap.size+2≤wx.heap.size∧wx.heap[w.heap.size]?=some (.cells #[.bool n1,.slice A1 k1 c1,.bool false,.slice A2 k2 c2] 44 (0,0))∧wx.heap[w.heap.size+1]?=some (.cells #[.bool n2,.slice A3 k3 c3,.bool false,.slice A4 k4 c4] 44 (0,0))∧Hid (n1=decide (x.num < 0))∧Hid (n2=decide (y.num < 0))∧Gs N wx (.slice A1 k1 c1) (dg x.num.natAbs)∧Gs N wx (.slice A2 k2 c2) (dg x.den)∧Gs N wx (.slice A3 k3 c3) (dg y.num.natAbs)∧Gs N wx (.slice A4 k4 c4) (dg y.den)∧w.heap.size+2≤wx.heap.size)
 case first =>
  have eC:=(Ext.refl W).drew
  go_region_with (first
   | (go_at_call_of 141 X1; refine (f_value (by exact hI.ext (hE.trans eC)) HZ.out).mono ?_; intro e w1 hh; obtain⟨n1,A1,k1,c1,A2,k2,c2,rfl,hb1,g1,g2,e1⟩:=hh.form; replace eC:=eC.trans e1; have C0:=eC.block B0; have C1:=eC.block B1; obtain⟨p0,p1,p2,p3,p4,p5,p6,p7⟩:=cells4 C0; obtain⟨q0,q1,q2,q3,q4,q5,q6,q7⟩:=cells4 C1)
   | (go_at_call_of 141 Y1; refine (f_value (by exact hI'.ext (hE.trans eC)) HZ'.out).mono ?_; intro e w2 hh; obtain⟨n2,A3,k3,c3,A4,k4,c4,rfl,hb2,g3,g4,e2⟩:=hh.form; replace eC:=eC.trans e2; have C0:=eC.block B0; have C1:=eC.block B1; obtain⟨p0,p1,p2,p3,p4,p5,p6,p7⟩:=cells4 C0; obtain⟨q0,q1,q2,q3,q4,q5,q6,q7⟩:=cells4 C1))
  all_goals
   go_wp2_with fail
   go_meet
   obtain⟨w3,E3,D0,U⟩:=ex4 C0 (.bool n1) (.slice A1 k1 c1) (.bool false) (.slice A2 k2 c2);rw [E3];obtain⟨w4,E4,D1,U'⟩:=ex4 (U.blk C1 (by omega)) (.bool n2) (.slice A3 k3 c3) (.bool false) (.slice A4 k4 c4);rw [E4];have hT0:=NoU.mk C0 (by decide);have hT1:=NoU.mk (U.blk C1 (by omega)) (by decide);refine⟨n1,A1,k1,c1,A2,k2,c2,n2,A3,k3,c3,A4,k4,c4,U'.ext (U.ext (hE.trans eC) (Nat.le_refl _)) (by omega),?_,U'.blk D0 (by omega),D1,hb1,hb2,((g1.ext e2).upd U (by omega) hT0).upd U' (by omega) hT1,((g2.ext e2).upd U (by omega) hT0).upd U' (by omega) hT1,(g3.upd U (by omega) hT0).upd U' (by omega) hT1,(g4.upd U (by omega) hT0).upd U' (by omega) hT1,(by rw [U'.size,U.size]; have:=eC.size; omega)⟩;rw [U'.size,U.size]; have:=eC.size; omega
 case rest =>
  clear a0 a1 a2 a3 b0 b1 b2 b3 B0 B1 hE hsz hI hI';obtain⟨n1,A1,k1,c1,A2,k2,c2,n2,A3,k3,c3,A4,k4,c4,hE,-,B0,B1,hb1,hb2,g1,g2,g3,g4,hsz⟩:=hcut;obtain⟨a0,a1,a2,a3,-⟩:=cells4 B0;obtain⟨b0,b1,b2,b3,-⟩:=cells4 B1;have eC:=(Ext.refl wc).drew;go_wp2
  go_region_held3 (fun w'=>(w'.cell? ⟨w.heap.size,0,none⟩=some (.bool n1)∧w'.cell? ⟨w.heap.size,1,none⟩=some (.slice A1 k1 c1)∧w'.cell? ⟨w.heap.size,2,none⟩=some (.bool false)∧w'.cell? ⟨w.heap.size,3,none⟩=some (.slice A2 k2 c2))∧(w'.cell? ⟨w.heap.size+1,0,none⟩=some (.bool n2)∧w'.cell? ⟨w.heap.size+1,1,none⟩=some (.slice A3 k3 c3)∧w'.cell? ⟨w.heap.size+1,2,none⟩=some (.bool false)∧w'.cell? ⟨w.heap.size+1,3,none⟩=some (.slice A4 k4 c4)))
   (first | exact⟨⟨a0,a1,a2,a3⟩,⟨b0,b1,b2,b3⟩⟩ | exact⟨⟨eC.cell a0,eC.cell a1,eC.cell a2,eC.cell a3⟩,⟨eC.cell b0,eC.cell b1,eC.cell b2,eC.cell b3⟩⟩ | exact⟨⟨cell_far _ (cell_far _ (cell_far _ (cell_far _ (eC.cell a0) (by omega)) (by omega)) (by omega)) (by omega),cell_far _ (cell_far _ (cell_far _ (cell_far _ (eC.cell a1) (by omega)) (by omega)) (by omega)) (by omega),cell_far _ (cell_far _ (cell_far _ (cell_far _ (eC.cell a2) (by omega)) (by omega)) (by omega)) (by omega),cell_far _ (cell_far _ (cell_far _ (cell_far _ (eC.cell a3) (by omega)) (by omega)) (by omega)) (by omega)⟩,⟨cell_far _ (cell_far _ (cell_far _ (cell_far _ (eC.cell b0) (by omega)) (by omega)) (by omega)) (by omega),cell_far _ (cell_far _ (cell_far _ (cell_far _ (eC.cell b1) (by omega)) (by omega)) (by omega)) (by omega),cell_far _ (cell_far _ (cell_far _ (cell_far _ (eC.cell b2) (by omega)) (by omega)) (by omega)) (by omega),cell_far _ (cell_far _ (cell_far _ (cell_far _ (eC.cell b3) (by omega)) (by omega)) (by omega)) (by omega)⟩⟩)
   (first
    | (go_at_call_of 144 A1; refine (i_mul (by exact num_intV hb1 (g1.ext eC)) (by exact den_intV (g4.ext eC)) (by have:=HZ.out.1; omega) (by rw [Int.natAbs_natCast]; have:=HZ'.out.2; omega)).mono ?_; rintro e w5 ⟨v5,rfl,h5,e5⟩; replace eC:=eC.trans e5)
    | (go_at_call_of 144 A3; refine (i_mul (by exact num_intV hb2 (g3.ext eC)) (by exact den_intV (g2.ext eC)) (by have:=HZ'.out.1; omega) (by rw [Int.natAbs_natCast]; have:=HZ.out.2; omega)).mono ?_; rintro e w6 ⟨v6,rfl,h6,e6⟩; replace eC:=eC.trans e6)
    | (go_at_call 154; refine (i_cmp (by exact h5.ext e6) (by exact h6)).mono ?_; rintro e w7 ⟨rfl,e7⟩; rw [←hs.out]; replace eC:=eC.trans e7))
  go_wp2;go_ret;exact⟨rfl,hE.trans eC⟩
theorem cross_sign {x y:Rat}:(x.num*y.den - y.num*x.den).sign=0↔x=y:=by
 rw [Int.sign_eq_zero_iff_zero]
 constructor
 ·intro h;have h1:x.num*(y.den:Int)=y.num*(x.den:Int):=by omega
  have h2:Rat.divInt x.num x.den=Rat.divInt y.num y.den:=(Rat.divInt_eq_divInt_iff (by have:=x.den_nz; omega) (by have:=y.den_nz; omega)).2 h1;rw [Rat.num_divInt_den,Rat.num_divInt_den] at h2;exact h2
 ·rintro rfl; omega
theorem n_merge1 {N:Nat} {w:World} {v v':Value} {x y:Rat} (h:RatV N w v x) (h':RatV N w v' y) (hz:Sz x) (hz':Sz y) :
  Calls Tryz.prog 96 #[v,v'] w (RetV w (.bool (decide (x=y)))):=by
 obtain⟨r,hr⟩:=hid_eq (decide (x=y));obtain⟨s,hs⟩:=hid_eq (x.num*y.den - y.num*x.den).sign
 have hrs:r=decide (s=0):=by
  rw [hr.out,hs.out]
  by_cases he:x=y
  ·rw [decide_eq_true he,decide_eq_true (cross_sign.2 he)]
  ·rw [decide_eq_false he,decide_eq_false (fun h=>he (cross_sign.1 h))]
 rw [←hr.out];have hI:=h;have hI':=h';have HZ:=Lib.hid hz;have HZ':=Lib.hid hz';have HR:=Lib.hid hrs;obtain⟨m1,X1,i1,d1,X2,i2,d2,rfl,hm1,gx1,gx2⟩:=h.parts;obtain⟨m2,Y1,i3,d3,Y2,i4,d4,rfl,hm2,gy1,gy2⟩:=h'.parts;clear hz hz' h h' gx1 gx2 gy1 gy2 hrs;go_enter Tryz.func96,Tryz.ntmps96;go_upto_region 1 with (fail);refine boxes2 ?_;intro W hE hsz B0 B1;obtain⟨a0,a1,a2,a3,-⟩:=cells4 B0;obtain⟨b0,b1,b2,b3,-⟩:=cells4 B1;go_wp2_with (go_at_call 97; refine Hid.out ?_);refine (f_compare (hI.ext hE) (hI'.ext hE) HZ.out HZ'.out).mono ?_;rintro e w3 ⟨rfl,e3⟩;rw [←hs.out];clear a0 a1 a2 a3 b0 b1 b2 b3
 by_cases h0:s=0
 ·have HR1:Hid (r=true):=by rw [Hid,HR.out,decide_eq_true h0]
  subst h0;go_wp2;go_ret;exact⟨ret_bool HR1.out.symm,hE.trans e3⟩
 ·have HR1:Hid (r=false):=by rw [Hid,HR.out,decide_eq_false h0]
  have hs0:(s == 0)=false:=by simpa using h0
  go_wp2;go_ret;exact⟨ret_bool HR1.out.symm,hE.trans e3⟩
theorem sl_equal {N lo hi lo' hi':Nat} {w:World} {v v':Value} {n:Nat} {x y:Nat→Rat} (h:LsV N lo hi w v n x) (h':LsV N lo' hi' w v' n y) (hz:∀ i,i < n→Sz (x i)∧Sz (y i)) :
  Calls Tryz.prog 95 #[v,v',.func (.func 96) #[] #[]] w (RetV w (.bool (allB n (fun i=>decide (x i=y i))))):=by
 obtain⟨r,hr⟩:=hid_eq (allB n (fun i=>decide (x i=y i)));rw [←hr.out];obtain⟨A,c,rfl,hnc,hcm⟩:=h.form;obtain⟨A',c',rfl,hnc',hcm'⟩:=h'.form;unfold maxLen at hcm hcm';have hI:=h;have hI':=h';have HZ:=Lib.hid hz;clear hz h h';go_enter Tryz.func95,Tryz.ntmps95;go_wp2
 go_loopw [17] (fun i wr=>∃ k:Nat,k≤n∧i=.int .i64 k∧Ext w wr∧Hid (∀ j,j < k→decide (x j=y j)=true)) (fun i _=>n - (intOf i).toNat)
 case atStart=>exact⟨0,Nat.zero_le _,rfl,Ext.refl w,fun j hj=>absurd hj (by omega)⟩
 case round =>
  obtain⟨k,hk,rfl,hE,HA⟩:=hrel
  by_cases hlt:k < n
  ·obtain⟨b,off,rfl,-,-,hx⟩:=(hI.ext hE).addr (by omega);obtain⟨b',off',rfl,-,-,hx'⟩:=(hI'.ext hE).addr (by omega);obtain⟨m1,A1,n1,c1,A2,n2,c2,p0,p1,p2,p3,hb1,g1,g2⟩:=(hx k hlt).open;obtain⟨m2,A3,n3,c3,A4,n4,c4,q0,q1,q2,q3,hb2,g3,g4⟩:=(hx' k hlt).open;obtain⟨o,ho⟩:=hid_eq (decide (x k=y k));clear hx hx';go_upto_region 6 with (fail);refine boxes1 ?_;intro w5 e5 hsz5 B5;replace q0:=e5.cell q0;replace q1:=e5.cell q1;replace q2:=e5.cell q2;replace q3:=e5.cell q3;clear p0 p1 p2 p3;go_upto_region 7 with (fail);refine boxes1 ?_;intro w6 e6 hsz6 B6;have e56:=e5.trans e6;replace B5:=e6.block B5;clear q0 q1 q2 q3;obtain⟨a0,a1,a2,a3,-⟩:=cells4 B5;obtain⟨d0,d1,d2,d3,-⟩:=cells4 B6;go_wp2_with (go_at_call 96; refine Hid.out ?_);refine (n_merge1 (x:=x k) (y:=y k) (RatV.mk hb1 (g1.ext e56) (g2.ext e56)) (RatV.mk hb2 (g3.ext e56) (g4.ext e56)) (HZ.out k hlt).1 (HZ.out k hlt).2).mono ?_;rw [←ho.out];rintro e w7 ⟨rfl,e7⟩;have hE7:=(hE.trans e56).trans e7;have HO:Hid (decide (x k=y k)=o):=ho.out.symm;clear a0 a1 a2 a3 d0 d1 d2 d3 B5 B6 e5 e6 e56 e7 ho;cases ho':o with
   | true =>
    subst ho';go_wp2;go_roundw
    case rel=>exact⟨k+1,by omega,by go_num,hE7,all_succ (p:=fun j=>decide (x j=y j)=true) HA.out HO.out⟩
    case measure=>simp [intOf]; omega
   | false =>
    subst ho';have HF:Hid (r=false):=by rw [Hid,hr.out]; exact allB_false hlt HO.out
    go_wp2;go_ret;exact⟨ret_bool HF.out.symm,hE7⟩
  ·have HF:Hid (r=true):=by rw [Hid,hr.out]; exact allB_true.2 (fun j hj=>HA.out j (by omega))
   go_wp2;go_ret;exact⟨ret_bool HF.out.symm,hE⟩
theorem n_Merge_bad {N lo hi:Nat} {w:World} {v:Value} {Z:Lin} (h:LinV N lo hi w v Z) (hs:LinSz Z) (hp:∀ i,i < Z.np→RawS (Z.p i)) (hc:codeOf Z≠0) (iz jz:Int) :
  Calls Tryz.prog 45 #[v,.int .i64 iz,.int .i64 jz] w (RetV w (.tuple #[nilLin,.int .i64 (codeOf Z)])):=by
 have HS:=Lib.hid hs;have HP:=Lib.hid hp;obtain⟨r,hr⟩:=hid_eq (codeOf Z);have hr0:(r == 0)=false:=by rw [hr.out]; simpa using hc
 have hr1:(r != 0)=true:=by simpa using hr0
 rw [←hr.out];have hI:=h;obtain⟨A1,c1,A2,c2,A3,c3,rfl,h1,h2,h3,hm,hnl,hnp⟩:=h.parts;clear h h1 h2 h3 hc hs hp;go_enter Tryz.func45,Tryz.ntmps45;go_upto_region 1 with (fail);refine boxes2 ?_;intro W hE hsz B0 B4;obtain⟨a0,a1,a2,-⟩:=cells3 B0;go_wp2_with (go_at_call 58; refine Hid.out ?_);refine (n_check (hI.ext hE) HS.out HP.out).mono ?_;rintro e w1 ⟨rfl,e1⟩;rw [←hr.out];replace hE:=hE.trans e1;replace B4:=e1.block B4;clear a0 a1 a2 e1;obtain⟨u0,u1,u2,u3,u4,u5⟩:=cells3 B4;go_wp2;obtain⟨w10,E10,D10,U10⟩:=ex3 B4 (.slice none 0 0) (.slice none 0 0) (.slice none 0 0);rw [E10];have C10:=U10.chg (NoU.mk B4 (by decide));have hE10:=C10.ext hE (by omega);obtain⟨x0,x1,x2,-⟩:=cells3 D10;refine bodyPost_ret (v:=.tuple #[nilLin,.int .i64 r]) ?_ rfl ?_
 ·simp [results,x0,x1,x2,go_sem,nilLin]
 ·exact⟨rfl,hE10⟩
theorem n_Merge_out {N lo hi lo2 hi2:Nat} {w:World} {v1 v2 v3:Value} {m n:Nat} {X:Nat→Nat→Rat} {y p:Nat→Rat} (h1:MtV N lo hi w v1 m n X) (h2:LsV N lo2 hi2 w v2 m y) (h3:LsV N lo2 hi2 w v3 m p) (hm0:0 < m) (hm:m≤64) (hn0:0 < n) (hn:n≤24) (hp:∀ i,i < m→0 < p i)
  {k:Nat} (hkx:HtM m n k X) (hky:HtL m k y) (hkp:HtL m k p) (hK:k≤29000000000) (iz jz:Int) (hz:iz < 0∨(m:Int)≤iz∨jz < 0∨(m:Int)≤jz∨iz=jz) :
  Calls Tryz.prog 45 #[.agg #[v1,v2,v3],.int .i64 iz,.int .i64 jz] w (RetV w (.tuple #[nilLin,.int .i64 2])):=by
 have HZ:=Lib.hid hz;clear hz;have HX:=Lib.hid hkx;have HY:=Lib.hid hky;have HP:=Lib.hid hkp
 have HCK:Hid (∀ w1,Ext w w1→Calls Tryz.prog 58 #[.agg #[v1,v2,v3]] w1 (RetV w1 (.int .i64 0))):=fun w1 e1=>by
  have h9:=n_check (linV_of (h1.ext e1) (h2.ext e1) (h3.ext e1)) (linSz_of hkx hky hkp (by omega)) (fun i hi=>(hkp i hi).sz (by omega));rw [codeOf_lin hm0 hm hn0 hn hp] at h9;exact h9
 have hN:=h1.le;obtain⟨A1,c1,rfl,hmc,hcm⟩:=h1.form;obtain⟨A2,c2,rfl,hmc2,hcm2⟩:=h2.form;obtain⟨A3,c3,rfl,hmc3,hcm3⟩:=h3.form;have hI1:=h1;have hI2:=h2;have hI3:=h3;clear h1 h2 h3 hkx hky hkp hp;go_enter Tryz.func45,Tryz.ntmps45;go_upto_region 1 with (fail);refine boxes2 ?_;intro W hE hsz B0 B4;obtain⟨a0,a1,a2,-⟩:=cells3 B0;go_wp2_with (go_at_call 58; refine Hid.out ?_);refine (HCK.out _ hE).mono ?_;rintro e w1 ⟨rfl,e1⟩;replace hE:=hE.trans e1;replace B4:=e1.block B4;replace B0:=e1.block B0;clear a0 a1 a2 e1 HCK;obtain⟨a0,a1,a2,-⟩:=cells3 B0
 by_cases k1:iz < 0
 ·have t1:decide (iz < 0)=true:=by simpa using k1
  obtain⟨u0,u1,u2,u3,u4,u5⟩:=cells3 B4;go_wp2;obtain⟨w10,E10,D10,U10⟩:=ex3 B4 (.slice none 0 0) (.slice none 0 0) (.slice none 0 0);rw [E10];have C10:=U10.chg (NoU.mk B4 (by decide));have hE10:=C10.ext hE (by omega);obtain⟨x0,x1,x2,-⟩:=cells3 D10;refine bodyPost_ret (v:=.tuple #[nilLin,.int .i64 2]) ?_ rfl ?_
  ·simp [results,x0,x1,x2,go_sem,nilLin]
  ·exact⟨rfl,hE10⟩
 have t1:decide (iz < 0)=false:=by simpa using k1
 by_cases k2:(m:Int)≤iz
 ·have t2:decide ((m:Int)≤iz)=true:=by simpa using k2
  obtain⟨u0,u1,u2,u3,u4,u5⟩:=cells3 B4;go_wp2;obtain⟨w10,E10,D10,U10⟩:=ex3 B4 (.slice none 0 0) (.slice none 0 0) (.slice none 0 0);rw [E10];have C10:=U10.chg (NoU.mk B4 (by decide));have hE10:=C10.ext hE (by omega);obtain⟨x0,x1,x2,-⟩:=cells3 D10;refine bodyPost_ret (v:=.tuple #[nilLin,.int .i64 2]) ?_ rfl ?_
  ·simp [results,x0,x1,x2,go_sem,nilLin]
  ·exact⟨rfl,hE10⟩
 have t2:decide ((m:Int)≤iz)=false:=by simpa using k2
 by_cases k3:jz < 0
 ·have t3:decide (jz < 0)=true:=by simpa using k3
  obtain⟨u0,u1,u2,u3,u4,u5⟩:=cells3 B4;go_wp2;obtain⟨w10,E10,D10,U10⟩:=ex3 B4 (.slice none 0 0) (.slice none 0 0) (.slice none 0 0);rw [E10];have C10:=U10.chg (NoU.mk B4 (by decide));have hE10:=C10.ext hE (by omega);obtain⟨x0,x1,x2,-⟩:=cells3 D10;refine bodyPost_ret (v:=.tuple #[nilLin,.int .i64 2]) ?_ rfl ?_
  ·simp [results,x0,x1,x2,go_sem,nilLin]
  ·exact⟨rfl,hE10⟩
 have t3:decide (jz < 0)=false:=by simpa using k3
 by_cases k4:(m:Int)≤jz
 ·have t4:decide ((m:Int)≤jz)=true:=by simpa using k4
  obtain⟨u0,u1,u2,u3,u4,u5⟩:=cells3 B4;go_wp2;obtain⟨w10,E10,D10,U10⟩:=ex3 B4 (.slice none 0 0) (.slice none 0 0) (.slice none 0 0);rw [E10];have C10:=U10.chg (NoU.mk B4 (by decide));have hE10:=C10.ext hE (by omega);obtain⟨x0,x1,x2,-⟩:=cells3 D10;refine bodyPost_ret (v:=.tuple #[nilLin,.int .i64 2]) ?_ rfl ?_
  ·simp [results,x0,x1,x2,go_sem,nilLin]
  ·exact⟨rfl,hE10⟩
 have t4:decide ((m:Int)≤jz)=false:=by simpa using k4
 have k5:iz=jz:=by
  rcases HZ.out with h | h | h | h | h
  ·exact absurd h k1
  ·exact absurd h k2
  ·exact absurd h k3
  ·exact absurd h k4
  ·exact h
 subst k5;obtain⟨u0,u1,u2,u3,u4,u5⟩:=cells3 B4;go_wp2;obtain⟨w10,E10,D10,U10⟩:=ex3 B4 (.slice none 0 0) (.slice none 0 0) (.slice none 0 0);rw [E10];have C10:=U10.chg (NoU.mk B4 (by decide));have hE10:=C10.ext hE (by omega);obtain⟨x0,x1,x2,-⟩:=cells3 D10;refine bodyPost_ret (v:=.tuple #[nilLin,.int .i64 2]) ?_ rfl ?_
 ·simp [results,x0,x1,x2,go_sem,nilLin]
 ·exact⟨rfl,hE10⟩
theorem n_Merge_state {N lo hi lo2 hi2:Nat} {w:World} {v1 v2 v3:Value} {m n:Nat} {X:Nat→Nat→Rat} {y p:Nat→Rat} (h1:MtV N lo hi w v1 m n X) (h2:LsV N lo2 hi2 w v2 m y) (h3:LsV N lo2 hi2 w v3 m p) (hm0:0 < m) (hm:m≤64) (hn0:0 < n) (hn:n≤24) (hp:∀ i,i < m→0 < p i)
  {k:Nat} (hkx:HtM m n k X) (hky:HtL m k y) (hkp:HtL m k p) (hK:k≤29000000000) {a b:Nat} (hab:a < b) (hb:b < m) {iz jz:Int} (hz:(iz=(a:Int)∧jz=(b:Int))∨(iz=(b:Int)∧jz=(a:Int))) (hr:allB n (fun c=>decide (X a c=X b c))=false) :
  Calls Tryz.prog 45 #[.agg #[v1,v2,v3],.int .i64 iz,.int .i64 jz] w (RetV w (.tuple #[nilLin,.int .i64 11])):=by
 have HRR:=Lib.hid hr;have HSX:Hid (∀ i,i < m→∀ c,c < n→Sz (X i c)):=fun i hi c hc=>(hkx i hi c hc).sz (by omega)
 have e1:((a:Int) == (b:Int))=false:=beq_eq_false_iff_ne.2 (by omega);have e2:((b:Int) == (a:Int))=false:=beq_eq_false_iff_ne.2 (by omega);have g1:min (a:Int) (b:Int)=(a:Int):=by omega
 have g2:max (a:Int) (b:Int)=(b:Int):=by omega
 have g3:min (b:Int) (a:Int)=(a:Int):=by omega
 have g4:max (b:Int) (a:Int)=(b:Int):=by omega
 clear hr
 rcases hz with ⟨rfl,rfl⟩ | ⟨rfl,rfl⟩
 all_goals
  have HX:=Lib.hid hkx;have HY:=Lib.hid hky;have HP:=Lib.hid hkp
  have HCK:Hid (∀ w1,Ext w w1→Calls Tryz.prog 58 #[.agg #[v1,v2,v3]] w1 (RetV w1 (.int .i64 0))):=fun w1 e1=>by
   have h9:=n_check (linV_of (h1.ext e1) (h2.ext e1) (h3.ext e1)) (linSz_of hkx hky hkp (by omega)) (fun i hi=>(hkp i hi).sz (by omega));rw [codeOf_lin hm0 hm hn0 hn hp] at h9;exact h9
  have hN:=h1.le;obtain⟨A1,c1,rfl,hmc,hcm⟩:=h1.form;obtain⟨A2,c2,rfl,hmc2,hcm2⟩:=h2.form;obtain⟨A3,c3,rfl,hmc3,hcm3⟩:=h3.form;have hI1:=h1;have hI2:=h2;have hI3:=h3;clear h1 h2 h3 hkx hky hkp hp;go_enter Tryz.func45,Tryz.ntmps45;go_upto_region 1 with (fail);refine boxes2 ?_;intro W hE hsz B0 B4;obtain⟨a0,a1,a2,-⟩:=cells3 B0;go_wp2_with (go_at_call 58; refine Hid.out ?_);refine (HCK.out _ hE).mono ?_;rintro e w1 ⟨rfl,e1⟩;replace hE:=hE.trans e1;replace B4:=e1.block B4;replace B0:=e1.block B0;clear a0 a1 a2 e1 HCK;obtain⟨a0,a1,a2,-⟩:=cells3 B0;obtain⟨b1,off1,rfl,-,-,hx1⟩:=(hI1.ext hE).addr hm0;obtain⟨Aa,ca,p0,-,-,hra⟩:=hx1 a (by omega);obtain⟨Ab,cb,q0,-,-,hrb⟩:=hx1 b (by omega);clear hx1;obtain⟨wq,hwq⟩:∃ wq,wq=w1:=⟨_,rfl⟩
  subst hwq;go_upto_region 7 with (fail);refine regI [Mn.eq (.pointer (some ⟨w.heap.size,0,none⟩)),Mn.eq (.slice (some ⟨b1,off1,none⟩) m c1),Mn.eq (.int .i64 (a:Int)),Mn.eq (.pointer (some ⟨b1,off1+a,none⟩)),Mn.eq (.slice Aa n ca),Mn.eq (.pointer (some ⟨w.heap.size,0,none⟩)),Mn.eq (.slice (some ⟨b1,off1,none⟩) m c1),Mn.eq (.int .i64 (b:Int)),Mn.eq (.pointer (some ⟨b1,off1+b,none⟩)),Mn.eq (.slice Ab n cb),Mn.eq (.bool false),Mn.eq (.bool (!false))] [some 50,some 51,some 52,some 53,some 54,some 55,some 56,some 57,some 58,some 59,some 60,some 61] [] [true,true,true,true,true,true,true,true,true,true,true,true] 0 (by kernel_rfl) ?_ ?_
  ·show ∀ i,i < 12→_
   iterate 12 refine fs ?_ ?_
   ·exact fz
   all_goals intro hl
   all_goals clear hl
   all_goals refine stp rfl ?_
   all_goals intro ac wi eI hB hA K hK
   have o3:=oOf (hB 3 (by kernel_rfl)) rfl
   rotate_left
   obtain⟨x50,s50,j50⟩:=hA 0 (by kernel_rfl) 50 rfl;obtain rfl:x50=(.pointer (some ⟨w.heap.size,0,none⟩)):=j50;have cc0:=eI.cell a0;have cc1:=eI.cell p0;have cc2:=eI.cell q0
   rotate_left
   have o1:=oOf (hB 1 (by kernel_rfl)) rfl
   rotate_left
   obtain⟨x51,s51,j51⟩:=hA 1 (by kernel_rfl) 51 rfl;obtain rfl:x51=(.slice (some ⟨b1,off1,none⟩) m c1):=j51;obtain⟨x52,s52,j52⟩:=hA 2 (by kernel_rfl) 52 rfl;obtain rfl:x52=(.int .i64 (a:Int)):=j52
   rotate_left
   obtain⟨x53,s53,j53⟩:=hA 3 (by kernel_rfl) 53 rfl;obtain rfl:x53=(.pointer (some ⟨b1,off1+a,none⟩)):=j53;have cc0:=eI.cell a0;have cc1:=eI.cell p0;have cc2:=eI.cell q0
   rotate_left
   have o3:=oOf (hB 3 (by kernel_rfl)) rfl
   rotate_left
   obtain⟨x55,s55,j55⟩:=hA 5 (by kernel_rfl) 55 rfl;obtain rfl:x55=(.pointer (some ⟨w.heap.size,0,none⟩)):=j55;have cc0:=eI.cell a0;have cc1:=eI.cell p0;have cc2:=eI.cell q0
   rotate_left
   have o2:=oOf (hB 2 (by kernel_rfl)) rfl
   rotate_left
   obtain⟨x56,s56,j56⟩:=hA 6 (by kernel_rfl) 56 rfl;obtain rfl:x56=(.slice (some ⟨b1,off1,none⟩) m c1):=j56;obtain⟨x57,s57,j57⟩:=hA 7 (by kernel_rfl) 57 rfl;obtain rfl:x57=(.int .i64 (b:Int)):=j57
   rotate_left
   obtain⟨x58,s58,j58⟩:=hA 8 (by kernel_rfl) 58 rfl;obtain rfl:x58=(.pointer (some ⟨b1,off1+b,none⟩)):=j58;have cc0:=eI.cell a0;have cc1:=eI.cell p0;have cc2:=eI.cell q0
   rotate_left
   obtain⟨x54,s54,j54⟩:=hA 4 (by kernel_rfl) 54 rfl;obtain rfl:x54=(.slice Aa n ca):=j54;obtain⟨x59,s59,j59⟩:=hA 9 (by kernel_rfl) 59 rfl;obtain rfl:x59=(.slice Ab n cb):=j59;clear hB hA
   ·go_simp;refine (sl_equal (hra.ext eI) (hrb.ext eI) (fun c hc=>⟨HSX.out a (by omega) c hc,HSX.out b (by omega) c hc⟩)).mono ?_;rw [HRR.out];rintro e wj ⟨rfl,ej⟩;go_wp2_with fail;exact hK.out _ _ ej rfl
   obtain⟨x60,s60,j60⟩:=hA 10 (by kernel_rfl) 60 rfl;obtain rfl:x60=(.bool false):=j60
   rotate_left
   all_goals clear hB hA
   all_goals go_simp
   all_goals exact hK.out _ _ (Ext.refl _) rfl
  intro vals wz eZ hJ;have J61:vals 11=_:=hJ 11 (by decide) (by decide);clear hJ;simp only [pr,Nat.reduceAdd,J61];clear J61;refine stepL_done (by kernel_rfl) ?_ _;replace hE:=hE.trans eZ;replace B4:=eZ.block B4;replace B0:=eZ.block B0;clear a0 a1 a2 p0 q0 hra hrb eZ;obtain⟨a0,a1,a2,-⟩:=cells3 B0;obtain⟨u0,u1,u2,u3,u4,u5⟩:=cells3 B4;go_wp2;obtain⟨w10,E10,D10,U10⟩:=ex3 B4 (.slice none 0 0) (.slice none 0 0) (.slice none 0 0);rw [E10];have C10:=U10.chg (NoU.mk B4 (by decide));have hE10:=C10.ext hE (by omega);obtain⟨x0,x1,x2,-⟩:=cells3 D10;refine bodyPost_ret (v:=.tuple #[nilLin,.int .i64 11]) ?_ rfl ?_
  ·simp [results,x0,x1,x2,go_sem,nilLin]
  ·exact⟨rfl,hE10⟩
section
variable {P:Program} {ops:Array Oper} {Q:Exit→Act→World→Prop} {late:List Nat}
def lateS (ops:Array Oper) (late soft:List Nat):Bool:=(List.range ops.size).all fun i=>late.contains i || soft.contains i || waitsB ops late i
def apartB (ops:Array Oper) (i:Nat):Bool :=
 match ops[i]? with
 | some oi=>(List.range ops.size).all fun j=>j == i || (preds ops j).contains i || (sweep ops i (preds ops i)).contains j || (match ops[j]? with | some oj=>oi.apart ops oj | none=>true)
 | none=>false
def softB (ops:Array Oper) (late soft:List Nat):Bool:=soft.all fun i=>decide (i < ops.size) && !late.contains i && apartB ops i && (preds ops i).all fun j=>waitsB ops late j
def Sft (P:Program) (ops:Array Oper) (Q:Exit→Act→World→Prop) (Js:List Mn) (ds:List (Option Tmp)) (a0:Act) (W:World) (i:Nat):Prop :=
 ∀ o,ops.toList[i]?=some o→(∀ c a v w,Q (.panic c) (Act.put a o.dst v) w→Q (.panic c) a w)∧∀ a w,Ext W w→(∀ t,ds.contains (some t)=false→a.tmps[t]?=a0.tmps[t]?) →
  (∀ j,(preds ops i).contains j=true→∀ t,ds[j]?=some (some t)→∃ v,a.tmps[t]?=some v∧(Js[j]?.getD Mn.any).p v w) →
  ∃ v,YieldsIf P ops (fun _=>True) o v a∧(Js[i]?.getD Mn.any).p v w
theorem sft {Js:List Mn} {ds:List (Option Tmp)} {a0:Act} {W:World} {i:Nat} {o:Oper} (hi:ops.toList[i]?=some o) (hQ:∀ c a v w,Q (.panic c) (Act.put a o.dst v) w→Q (.panic c) a w)
  (h:∀ a w,Ext W w→(∀ t,ds.contains (some t)=false→a.tmps[t]?=a0.tmps[t]?) →
   (∀ j,(preds ops i).contains j=true→∀ t,ds[j]?=some (some t)→∃ v,a.tmps[t]?=some v∧(Js[j]?.getD Mn.any).p v w) →
   ∃ v,YieldsIf P ops (fun _=>True) o v a∧(Js[i]?.getD Mn.any).p v w):Sft P ops Q Js ds a0 W i:=by
 intro o' ho';rw [hi] at ho';cases ho'
 exact⟨hQ,h⟩
theorem inv_goS {soft:List Nat} {Js:List Mn} {ds:List (Option Tmp)} {a0:Act} {W:World} (hd:ops.toList.map (·.dst)=ds) (hnd:nodupB ds=true) (hsz:fitsB ds a0.tmps.size=true) (hlow:lowB ops=true) (hlate:lateS ops late soft=true) (hsoft:softB ops late soft=true) (hns:Region.noSelect ops=true)
  (hstep:∀ i,i < ops.size→late.contains i=false→soft.contains i=false→Stp P ops Q late Js ds a0 W i) (hsft:∀ i,soft.contains i=true→Sft P ops Q Js ds a0 W i) {k:Nat} (hk:cnt (lastB ops late).toArray ops.size=k)
  (hdone:∀ vals w,Ext W w→(∀ j,j < ops.size→late.contains j=false→(Js[j]?.getD Mn.any).p (vals j) w)→stepL P ops Q (fun _=>True) late k (lastB ops late).toArray (putAll ds (lastB ops late) vals 0 a0) w) :
  ∀ (fuel:Nat) (listed:Array Bool) (vals:Nat→Value) (w:World),listed.size=ops.size→Closed ops listed→(∀ t,late.contains t=true→t < ops.size→listed.getD t false=false)→cnt listed ops.size≤fuel→Ext W w →
   (∀ j,listed.getD j false=true→(Js[j]?.getD Mn.any).p (vals j) w)→anyL P ops Q (fun _=>True) late fuel listed (putAll ds listed.toList vals 0 a0) w:=by
 intro fuel
 induction fuel with
 | zero =>
  intro listed vals w h1 h2 h3 h4 h5 h6
  by_cases hall:∀ i,i < ops.size→late.contains i=false→listed.getD i false=true
  ·have hL:listed=(lastB ops late).toArray:=by
    apply Array.ext
    ·simp [lastB,h1]
    ·intro i hi _;have hio:i < ops.size:=by omega
     have e1:listed[i]=listed.getD i false:=by simp [hi]
     rw [e1];simp only [lastB,List.getElem_toArray,List.getElem_map,List.getElem_range];cases hc:late.contains i with
     | false=>exact hall i hio hc
     | true=>exact h3 i hc hio
   subst hL;have:=hdone vals w h5 (fun j hj hc=>h6 j (hall j hj hc)) h2;rw [hk] at h4;exact anyL_ge h4 this
  ·exfalso
   apply hall
   intro i hi _
   have hz:∀ n,n≤ops.size→cnt listed n=0→∀ i,i < n→listed.getD i false=true:=by
    intro n
    induction n with
    | zero=>intro _ _ i hi; omega
    | succ n ih =>
     intro hn hc i hi;unfold cnt at hc
     by_cases e:i=n
     ·subst e
      by_cases hg:listed.getD i false=true
      ·exact hg
      ·rw [if_neg hg] at hc; omega
     ·exact ih (by omega) (by omega) i (by omega)
   exact hz ops.size (Nat.le_refl _) (by omega) i hi
 | succ fuel ih =>
  intro listed vals w h1 h2 h3 h4 h5 h6
  by_cases hall:∀ i,i < ops.size→late.contains i=false→listed.getD i false=true
  ·have hL:listed=(lastB ops late).toArray:=by
    apply Array.ext
    ·simp [lastB,h1]
    ·intro i hi _;have hio:i < ops.size:=by omega
     have e1:listed[i]=listed.getD i false:=by simp [hi]
     rw [e1];simp only [lastB,List.getElem_toArray,List.getElem_map,List.getElem_range];cases hc:late.contains i with
     | false=>exact hall i hio hc
     | true=>exact h3 i hc hio
   subst hL;have:=hdone vals w h5 (fun j hj hc=>h6 j (hall j hj hc)) h2;rw [hk] at h4;exact anyL_ge h4 this
  ·have hfacts:∀ i,i∈Region.ready .any ops listed→∀ j,(preds ops i).contains j=true→∀ t,ds[j]?=some (some t)→∃ v,(putAll ds listed.toList vals 0 a0).tmps[t]?=some v∧(Js[j]?.getD Mn.any).p v w:=by
    intro i hi j hj t ht;have hjl:=preds_ready hi j (by simpa using hj);refine⟨vals j,?_,h6 j hjl⟩
    have hjs:j < listed.size:=by
     rcases Nat.lt_or_ge j listed.size with h | h
     ·exact h
     ·simp [Array.getElem?_eq_none h] at hjl
    have:=putAll_new ds listed.toList vals 0 j a0 hnd (by rw [Array.getElem?_toList]; simp [hjs] at hjl ⊢; exact hjl) ht (by
     have:=List.all_eq_true.1 hsz (some t) (List.mem_of_getElem? ht)
     simpa using this)
    rw [Nat.zero_add] at this;exact this
   have hnext:∀ i,i∈Region.ready .any ops listed→late.contains i=false→∀ (o:Oper),ops.toList[i]?=some o→∀ v w',Ext w w'→(Js[i]?.getD Mn.any).p v w'→anyL P ops Q (fun _=>True) late fuel (listed.setIfInBounds i true) ((putAll ds listed.toList vals 0 a0).put o.dst v) w':=by
    intro i hi hic o ho' v w' e hJ;have hun:=ready_not hi
    have hio:i < ops.size:=by
     rw [Array.getElem?_toList] at ho';exact (Array.getElem?_eq_some_iff.1 ho').1
    have hdi:ds[i]?=some o.dst:=by rw [←hd,List.getElem?_map,ho']; rfl
    have hbi:listed.toList[i]?=some false:=by
     rw [Array.getElem?_toList];have:i < listed.size:=by omega
     simp [this] at hun ⊢; exact hun
    have hc:=cnt_set (by omega:i < listed.size) hun ops.size;rw [if_pos hio] at hc;have hps:=putAll_set (v:=v) ds listed.toList vals 0 i a0 hnd hbi hdi;rw [Nat.zero_add] at hps;rw [←hps,←Array.toList_setIfInBounds];refine ih (listed.setIfInBounds i true) (updV vals i v) w' (by simpa using h1) (h2.set hi) (fun t htl htn=>?_) (by omega) (h5.trans e) (fun j hj=>?_)
    ·rw [Go.getD_set_ne false (fun e=>by subst e; rw [hic] at htl; cases htl)];exact h3 t htl htn
    ·by_cases hji:i=j
     ·subst hji;have:updV vals i v i=v:=by simp [updV]
      rw [this]; exact hJ
     ·rw [Go.getD_set_ne false hji] at hj;have:updV vals i v j=vals j:=by unfold updV; rw [if_neg (fun e=>hji e.symm)]
      rw [this];exact (Js[j]?.getD Mn.any).mono e (h6 j hj)
   by_cases hsr:∃ i,soft.contains i=true∧i∈Region.ready .any ops listed
   ·obtain⟨i,his,hi⟩:=hsr;have hsb:=List.all_eq_true.1 hsoft i (by simpa using his);simp only [Bool.and_eq_true,decide_eq_true_eq,Bool.not_eq_true'] at hsb;obtain⟨⟨⟨hio,hic⟩,hap⟩,-⟩:=hsb;obtain⟨-,o,ho,-⟩:=mem_ready.1 hi;have ho':ops.toList[i]?=some o:=by rw [Array.getElem?_toList]; exact ho
    obtain⟨hQ,hsf⟩:=hsft i his o ho';obtain⟨v,hy,hJ⟩:=hsf _ w h5 (fun t ht=>putAll_old ds _ vals 0 a0 ht) (hfacts i hi);refine anyL_pure ho (Region.noSelect_spec hns) (fun c a w=>hQ c a v w) fuel listed _ w (fun j oj hoj hji hjl hno=>?_) hi hy (hnext i hi hic o ho' v w (Ext.refl _) hJ);unfold apartB at hap;rw [ho] at hap;have hjo:j < ops.size:=(Array.getElem?_eq_some_iff.1 hoj).1;have h9:=List.all_eq_true.1 hap j (by simpa using hjo);rw [hoj] at h9;simp only [Bool.or_eq_true,beq_iff_eq] at h9
    rcases h9 with ((h9 | h9) | h9) | h9
    ·exact absurd h9 hji
    ·exfalso
     have h8:i∈preds ops j:=by simpa using h9
     unfold preds at h8;rw [hoj] at h8;simp only [List.mem_map,List.mem_filter] at h8;obtain⟨e,⟨he,hb⟩,hon⟩:=h8;exact hno e (by simpa using he) hb hon
    ·exfalso
     have h7:=sweep_listed h2 i (preds ops i) (fun x hx=>preds_ready hi x hx) j (by simpa using h9);have h6':j < listed.size:=by omega
     simp [h6'] at h7 hjl
     rw [h7] at hjl; cases hjl
    ·exact h9
   ·have hex:∃ i,i < ops.size∧late.contains i=false∧listed.getD i false=false:=by
     apply Classical.byContradiction
     intro hno
     apply hall
     intro i hi hc;cases hl:listed.getD i false with
     | true=>rfl
     | false=>exact absurd ⟨i,hi,hc,hl⟩ hno
    obtain⟨u,hu,huc,hul⟩:=hex;have hne:=ready_low hlow h1 0 (Nat.zero_le _) (fun i hi=>by omega) ⟨u,hu,hul⟩;refine⟨fun h0=>?_,fun i hi=>?_⟩
    ·obtain⟨i,hi⟩:=hne; rw [h0] at hi; cases hi
    ·obtain⟨-,o,ho,-⟩:=mem_ready.1 hi;have hio:i < ops.size:=(Array.getElem?_eq_some_iff.1 ho).1
     have hsi:soft.contains i=false:=by
      cases hc:soft.contains i with
      | false=>rfl
      | true=>exact absurd ⟨i,hc,hi⟩ hsr
     have hic:late.contains i=false:=by
      cases hc:late.contains i with
      | false=>rfl
      | true =>
       exfalso
       have hw:=List.all_eq_true.1 hlate u (by simpa using hu);rw [huc,Bool.false_or] at hw
       rcases (by simpa using hw:soft.contains u=true∨waitsB ops late u=true) with hs | hs
       ·have hsb:=List.all_eq_true.1 hsoft u (by simpa using hs);rw [Bool.and_eq_true] at hsb;have hpr:=List.all_eq_true.1 hsb.2;refine hsr ⟨u,hs,mem_ready.2 ⟨?_,ops[u],by simp [hu],fun e he hb=>?_⟩⟩
        ·have:u < listed.size:=by omega
         simp [this] at hul ⊢; exact hul
        ·have h8:=hpr e.on (by
          unfold preds;rw [Array.getElem?_eq_getElem hu];simp only [List.mem_map,List.mem_filter]
          exact⟨e,⟨by simpa using he,hb⟩,rfl⟩)
         exact late_listed h8 h2 hi hc
       ·have:=late_listed hs h2 hi hc;rw [hul] at this; cases this
     have ho':ops.toList[i]?=some o:=by rw [Array.getElem?_toList]; exact ho
     refine wpOp_step ho (fun K' hK=>?_);exact hstep i hio hic hsi o ho' _ w h5 (fun t ht=>putAll_oldB (by rw [←hd]; simp) h3 vals a0 ht) (hfacts i hi) K' (fun v w' e hJ=>hK _ _ ⟨fun _ _=>trivial,hnext i hi hic o ho' v w' e hJ⟩)
theorem region_invS (Js:List Mn) (ds:List (Option Tmp)) (late soft:List Nat) (bs:List Bool) (k:Nat) {id:Nat} {a0:Act} {W:World} (hm:P.follows .mixedOrders=true) (hd:ops.toList.map (·.dst)=ds) (hnd:nodupB ds=true) (hsz:fitsB ds a0.tmps.size=true) (hlow:lowB ops=true) (hlate:lateS ops late soft=true) (hsoft:softB ops late soft=true) (hns:Region.noSelect ops=true)
  (hb:lastB ops late=bs) (hk:cnt bs.toArray ops.size=k) (hstep:∀ i,i < ops.size→late.contains i=false→soft.contains i=false→Stp P ops Q late Js ds a0 W i) (hsft:∀ i,soft.contains i=true→Sft P ops Q Js ds a0 W i)
  (hdone:∀ vals w,Ext W w→(∀ j,j < ops.size→late.contains j=false→(Js[j]?.getD Mn.any).p (vals j) w)→stepL P ops Q (fun _=>True) late k bs.toArray (putAll ds bs vals 0 a0) w) :
  (Code.region id ops true).wp P Q a0 W:=by
 subst hb
 have h0:∀ n,putAll ds (Array.replicate n false).toList (fun _=>undef) 0 a0=a0:=by
  intro n;simp only [Array.toList_replicate]
  have:∀ (ds:List (Option Tmp)) (n k:Nat),putAll ds (List.replicate n false) (fun _=>undef) k a0=a0:=by
   intro ds
   induction ds with
   | nil=>intro n k; unfold putAll; rfl
   | cons d ds ih =>
    intro n k;cases n with
    | zero=>rfl
    | succ n=>exact ih n (k+1)
  exact this ds n 0
 have hc0:∀ (n:Nat) (l:Array Bool),cnt l n≤n:=by
  intro n l
  induction n with
  | zero=>exact Nat.le_refl _
  | succ n ih=>unfold cnt; split <;> omega
 have hf0:∀ j,(Array.replicate ops.size false).getD j false=false:=fun j=>by
  rw [Array.getD_eq_getD_getElem?,Array.getElem?_replicate]; split <;> rfl
 have:=inv_goS (P:=P) (Q:=Q) (late:=late) hd hnd hsz hlow hlate hsoft hns hstep hsft hk hdone ops.size (Array.replicate ops.size false) (fun _=>undef) W.drew (by simp) (Closed.start _) (fun t _ _=>hf0 t) (hc0 _ _) (Ext.refl W).drew (fun j hj=>by rw [hf0 j] at hj; cases hj);rw [h0] at this;exact wp_region_any hm (any_of_anyL _ _ _ _ this)
theorem regS (Js:List Mn) (ds:List (Option Tmp)) (late soft:List Nat) (bs:List Bool) (k:Nat) {id:Nat} {a0:Act} {W:World} (h:(P.follows .mixedOrders && (decide (ops.toList.map (·.dst)=ds) && (nodupB ds && (fitsB ds a0.tmps.size && (lowB ops && (lateS ops late soft && (softB ops late soft && (Region.noSelect ops && (decide (lastB ops late=bs) && decide (cnt bs.toArray ops.size=k))))))))))=true) (hstep:∀ i,i < ops.size→late.contains i=false→soft.contains i=false→Stp P ops Q late Js ds a0 W i) (hsft:∀ i,soft.contains i=true→Sft P ops Q Js ds a0 W i)
  (hdone:∀ vals w,Ext W w→(∀ j,j < ops.size→late.contains j=false→(Js[j]?.getD Mn.any).p (vals j) w)→stepL P ops Q (fun _=>True) late k bs.toArray (putAll ds bs vals 0 a0) w) :
  (Code.region id ops true).wp P Q a0 W:=by
 simp only [Bool.and_eq_true,decide_eq_true_eq] at h;obtain⟨h1,h2,h3,h4,h5,h6,h7,h8,h9,h10⟩:=h;exact region_invS Js ds late soft bs k h1 h2 h3 h4 h5 h6 h7 h8 h9 h10 hstep hsft hdone
end
def Mn.l2 (N n:Nat) (x:Nat→Rat):Mn:=⟨fun v w=>∃ A c,v=.tuple #[.slice A n c,.int .i64 0]∧LsV N 0 w.heap.size w (.slice A n c) n x,fun e h=>by
  obtain⟨A,c,h0,h1⟩:=h
  exact⟨A,c,h0,LsV.all (h1.ext e)⟩⟩
def Mn.rc (N:Nat) (q:Rat):Mn:=⟨fun v w=>∃ u,v=.tuple #[u,.int .i64 0]∧RatV N w u q,fun e h=>by
  obtain⟨u,h0,h1⟩:=h
  exact⟨u,h0,h1.ext e⟩⟩
def mgP (a b:Nat) (p:Nat→Rat) (k:Nat):Rat:=if k=a then p a+p b else p (skip b k)
def mgL (a b:Nat) (y p:Nat→Rat) (k:Nat):Rat:=if k=a then (p a*y a+p b*y b) / (p a+p b) else y (skip b k)
theorem n_Merge {N lo hi lo2 hi2:Nat} {w:World} {v1 v2 v3:Value} {m n:Nat} {X:Nat→Nat→Rat} {y p:Nat→Rat} (h1:MtV N lo hi w v1 m n X) (h2:LsV N lo2 hi2 w v2 m y) (h3:LsV N lo2 hi2 w v3 m p) (hm0:0 < m) (hm:m≤64) (hn0:0 < n) (hn:n≤24) (hp:∀ i,i < m→0 < p i)
  {k:Nat} (hkx:HtM m n k X) (hky:HtL m k y) (hkp:HtL m k p) (hK:10*k+10≤29000000000) {a b:Nat} (hab:a < b) (hb:b < m) {iz jz:Int} (hz:(iz=(a:Int)∧jz=(b:Int))∨(iz=(b:Int)∧jz=(a:Int))) (hr:allB n (fun c=>decide (X a c=X b c))=true) :
  Calls Tryz.prog 45 #[.agg #[v1,v2,v3],.int .i64 iz,.int .i64 jz] w (RetCutC N w (m - 1) n (fun j=>X (skip b j)) (mgL a b y p) (mgP a b p)):=by
 obtain⟨Rf,hRf⟩:=hid_eq (RetCutC N w (m - 1) n (fun j=>X (skip b j)) (mgL a b y p) (mgP a b p));rw [←hRf.out];have HRR:=Lib.hid hr;have HSX:Hid (∀ i,i < m→∀ c,c < n→Sz (X i c)):=fun i hi c hc=>(hkx i hi c hc).sz (by omega)
 have HSP:Hid (Sz (p a)∧Sz (p b)∧Sz (y a)∧Sz (y b)∧Sz (p a+p b)∧Sz (p a*y a)∧Sz (p b*y b)∧Sz (p a*y a+p b*y b)):=by
  have q1:=hkp a (by omega);have q2:=hkp b hb;have q3:=hky a (by omega);have q4:=hky b hb;exact⟨q1.sz (by omega),q2.sz (by omega),q3.sz (by omega),q4.sz (by omega),(q1.add q2).sz (by omega),(q1.mul q3).sz (by omega),(q2.mul q4).sz (by omega),((q1.mul q3).add (q2.mul q4)).sz (by omega)⟩
 have HPN:Hid (p a+p b≠0):=by
  have q1:=hp a (by omega);have q2:=hp b hb
  show p a+p b≠0
  grind
 have e1:((a:Int) == (b:Int))=false:=beq_eq_false_iff_ne.2 (by omega);have e2:((b:Int) == (a:Int))=false:=beq_eq_false_iff_ne.2 (by omega);have g1:min (a:Int) (b:Int)=(a:Int):=by omega
 have g2:max (a:Int) (b:Int)=(b:Int):=by omega
 have g3:min (b:Int) (a:Int)=(a:Int):=by omega
 have g4:max (b:Int) (a:Int)=(b:Int):=by omega
 clear hr
 rcases hz with ⟨rfl,rfl⟩ | ⟨rfl,rfl⟩
 all_goals
  have HX:=Lib.hid hkx;have HY:=Lib.hid hky;have HP:=Lib.hid hkp
  have HCK:Hid (∀ w1,Ext w w1→Calls Tryz.prog 58 #[.agg #[v1,v2,v3]] w1 (RetV w1 (.int .i64 0))):=fun w1 e1=>by
   have h9:=n_check (linV_of (h1.ext e1) (h2.ext e1) (h3.ext e1)) (linSz_of hkx hky hkp (by omega)) (fun i hi=>(hkp i hi).sz (by omega));rw [codeOf_lin hm0 hm hn0 hn hp] at h9;exact h9
  have hN:=h1.le;obtain⟨A1,c1,rfl,hmc,hcm⟩:=h1.form;obtain⟨A2,c2,rfl,hmc2,hcm2⟩:=h2.form;obtain⟨A3,c3,rfl,hmc3,hcm3⟩:=h3.form;have hI1:=h1;have hI2:=h2;have hI3:=h3;clear h1 h2 h3 hkx hky hkp hp;go_enter Tryz.func45,Tryz.ntmps45;go_upto_region 1 with (fail);refine boxes2 ?_;intro W hE hsz B0 B4;obtain⟨a0,a1,a2,-⟩:=cells3 B0;go_wp2_with (go_at_call 58; refine Hid.out ?_);refine (HCK.out _ hE).mono ?_;rintro e w1 ⟨rfl,e1⟩;replace hE:=hE.trans e1;replace B4:=e1.block B4;replace B0:=e1.block B0;clear a0 a1 a2 e1 HCK;obtain⟨a0,a1,a2,-⟩:=cells3 B0;obtain⟨b1,off1,rfl,-,-,hx1⟩:=(hI1.ext hE).addr hm0;obtain⟨Aa,ca,p0,-,-,hra⟩:=hx1 a (by omega);obtain⟨Ab,cb,q0,-,-,hrb⟩:=hx1 b (by omega);clear hx1;obtain⟨wq,hwq⟩:∃ wq,wq=w1:=⟨_,rfl⟩
  subst hwq;go_upto_region 7 with (fail);refine regI [Mn.eq (.pointer (some ⟨w.heap.size,0,none⟩)),Mn.eq (.slice (some ⟨b1,off1,none⟩) m c1),Mn.eq (.int .i64 (a:Int)),Mn.eq (.pointer (some ⟨b1,off1+a,none⟩)),Mn.eq (.slice Aa n ca),Mn.eq (.pointer (some ⟨w.heap.size,0,none⟩)),Mn.eq (.slice (some ⟨b1,off1,none⟩) m c1),Mn.eq (.int .i64 (b:Int)),Mn.eq (.pointer (some ⟨b1,off1+b,none⟩)),Mn.eq (.slice Ab n cb),Mn.eq (.bool true),Mn.eq (.bool (!true))] [some 50,some 51,some 52,some 53,some 54,some 55,some 56,some 57,some 58,some 59,some 60,some 61] [] [true,true,true,true,true,true,true,true,true,true,true,true] 0 (by kernel_rfl) ?_ ?_
  ·show ∀ i,i < 12→_
   iterate 12 refine fs ?_ ?_
   ·exact fz
   all_goals intro hl
   all_goals clear hl
   all_goals refine stp rfl ?_
   all_goals intro ac wi eI hB hA K hK
   have o3:=oOf (hB 3 (by kernel_rfl)) rfl
   rotate_left
   obtain⟨x50,s50,j50⟩:=hA 0 (by kernel_rfl) 50 rfl;obtain rfl:x50=(.pointer (some ⟨w.heap.size,0,none⟩)):=j50;have cc0:=eI.cell a0;have cc1:=eI.cell p0;have cc2:=eI.cell q0
   rotate_left
   have o1:=oOf (hB 1 (by kernel_rfl)) rfl
   rotate_left
   obtain⟨x51,s51,j51⟩:=hA 1 (by kernel_rfl) 51 rfl;obtain rfl:x51=(.slice (some ⟨b1,off1,none⟩) m c1):=j51;obtain⟨x52,s52,j52⟩:=hA 2 (by kernel_rfl) 52 rfl;obtain rfl:x52=(.int .i64 (a:Int)):=j52
   rotate_left
   obtain⟨x53,s53,j53⟩:=hA 3 (by kernel_rfl) 53 rfl;obtain rfl:x53=(.pointer (some ⟨b1,off1+a,none⟩)):=j53;have cc0:=eI.cell a0;have cc1:=eI.cell p0;have cc2:=eI.cell q0
   rotate_left
   have o3:=oOf (hB 3 (by kernel_rfl)) rfl
   rotate_left
   obtain⟨x55,s55,j55⟩:=hA 5 (by kernel_rfl) 55 rfl;obtain rfl:x55=(.pointer (some ⟨w.heap.size,0,none⟩)):=j55;have cc0:=eI.cell a0;have cc1:=eI.cell p0;have cc2:=eI.cell q0
   rotate_left
   have o2:=oOf (hB 2 (by kernel_rfl)) rfl
   rotate_left
   obtain⟨x56,s56,j56⟩:=hA 6 (by kernel_rfl) 56 rfl;obtain rfl:x56=(.slice (some ⟨b1,off1,none⟩) m c1):=j56;obtain⟨x57,s57,j57⟩:=hA 7 (by kernel_rfl) 57 rfl;obtain rfl:x57=(.int .i64 (b:Int)):=j57
   rotate_left
   obtain⟨x58,s58,j58⟩:=hA 8 (by kernel_rfl) 58 rfl;obtain rfl:x58=(.pointer (some ⟨b1,off1+b,none⟩)):=j58;have cc0:=eI.cell a0;have cc1:=eI.cell p0;have cc2:=eI.cell q0
   rotate_left
   obtain⟨x54,s54,j54⟩:=hA 4 (by kernel_rfl) 54 rfl;obtain rfl:x54=(.slice Aa n ca):=j54;obtain⟨x59,s59,j59⟩:=hA 9 (by kernel_rfl) 59 rfl;obtain rfl:x59=(.slice Ab n cb):=j59;clear hB hA
   ·go_simp;refine (sl_equal (hra.ext eI) (hrb.ext eI) (fun c hc=>⟨HSX.out a (by omega) c hc,HSX.out b (by omega) c hc⟩)).mono ?_;rw [HRR.out];rintro e wj ⟨rfl,ej⟩;go_wp2_with fail;exact hK.out _ _ ej rfl
   obtain⟨x60,s60,j60⟩:=hA 10 (by kernel_rfl) 60 rfl;obtain rfl:x60=(.bool true):=j60
   rotate_left
   all_goals clear hB hA
   all_goals go_simp
   all_goals exact hK.out _ _ (Ext.refl _) rfl
  intro vals wz eZ hJ;have J61:vals 11=_:=hJ 11 (by decide) (by decide);clear hJ;simp only [pr,Nat.reduceAdd,J61];clear J61;refine stepL_done (by kernel_rfl) ?_ _;replace hE:=hE.trans eZ;replace B4:=eZ.block B4;replace B0:=eZ.block B0;clear a0 a1 a2 p0 q0 hra hrb eZ;obtain⟨a0,a1,a2,-⟩:=cells3 B0;obtain⟨b3,off3,rfl,-,-,hx3⟩:=(hI3.ext hE).addr hm0;obtain⟨n1,A5,k5,c5,A6,k6,c6,p0,p1,p2,p3,hb1,y1,y2⟩:=(hx3 a (by omega)).open;obtain⟨n2,A7,k7,c7,A8,k8,c8,q0,q1,q2,q3,hb2,y3,y4⟩:=(hx3 b hb).open;have hPA:RatV N wz (.agg #[.bool n1,.slice A5 k5 c5,.bool false,.slice A6 k6 c6]) (p a):=RatV.mk hb1 y1 y2;have hPB:RatV N wz (.agg #[.bool n2,.slice A7 k7 c7,.bool false,.slice A8 k8 c8]) (p b):=RatV.mk hb2 y3 y4;clear hx3 hb1 y1 y2 hb2 y3 y4;have hNz:N≤wz.heap.size:=by have:=hE.size; omega
  obtain⟨wy,hwy⟩:∃ wy,wy=wz:=⟨_,rfl⟩
  subst hwy;go_upto_region 9 with (fail);refine regI [Mn.eq (.pointer (some ⟨w.heap.size,2,none⟩)),Mn.eq (.slice (some ⟨b3,off3,none⟩) m c3),Mn.eq (.int .i64 (a:Int)),Mn.eq (.pointer (some ⟨b3,off3+a*4,none⟩)),Mn.rat N (p a),Mn.eq (.pointer (some ⟨w.heap.size,2,none⟩)),Mn.eq (.slice (some ⟨b3,off3,none⟩) m c3),Mn.eq (.int .i64 (b:Int)),Mn.eq (.pointer (some ⟨b3,off3+b*4,none⟩)),Mn.rat N (p b),Mn.rat N (p a+p b),Mn.blk wy.heap.size (.cells #[.bool false,.slice none 0 0,.bool false,.slice none 0 0] 44 (0,0)),Mn.any] [some 63,some 64,some 65,some 66,some 67,some 68,some 69,some 70,some 71,some 72,some 73,some 9,none] [12] [true,true,true,true,true,true,true,true,true,true,true,true,false] 1 (by kernel_rfl) ?_ ?_
  ·show ∀ i,i < 13→_
   iterate 13 refine fs ?_ ?_
   ·exact fz
   all_goals intro hl
   all_goals first | exact absurd hl (by decide) | skip
   all_goals clear hl
   all_goals refine stp rfl ?_
   all_goals intro ac wi eI hB hA K hK
   have o3:=oOf (hB 3 (by kernel_rfl)) rfl
   rotate_left
   obtain⟨x63,s63,j63⟩:=hA 0 (by kernel_rfl) 63 rfl;obtain rfl:x63=(.pointer (some ⟨w.heap.size,2,none⟩)):=j63;have cc0:=eI.cell a2;have cc1:=eI.cell p0;have cc2:=eI.cell p1;have cc3:=eI.cell p2;have cc4:=eI.cell p3;have cc5:=eI.cell q0;have cc6:=eI.cell q1;have cc7:=eI.cell q2;have cc8:=eI.cell q3
   rotate_left
   have o1:=oOf (hB 1 (by kernel_rfl)) rfl
   rotate_left
   obtain⟨x64,s64,j64⟩:=hA 1 (by kernel_rfl) 64 rfl;obtain rfl:x64=(.slice (some ⟨b3,off3,none⟩) m c3):=j64;obtain⟨x65,s65,j65⟩:=hA 2 (by kernel_rfl) 65 rfl;obtain rfl:x65=(.int .i64 (a:Int)):=j65
   rotate_left
   obtain⟨x66,s66,j66⟩:=hA 3 (by kernel_rfl) 66 rfl;obtain rfl:x66=(.pointer (some ⟨b3,off3+a*4,none⟩)):=j66;clear hB hA;have cc0:=eI.cell a2;have cc1:=eI.cell p0;have cc2:=eI.cell p1;have cc3:=eI.cell p2;have cc4:=eI.cell p3;have cc5:=eI.cell q0;have cc6:=eI.cell q1;have cc7:=eI.cell q2;have cc8:=eI.cell q3
   ·go_simp;exact hK.out _ _ (Ext.refl _) (hPA.ext eI)
   have o3:=oOf (hB 3 (by kernel_rfl)) rfl
   rotate_left
   obtain⟨x68,s68,j68⟩:=hA 5 (by kernel_rfl) 68 rfl;obtain rfl:x68=(.pointer (some ⟨w.heap.size,2,none⟩)):=j68;have cc0:=eI.cell a2;have cc1:=eI.cell p0;have cc2:=eI.cell p1;have cc3:=eI.cell p2;have cc4:=eI.cell p3;have cc5:=eI.cell q0;have cc6:=eI.cell q1;have cc7:=eI.cell q2;have cc8:=eI.cell q3
   rotate_left
   have o2:=oOf (hB 2 (by kernel_rfl)) rfl
   rotate_left
   obtain⟨x69,s69,j69⟩:=hA 6 (by kernel_rfl) 69 rfl;obtain rfl:x69=(.slice (some ⟨b3,off3,none⟩) m c3):=j69;obtain⟨x70,s70,j70⟩:=hA 7 (by kernel_rfl) 70 rfl;obtain rfl:x70=(.int .i64 (b:Int)):=j70
   rotate_left
   obtain⟨x71,s71,j71⟩:=hA 8 (by kernel_rfl) 71 rfl;obtain rfl:x71=(.pointer (some ⟨b3,off3+b*4,none⟩)):=j71;clear hB hA;have cc0:=eI.cell a2;have cc1:=eI.cell p0;have cc2:=eI.cell p1;have cc3:=eI.cell p2;have cc4:=eI.cell p3;have cc5:=eI.cell q0;have cc6:=eI.cell q1;have cc7:=eI.cell q2;have cc8:=eI.cell q3
   ·go_simp;exact hK.out _ _ (Ext.refl _) (hPB.ext eI)
   obtain⟨x67,s67,j67⟩:=hA 4 (by kernel_rfl) 67 rfl;replace j67:Mn.p (Mn.rat N (p a)) x67 wi:=j67;obtain⟨x72,s72,j72⟩:=hA 9 (by kernel_rfl) 72 rfl;replace j72:Mn.p (Mn.rat N (p b)) x72 wi:=j72;clear hB hA
   ·go_simp;refine (f_add j67 j72 HSP.out.1 HSP.out.2.1).mono ?_;rintro e wj ⟨vj,rfl,hj,ej⟩;go_wp2_with fail;exact hK.out _ _ ej hj
   clear hB hA
   ·go_simp;refine boxes1 ?_;intro wj ej hszj BJ;exact hK.out _ _ ej ⟨_,rfl,eI.size,BJ⟩
   all_goals clear hB hA
   all_goals go_simp
   all_goals exact hK.out _ _ (Ext.refl _) rfl
  intro vals wz eZ hJ;have J67:Mn.p (Mn.rat N (p a)) (vals 4) wz:=hJ 4 (by decide) (by decide);have J72:Mn.p (Mn.rat N (p b)) (vals 9) wz:=hJ 9 (by decide) (by decide);have J73:Mn.p (Mn.rat N (p a+p b)) (vals 10) wz:=hJ 10 (by decide) (by decide);have J9:Mn.p (Mn.blk wy.heap.size (.cells #[.bool false,.slice none 0 0,.bool false,.slice none 0 0] 44 (0,0))) (vals 11) wz:=hJ 11 (by decide) (by decide);clear hJ;simp only [pr,Nat.reduceAdd]
  generalize vals 4=z67 at J67 ⊢
  generalize vals 9=z72 at J72 ⊢
  generalize vals 10=z73 at J73 ⊢
  generalize vals 11=z9 at J9 ⊢
  obtain⟨gW,rfl,hgW,BG⟩:=J9;obtain⟨bz,Az,kz,cz,Az',kz',cz',rfl,hbz,gz1,gz2⟩:=RatV.parts J73;obtain⟨r0,r1,r2,r3,r4,r5,r6,r7⟩:=cells4 BG;refine stepL_late (i:=12) rfl (by kernel_rfl) (by kernel_rfl) (fun K hK=>?_);go_simp;refine hK.out _ _ ?_;clear hK K;try simp only [nr]
  refine stepL_done (by kernel_rfl) ?_ _;obtain⟨w7,E7,hBW,K7,hs7⟩:=boxSet (q:=p a+p b) BG (by omega) hbz gz1 gz2;rw [E7];have hgW7:gW < w7.heap.size:=by have:=blk_lt BG; omega
  have eW7:Ext wy w7:=K7.ext eZ hgW;replace hE:=hE.trans eW7;replace B4:=eW7.block B4;replace B0:=eW7.block B0;have hPA7:=hPA.ext eW7;have hPB7:=hPB.ext eW7;replace p0:=eW7.cell p0;replace p1:=eW7.cell p1;replace p2:=eW7.cell p2;replace p3:=eW7.cell p3;replace q0:=eW7.cell q0;replace q1:=eW7.cell q1;replace q2:=eW7.cell q2;replace q3:=eW7.cell q3;clear r0 r1 r2 r3 r4 r5 r6 r7 a0 a1 a2 BG hbz gz1 gz2 E7 K7 J67 J72 J73 eZ hs7 hPA hPB eW7;obtain⟨a0,a1,a2,-⟩:=cells3 B0;obtain⟨b2,off2,rfl,-,-,hx2⟩:=(hI2.ext hE).addr hm0;obtain⟨n3,A9,k9,c9,A10,k10,c10,s0,s1,s2,s3,hb3,y5,y6⟩:=(hx2 a (by omega)).open;obtain⟨n4,A11,k11,c11,A12,k12,c12,t0,t1,t2,t3,hb4,y7,y8⟩:=(hx2 b hb).open;have hYA:RatV N w7 (.agg #[.bool n3,.slice A9 k9 c9,.bool false,.slice A10 k10 c10]) (y a):=RatV.mk hb3 y5 y6;have hYB:RatV N w7 (.agg #[.bool n4,.slice A11 k11 c11,.bool false,.slice A12 k12 c12]) (y b):=RatV.mk hb4 y7 y8;clear hx2 hb3 y5 y6 hb4 y7 y8;have hN7:N≤w7.heap.size:=by have:=hE.size; omega
  go_upto_region 10 with (fail);refine regI [Mn.eq (.pointer (some ⟨w.heap.size,2,none⟩)),Mn.eq (.slice (some ⟨b3,off3,none⟩) m c3),Mn.eq (.int .i64 (a:Int)),Mn.eq (.pointer (some ⟨b3,off3+a*4,none⟩)),Mn.rat N (p a),Mn.eq (.pointer (some ⟨w.heap.size,1,none⟩)),Mn.eq (.slice (some ⟨b2,off2,none⟩) m c2),Mn.eq (.int .i64 (a:Int)),Mn.eq (.pointer (some ⟨b2,off2+a*4,none⟩)),Mn.rat N (y a),Mn.rat N (p a*y a),Mn.eq (.pointer (some ⟨w.heap.size,2,none⟩)),Mn.eq (.slice (some ⟨b3,off3,none⟩) m c3),Mn.eq (.int .i64 (b:Int)),Mn.eq (.pointer (some ⟨b3,off3+b*4,none⟩)),Mn.rat N (p b),Mn.eq (.pointer (some ⟨w.heap.size,1,none⟩)),Mn.eq (.slice (some ⟨b2,off2,none⟩) m c2),Mn.eq (.int .i64 (b:Int)),Mn.eq (.pointer (some ⟨b2,off2+b*4,none⟩)),Mn.rat N (y b),Mn.rat N (p b*y b),Mn.rat N (p a*y a+p b*y b),Mn.blk w7.heap.size (.cells #[.bool false,.slice none 0 0,.bool false,.slice none 0 0] 44 (0,0)),Mn.any] [some 74,some 75,some 76,some 77,some 78,some 79,some 80,some 81,some 82,some 83,some 84,some 85,some 86,some 87,some 88,some 89,some 90,some 91,some 92,some 93,some 94,some 95,some 96,some 10,none] [24] [true,true,true,true,true,true,true,true,true,true,true,true,true,true,true,true,true,true,true,true,true,true,true,true,false] 1 (by kernel_rfl) ?_ ?_
  ·show ∀ i,i < 25→_
   iterate 25 refine fs ?_ ?_
   ·exact fz
   all_goals intro hl
   all_goals first | exact absurd hl (by decide) | skip
   all_goals clear hl
   all_goals refine stp rfl ?_
   all_goals intro ac wi eI hB hA K hK
   have o3:=oOf (hB 3 (by kernel_rfl)) rfl
   rotate_left
   obtain⟨x74,s74,j74⟩:=hA 0 (by kernel_rfl) 74 rfl;obtain rfl:x74=(.pointer (some ⟨w.heap.size,2,none⟩)):=j74;have cc0:=eI.cell a1;have cc1:=eI.cell a2;have cc2:=eI.cell p0;have cc3:=eI.cell p1;have cc4:=eI.cell p2;have cc5:=eI.cell p3;have cc6:=eI.cell q0;have cc7:=eI.cell q1;have cc8:=eI.cell q2;have cc9:=eI.cell q3;have cc10:=eI.cell s0;have cc11:=eI.cell s1;have cc12:=eI.cell s2;have cc13:=eI.cell s3;have cc14:=eI.cell t0;have cc15:=eI.cell t1;have cc16:=eI.cell t2;have cc17:=eI.cell t3
   rotate_left
   have o1:=oOf (hB 1 (by kernel_rfl)) rfl
   rotate_left
   obtain⟨x75,s75,j75⟩:=hA 1 (by kernel_rfl) 75 rfl;obtain rfl:x75=(.slice (some ⟨b3,off3,none⟩) m c3):=j75;obtain⟨x76,s76,j76⟩:=hA 2 (by kernel_rfl) 76 rfl;obtain rfl:x76=(.int .i64 (a:Int)):=j76
   rotate_left
   obtain⟨x77,s77,j77⟩:=hA 3 (by kernel_rfl) 77 rfl;obtain rfl:x77=(.pointer (some ⟨b3,off3+a*4,none⟩)):=j77;clear hB hA;have cc0:=eI.cell a1;have cc1:=eI.cell a2;have cc2:=eI.cell p0;have cc3:=eI.cell p1;have cc4:=eI.cell p2;have cc5:=eI.cell p3;have cc6:=eI.cell q0;have cc7:=eI.cell q1;have cc8:=eI.cell q2;have cc9:=eI.cell q3;have cc10:=eI.cell s0;have cc11:=eI.cell s1;have cc12:=eI.cell s2;have cc13:=eI.cell s3;have cc14:=eI.cell t0;have cc15:=eI.cell t1;have cc16:=eI.cell t2;have cc17:=eI.cell t3
   ·go_simp;exact hK.out _ _ (Ext.refl _) (hPA7.ext eI)
   have o3:=oOf (hB 3 (by kernel_rfl)) rfl
   rotate_left
   obtain⟨x79,s79,j79⟩:=hA 5 (by kernel_rfl) 79 rfl;obtain rfl:x79=(.pointer (some ⟨w.heap.size,1,none⟩)):=j79;have cc0:=eI.cell a1;have cc1:=eI.cell a2;have cc2:=eI.cell p0;have cc3:=eI.cell p1;have cc4:=eI.cell p2;have cc5:=eI.cell p3;have cc6:=eI.cell q0;have cc7:=eI.cell q1;have cc8:=eI.cell q2;have cc9:=eI.cell q3;have cc10:=eI.cell s0;have cc11:=eI.cell s1;have cc12:=eI.cell s2;have cc13:=eI.cell s3;have cc14:=eI.cell t0;have cc15:=eI.cell t1;have cc16:=eI.cell t2;have cc17:=eI.cell t3
   rotate_left
   have o1:=oOf (hB 1 (by kernel_rfl)) rfl
   rotate_left
   obtain⟨x80,s80,j80⟩:=hA 6 (by kernel_rfl) 80 rfl;obtain rfl:x80=(.slice (some ⟨b2,off2,none⟩) m c2):=j80;obtain⟨x81,s81,j81⟩:=hA 7 (by kernel_rfl) 81 rfl;obtain rfl:x81=(.int .i64 (a:Int)):=j81
   rotate_left
   obtain⟨x82,s82,j82⟩:=hA 8 (by kernel_rfl) 82 rfl;obtain rfl:x82=(.pointer (some ⟨b2,off2+a*4,none⟩)):=j82;clear hB hA;have cc0:=eI.cell a1;have cc1:=eI.cell a2;have cc2:=eI.cell p0;have cc3:=eI.cell p1;have cc4:=eI.cell p2;have cc5:=eI.cell p3;have cc6:=eI.cell q0;have cc7:=eI.cell q1;have cc8:=eI.cell q2;have cc9:=eI.cell q3;have cc10:=eI.cell s0;have cc11:=eI.cell s1;have cc12:=eI.cell s2;have cc13:=eI.cell s3;have cc14:=eI.cell t0;have cc15:=eI.cell t1;have cc16:=eI.cell t2;have cc17:=eI.cell t3
   ·go_simp;exact hK.out _ _ (Ext.refl _) (hYA.ext eI)
   obtain⟨x78,s78,j78⟩:=hA 4 (by kernel_rfl) 78 rfl;replace j78:Mn.p (Mn.rat N (p a)) x78 wi:=j78;obtain⟨x83,s83,j83⟩:=hA 9 (by kernel_rfl) 83 rfl;replace j83:Mn.p (Mn.rat N (y a)) x83 wi:=j83;clear hB hA
   ·go_simp;refine (f_mul j78 j83 HSP.out.1 HSP.out.2.2.1).mono ?_;rintro e wj ⟨vj,rfl,hj,ej⟩;go_wp2_with fail;exact hK.out _ _ ej hj
   have o3:=oOf (hB 3 (by kernel_rfl)) rfl
   rotate_left
   obtain⟨x85,s85,j85⟩:=hA 11 (by kernel_rfl) 85 rfl;obtain rfl:x85=(.pointer (some ⟨w.heap.size,2,none⟩)):=j85;have cc0:=eI.cell a1;have cc1:=eI.cell a2;have cc2:=eI.cell p0;have cc3:=eI.cell p1;have cc4:=eI.cell p2;have cc5:=eI.cell p3;have cc6:=eI.cell q0;have cc7:=eI.cell q1;have cc8:=eI.cell q2;have cc9:=eI.cell q3;have cc10:=eI.cell s0;have cc11:=eI.cell s1;have cc12:=eI.cell s2;have cc13:=eI.cell s3;have cc14:=eI.cell t0;have cc15:=eI.cell t1;have cc16:=eI.cell t2;have cc17:=eI.cell t3
   rotate_left
   have o2:=oOf (hB 2 (by kernel_rfl)) rfl
   rotate_left
   obtain⟨x86,s86,j86⟩:=hA 12 (by kernel_rfl) 86 rfl;obtain rfl:x86=(.slice (some ⟨b3,off3,none⟩) m c3):=j86;obtain⟨x87,s87,j87⟩:=hA 13 (by kernel_rfl) 87 rfl;obtain rfl:x87=(.int .i64 (b:Int)):=j87
   rotate_left
   obtain⟨x88,s88,j88⟩:=hA 14 (by kernel_rfl) 88 rfl;obtain rfl:x88=(.pointer (some ⟨b3,off3+b*4,none⟩)):=j88;clear hB hA;have cc0:=eI.cell a1;have cc1:=eI.cell a2;have cc2:=eI.cell p0;have cc3:=eI.cell p1;have cc4:=eI.cell p2;have cc5:=eI.cell p3;have cc6:=eI.cell q0;have cc7:=eI.cell q1;have cc8:=eI.cell q2;have cc9:=eI.cell q3;have cc10:=eI.cell s0;have cc11:=eI.cell s1;have cc12:=eI.cell s2;have cc13:=eI.cell s3;have cc14:=eI.cell t0;have cc15:=eI.cell t1;have cc16:=eI.cell t2;have cc17:=eI.cell t3
   ·go_simp;exact hK.out _ _ (Ext.refl _) (hPB7.ext eI)
   have o3:=oOf (hB 3 (by kernel_rfl)) rfl
   rotate_left
   obtain⟨x90,s90,j90⟩:=hA 16 (by kernel_rfl) 90 rfl;obtain rfl:x90=(.pointer (some ⟨w.heap.size,1,none⟩)):=j90;have cc0:=eI.cell a1;have cc1:=eI.cell a2;have cc2:=eI.cell p0;have cc3:=eI.cell p1;have cc4:=eI.cell p2;have cc5:=eI.cell p3;have cc6:=eI.cell q0;have cc7:=eI.cell q1;have cc8:=eI.cell q2;have cc9:=eI.cell q3;have cc10:=eI.cell s0;have cc11:=eI.cell s1;have cc12:=eI.cell s2;have cc13:=eI.cell s3;have cc14:=eI.cell t0;have cc15:=eI.cell t1;have cc16:=eI.cell t2;have cc17:=eI.cell t3
   rotate_left
   have o2:=oOf (hB 2 (by kernel_rfl)) rfl
   rotate_left
   obtain⟨x91,s91,j91⟩:=hA 17 (by kernel_rfl) 91 rfl;obtain rfl:x91=(.slice (some ⟨b2,off2,none⟩) m c2):=j91;obtain⟨x92,s92,j92⟩:=hA 18 (by kernel_rfl) 92 rfl;obtain rfl:x92=(.int .i64 (b:Int)):=j92
   rotate_left
   obtain⟨x93,s93,j93⟩:=hA 19 (by kernel_rfl) 93 rfl;obtain rfl:x93=(.pointer (some ⟨b2,off2+b*4,none⟩)):=j93;clear hB hA;have cc0:=eI.cell a1;have cc1:=eI.cell a2;have cc2:=eI.cell p0;have cc3:=eI.cell p1;have cc4:=eI.cell p2;have cc5:=eI.cell p3;have cc6:=eI.cell q0;have cc7:=eI.cell q1;have cc8:=eI.cell q2;have cc9:=eI.cell q3;have cc10:=eI.cell s0;have cc11:=eI.cell s1;have cc12:=eI.cell s2;have cc13:=eI.cell s3;have cc14:=eI.cell t0;have cc15:=eI.cell t1;have cc16:=eI.cell t2;have cc17:=eI.cell t3
   ·go_simp;exact hK.out _ _ (Ext.refl _) (hYB.ext eI)
   obtain⟨x89,s89,j89⟩:=hA 15 (by kernel_rfl) 89 rfl;replace j89:Mn.p (Mn.rat N (p b)) x89 wi:=j89;obtain⟨x94,s94,j94⟩:=hA 20 (by kernel_rfl) 94 rfl;replace j94:Mn.p (Mn.rat N (y b)) x94 wi:=j94;clear hB hA
   ·go_simp;refine (f_mul j89 j94 HSP.out.2.1 HSP.out.2.2.2.1).mono ?_;rintro e wj ⟨vj,rfl,hj,ej⟩;go_wp2_with fail;exact hK.out _ _ ej hj
   obtain⟨x84,s84,j84⟩:=hA 10 (by kernel_rfl) 84 rfl;replace j84:Mn.p (Mn.rat N (p a*y a)) x84 wi:=j84;obtain⟨x95,s95,j95⟩:=hA 21 (by kernel_rfl) 95 rfl;replace j95:Mn.p (Mn.rat N (p b*y b)) x95 wi:=j95;clear hB hA
   ·go_simp;refine (f_add j84 j95 HSP.out.2.2.2.2.2.1 HSP.out.2.2.2.2.2.2.1).mono ?_;rintro e wj ⟨vj,rfl,hj,ej⟩;go_wp2_with fail;exact hK.out _ _ ej hj
   clear hB hA
   ·go_simp;refine boxes1 ?_;intro wj ej hszj BJ;exact hK.out _ _ ej ⟨_,rfl,eI.size,BJ⟩
   all_goals clear hB hA
   all_goals go_simp
   all_goals exact hK.out _ _ (Ext.refl _) rfl
  intro vals wz eZ hJ;have J78:Mn.p (Mn.rat N (p a)) (vals 4) wz:=hJ 4 (by decide) (by decide);have J83:Mn.p (Mn.rat N (y a)) (vals 9) wz:=hJ 9 (by decide) (by decide);have J84:Mn.p (Mn.rat N (p a*y a)) (vals 10) wz:=hJ 10 (by decide) (by decide);have J89:Mn.p (Mn.rat N (p b)) (vals 15) wz:=hJ 15 (by decide) (by decide);have J94:Mn.p (Mn.rat N (y b)) (vals 20) wz:=hJ 20 (by decide) (by decide);have J95:Mn.p (Mn.rat N (p b*y b)) (vals 21) wz:=hJ 21 (by decide) (by decide);have J96:Mn.p (Mn.rat N (p a*y a+p b*y b)) (vals 22) wz:=hJ 22 (by decide) (by decide);have J10:Mn.p (Mn.blk w7.heap.size (.cells #[.bool false,.slice none 0 0,.bool false,.slice none 0 0] 44 (0,0))) (vals 23) wz:=hJ 23 (by decide) (by decide);clear hJ;simp only [pr,Nat.reduceAdd]
  generalize vals 4=z78 at J78 ⊢
  generalize vals 9=z83 at J83 ⊢
  generalize vals 10=z84 at J84 ⊢
  generalize vals 15=z89 at J89 ⊢
  generalize vals 20=z94 at J94 ⊢
  generalize vals 21=z95 at J95 ⊢
  generalize vals 22=z96 at J96 ⊢
  generalize vals 23=z10 at J10 ⊢
  obtain⟨gV,rfl,hgV,BG⟩:=J10;obtain⟨bz,Az,kz,cz,Az',kz',cz',rfl,hbz,gz1,gz2⟩:=RatV.parts J96;obtain⟨r0,r1,r2,r3,r4,r5,r6,r7⟩:=cells4 BG;refine stepL_late (i:=24) rfl (by kernel_rfl) (by kernel_rfl) (fun K hK=>?_);go_simp;refine hK.out _ _ ?_;clear hK K;try simp only [nr]
  refine stepL_done (by kernel_rfl) ?_ _;obtain⟨w8,E8,hBV,K8,hs8⟩:=boxSet (q:=p a*y a+p b*y b) BG (by omega) hbz gz1 gz2;rw [E8];have hgV8:gV < w8.heap.size:=by have:=blk_lt BG; omega
  have eW8:Ext w7 w8:=K8.ext eZ hgV;have hBW8:=(hBW.ext eZ).chg K8 (by omega) (by omega);replace hE:=hE.trans eW8;replace B4:=eW8.block B4;replace B0:=eW8.block B0;clear r0 r1 r2 r3 r4 r5 r6 r7 a0 a1 a2 BG hbz gz1 gz2 E8 K8 J78 J83 J84 J89 J94 J95 J96 eZ hs8 hPA7 hPB7 hYA hYB eW8 hBW p0 p1 p2 p3 q0 q1 q2 q3 s0 s1 s2 s3 t0 t1 t2 t3;obtain⟨a0,a1,a2,-⟩:=cells3 B0;have hl48:=blk_lt B4;go_wp2_with (go_at_call 88; refine Hid.out ?_);refine (n_cut (hI1.ext hE) (hI2.ext hE) (hI3.ext hE) hm hn0 (by omega) hb).mono ?_;rintro e w9 ⟨v,rfl,hV,e9⟩;obtain⟨h,cap,g2,cap2,g3,cap3,lo9,rfl,l1,l2,l3,hM9,l4,l5,hr2,l6,l7,hr3⟩:=hV;have hBW9:=hBW8.ext e9;have hBV9:=hBV.ext e9;have hs8:=hE.size;have hs9:=e9.size;have hg3l:=hr3.lt;replace hE:=hE.trans e9;replace B4:=e9.block B4;clear a0 a1 a2 e9 hBW8 hBV B0;have hfr:b1=b1:=rfl;go_upto_region 12 with (fail);refine boxes1 ?_;intro w10 e10 hsz10 BT;obtain⟨gt,hgt⟩:∃ gt,gt=w9.heap.size:=⟨_,rfl⟩
  rw [←hgt] at BT hsz10 ⊢;replace hr2:=hr2.ext e10;replace hr3:=hr3.ext e10;replace hM9:=hM9.ext e10;have hBW10:=hBW9.ext e10;have hBV10:=hBV9.ext e10;replace hE:=hE.trans e10;replace B4:=e10.block B4;have hs10:=e10.size;have hgt1:w9.heap.size≤gt:=by omega
  have hgt2:gt≤w9.heap.size:=by omega
  clear e10 hBW9 hBV9 hfr hgt;obtain⟨d0,d1,d2,-⟩:=cells3 BT;obtain⟨n5,A13,k13,c13,A14,k14,c14,BW,hb5,z1,z2⟩:=hBW10;obtain⟨f0,f1,f2,f3,-⟩:=cells4 BW;obtain⟨zb,zA,zn,zc,zA2,zn2,zc2,u0,u1,u2,u3,u4,u5,u6,u7,-⟩:=hr3.at_ (i:=a) (by omega);go_upto_region 13 with (fail);obtain⟨w11,E11,C11,hs11,hr11⟩:=hr3.set (i:=a) (q:=p a+p b) (by omega) (by omega) hb5 z1 z2;rw [E11];have hr3':RowB N w11 g3 cap3 (m - 1) (mgP a b p):=(hr11.less (n':=m - 1) (by omega)).congr (fun j _=>rfl);have hr2':=hr2.chg C11 (by omega) (by omega);have hM11:=hM9.chg C11 (by omega) (.inr (by omega));have BT11:=C11.blk BT (by omega);have BW11:=C11.blk BW (.inl (by omega));have hBV11:=hBV10.chg C11 (by omega) (by omega);have z1':=z1.chg C11 (by omega);have z2':=z2.chg C11 (by omega);have B411:=C11.blk B4 (.inl (by omega));have hE11:=C11.ext hE (by omega);clear E11 hr11 hr3 hr2 hM9 BT BW hBV10 z1 z2 B4 hE C11 d0 d1 d2 f0 f1 f2 f3 u0 u1 u2 u3 u4 u5 u6 u7;obtain⟨n6,A15,k15,c15,A16,k16,c16,BV11,hb6,z3,z4⟩:=hBV11;obtain⟨d0,d1,d2,-⟩:=cells3 BT11;obtain⟨f0,f1,f2,f3,-⟩:=cells4 BW11;obtain⟨e0,e1,e2,e3,-⟩:=cells4 BV11;have hWR:RatV N w11 (.agg #[.bool n5,.slice A13 k13 c13,.bool false,.slice A14 k14 c14]) (p a+p b):=RatV.mk hb5 z1' z2';have hVR:RatV N w11 (.agg #[.bool n6,.slice A15 k15 c15,.bool false,.slice A16 k16 c16]) (p a*y a+p b*y b):=RatV.mk hb6 z3 z4;clear hb5 z1' z2' hb6 z3 z4;obtain⟨QT,hQT⟩:=hid_eq ((p a*y a+p b*y b) / (p a+p b))
  refine regS [Mn.eq (.pointer (some ⟨gt,1,none⟩)),Mn.eq (.slice (some ⟨g2,0,none⟩) (m - 1) cap2),Mn.eq (.int .i64 (a:Int)),Mn.rat N (p a*y a+p b*y b),Mn.rat N (p a+p b),Mn.rc N QT,Mn.rc N QT,Mn.rat N QT,Mn.eq (.int .i64 0),Mn.eq (.pointer (some ⟨g2,a*4,none⟩)),Mn.any] [some 106,some 107,some 108,some 109,some 110,some 111,some 105,some 112,some 113,some 114,none] [10] [8] [true,true,true,true,true,true,true,true,true,true,false] 1 (by kernel_rfl) ?_ ?_ ?_
  ·show ∀ i,i < 11→_
   iterate 11 refine fs ?_ ?_
   ·exact fz
   all_goals intro hl hs
   all_goals first | exact absurd hl (by decide) | exact absurd hs (by decide) | skip
   all_goals clear hl hs
   all_goals refine stp rfl ?_
   all_goals intro ac wi eI hB hA K hK
   have o11:=oOf (hB 11 (by kernel_rfl)) rfl
   rotate_left
   obtain⟨_,s106,rfl⟩:=hA 0 (by kernel_rfl) 106 rfl;have cc0:=eI.cell d1
   rotate_left
   have o1:=oOf (hB 1 (by kernel_rfl)) rfl
   rotate_left
   have o10:=oOf (hB 10 (by kernel_rfl)) rfl;clear hB hA;have cc0:=eI.cell e0;have cc1:=eI.cell e1;have cc2:=eI.cell e2;have cc3:=eI.cell e3
   ·go_simp;exact hK.out _ _ (Ext.refl _) (hVR.ext eI)
   have o9:=oOf (hB 9 (by kernel_rfl)) rfl;clear hB hA;have cc0:=eI.cell f0;have cc1:=eI.cell f1;have cc2:=eI.cell f2;have cc3:=eI.cell f3
   ·go_simp;exact hK.out _ _ (Ext.refl _) (hWR.ext eI)
   obtain⟨x109,s109,j109⟩:=hA 3 (by kernel_rfl) 109 rfl;replace j109:Mn.p (Mn.rat N (p a*y a+p b*y b)) x109 wi:=j109;obtain⟨x110,s110,j110⟩:=hA 4 (by kernel_rfl) 110 rfl;replace j110:Mn.p (Mn.rat N (p a+p b)) x110 wi:=j110;clear hB hA
   ·go_simp;refine (f_divide j109 j110 HSP.out.2.2.2.2.2.2.2 HSP.out.2.2.2.2.1 HPN.out).mono ?_;rw [←hQT.out];rintro e wj ⟨vj,rfl,hj,ej⟩;go_wp2_with fail;exact hK.out _ _ ej ⟨vj,rfl,hj⟩
   obtain⟨x111,s111,j111⟩:=hA 5 (by kernel_rfl) 111 rfl;replace j111:Mn.p (Mn.rc N QT) x111 wi:=j111;clear hB hA
   ·go_simp;exact hK.out _ _ (Ext.refl _) j111
   obtain⟨x105,s105,j105⟩:=hA 6 (by kernel_rfl) 105 rfl;replace j105:Mn.p (Mn.rc N QT) x105 wi:=j105;clear hB hA
   ·obtain⟨vj,rfl,hj⟩:=j105;go_simp;exact hK.out _ _ (Ext.refl _) hj
   obtain⟨_,s107,rfl⟩:=hA 1 (by kernel_rfl) 107 rfl;obtain⟨_,s108,rfl⟩:=hA 2 (by kernel_rfl) 108 rfl;clear hB hA
   ·go_simp;rw [if_pos (by omega)];exact hK.out _ _ (Ext.refl _) rfl
   all_goals clear hB hA
   all_goals go_simp
   all_goals exact hK.out _ _ (Ext.refl _) rfl
  ·intro i hs;have hi':i=8:=by simpa using hs
   clear hs
   rcases hi' with rfl
   ·refine sft rfl (fun _ _ _ _ h=>h) ?_;intro ac wi eI hB hA;obtain⟨x105,s105,j105⟩:=hA 6 (by kernel_rfl) 105 rfl;replace j105:Mn.p (Mn.rc N QT) x105 wi:=j105;clear hB hA;obtain⟨vj,rfl,hj⟩:=j105;refine⟨(.int .i64 0),.inl ⟨rfl,fun w9 _=>?_⟩,rfl⟩;go_simp
  intro vals wz eZ hJ;have J112:Mn.p (Mn.rat N QT) (vals 7) wz:=hJ 7 (by decide) (by decide);have J114:vals 9=_:=hJ 9 (by decide) (by decide);clear hJ;simp only [pr,Nat.reduceAdd,J114];clear J114
  generalize vals 7=z112 at J112 ⊢
  obtain⟨bz,Az,kz,cz,Az',kz',cz',rfl,hbz,gz1,gz2⟩:=RatV.parts J112;obtain⟨zb,zA,zn,zc,zA2,zn2,zc2,u0,u1,u2,u3,u4,u5,u6,u7,-⟩:=(hr2'.ext eZ).at_ (i:=a) (by omega);refine stepL_late (i:=10) rfl (by kernel_rfl) (by kernel_rfl) (fun K hK=>?_);go_simp;refine hK.out _ _ ?_;clear hK K;try simp only [nr]
  refine stepL_done (by kernel_rfl) ?_ _;obtain⟨w12,E12,C12,hs12,hr12⟩:=(hr2'.ext eZ).set (i:=a) (q:=QT) (by omega) (by omega) hbz gz1 gz2;rw [E12];have hr2'':RowB N w12 g2 cap2 (m - 1) (mgL a b y p):=(hr12.less (n':=m - 1) (by omega)).congr (fun j _=>by rw [hQT.out]; rfl);have hr3'':=(hr3'.ext eZ).chg C12 (by omega) (by omega);have hM12:=(hM11.ext eZ).chg C12 (by omega) (.inr (by omega));have BT12:=C12.blk (eZ.block BT11) (by omega);have B412:=C12.blk (eZ.block B411) (.inl (by omega));have hE12:=C12.ext (hE11.trans eZ) (by omega);have hsZ:=eZ.size;clear E12 hr12 hr3' hr2' hM11 BT11 BW11 BV11 B411 hE11 C12 d0 d1 d2 e0 e1 e2 e3 f0 f1 f2 f3 u0 u1 u2 u3 u4 u5 u6 u7 hWR hVR J112 hbz gz1 gz2 eZ;obtain⟨d0,d1,d2,-⟩:=cells3 BT12;obtain⟨u0,u1,u2,u3,u4,u5⟩:=cells3 B412;go_wp2;obtain⟨w13,E13,D13,U13⟩:=ex3 B412 (.slice (some ⟨h,0,none⟩) (m - 1) cap) (.slice (some ⟨g2,0,none⟩) (m - 1) cap2) (.slice (some ⟨g3,0,none⟩) (m - 1) cap3);rw [E13];have C13:=U13.chg (NoU.mk B412 (by decide));have hM13:=hM12.chg C13 (by omega) (.inr (by omega));have hr213:=hr2''.chg C13 (by omega) (by omega);have hr313:=hr3''.chg C13 (by omega) (by omega);have hE13:=C13.ext hE12 (by omega);have hs13:=U13.size;obtain⟨x0,x1,x2,-⟩:=cells3 D13;clear d0 d1 d2 u0 u1 u2 u3 u4 u5 E13;refine bodyPost_ret (v:=.tuple #[.agg #[.slice (some ⟨h,0,none⟩) (m - 1) cap,.slice (some ⟨g2,0,none⟩) (m - 1) cap2,.slice (some ⟨g3,0,none⟩) (m - 1) cap3],.int .i64 0]) ?_ rfl ?_
  ·simp [results,x0,x1,x2,go_sem]
  ·rw [hRf.out];exact⟨_,rfl,⟨h,cap,g2,cap2,g3,cap3,lo9,rfl,by omega,l2,l3,MtR.wide hM13 (Nat.le_refl _) hM13.2.1 (Nat.le_refl _),l4,l5,hr213,l6,l7,hr313⟩,hE13⟩
theorem sign_zero {x y:Rat}:(x - y).num.sign=0↔x=y:=by
 constructor
 ·intro h;have h1:=Int.sign_eq_zero_iff_zero.1 h;have h2:=Rat.num_eq_zero.1 h1
  grind
 ·rintro rfl;rw [Rat.sub_self]; rfl
theorem r2_sameD {N:Nat} {w:World} {v v':Value} {x y:Rat} (h:RatV N w v x) (h':RatV N w v' y) (hz:Sz x) (hz':Sz y) (hd:Sz (x - y)) :
  Calls Tryz.prog 36 #[v,v'] w (RetV w (.bool (decide (x=y)))):=by
 obtain⟨r,hr⟩:=hid_eq (decide (x=y));obtain⟨s,hs⟩:=hid_eq (x - y).num.sign
 have hrs:r=decide (s=0):=by
  rw [hr.out,hs.out]
  by_cases he:x=y
  ·rw [decide_eq_true he,decide_eq_true (sign_zero.2 he)]
  ·rw [decide_eq_false he,decide_eq_false (fun h=>he (sign_zero.1 h))]
 rw [←hr.out];have HD:=Lib.hid hd;have hI:=h;have hI':=h';have HZ:=Lib.hid hz;have HZ':=Lib.hid hz';have HR:=Lib.hid hrs;obtain⟨m1,X1,i1,d1,X2,i2,d2,rfl,hm1,gx1,gx2⟩:=h.parts;obtain⟨m2,Y1,i3,d3,Y2,i4,d4,rfl,hm2,gy1,gy2⟩:=h'.parts;clear hz hz' hd h h' gx1 gx2 gy1 gy2 hrs;go_enter Tryz.func36,Tryz.ntmps36;go_wp2_with (go_at_call 43; refine Hid.out ?_);refine boxesC2 ?_;intro W hE hsz B0 B1;refine (r2_valid (R:=raw x) (hI.ext hE) (sz_len HZ.out).1 (sz_len HZ.out).2).mono ?_;rintro e w1 ⟨rfl,e1⟩;rw [okR_raw];replace hE:=hE.trans e1;replace B0:=e1.block B0;replace B1:=e1.block B1;obtain⟨b0,b1,b2,b3,-⟩:=cells4 B1;go_wp2_with (go_at_call 43; refine Hid.out ?_);refine (r2_valid (R:=raw y) (hI'.ext hE) (sz_len HZ'.out).1 (sz_len HZ'.out).2).mono ?_;rintro e w2 ⟨rfl,e2⟩;rw [okR_raw];replace hE:=hE.trans e2;replace B0:=e2.block B0;replace B1:=e2.block B1;clear b0 b1 b2 b3;obtain⟨a0,a1,a2,a3,-⟩:=cells4 B0;obtain⟨b0,b1,b2,b3,-⟩:=cells4 B1;go_wp2_with (go_at_call 20; refine Hid.out ?_);refine (r2_compare (hI.ext hE) (hI'.ext hE) HZ.out HZ'.out HD.out).mono ?_;rintro e w3 ⟨rfl,e3⟩;rw [←hs.out]
 by_cases h0:s=0
 ·have HR1:Hid (r=true):=by rw [Hid,HR.out,decide_eq_true h0]
  subst h0;go_wp2;go_ret;exact⟨ret_bool HR1.out.symm,hE.trans e3⟩
 ·have HR1:Hid (r=false):=by rw [Hid,HR.out,decide_eq_false h0]
  have hs0:(s == 0)=false:=by simpa using h0
  go_wp2;go_ret;exact⟨ret_bool HR1.out.symm,hE.trans e3⟩
theorem r2_sameListD {N lo hi lo' hi':Nat} {w:World} {v v':Value} {n:Nat} {x y:Nat→Rat} (h:LsV N lo hi w v n x) (h':LsV N lo' hi' w v' n y) (hz:∀ i,i < n→Sz (x i)∧Sz (y i)∧Sz (x i - y i)) :
  Calls Tryz.prog 25 #[v,v'] w (RetV w (.bool (allB n (fun i=>decide (x i=y i))))):=by
 obtain⟨r,hr⟩:=hid_eq (allB n (fun i=>decide (x i=y i)));rw [←hr.out];obtain⟨A,c,rfl,hnc,hcm⟩:=h.form;obtain⟨A',c',rfl,hnc',hcm'⟩:=h'.form;unfold maxLen at hcm hcm';have hI:=h;have hI':=h';have HZ:=Lib.hid hz;clear hz h h';go_enter Tryz.func25,Tryz.ntmps25;go_wp2
 go_loopw [5] (fun i wr=>∃ k:Nat,k≤n∧i=.int .i64 k∧Ext w wr∧Hid (∀ j,j < k→decide (x j=y j)=true)) (fun i _=>n - (intOf i).toNat)
 case atStart=>exact⟨0,Nat.zero_le _,rfl,Ext.refl w,fun j hj=>absurd hj (by omega)⟩
 case round =>
  obtain⟨k,hk,rfl,hE,HA⟩:=hrel
  by_cases hlt:k < n
  ·obtain⟨b,off,rfl,-,-,hx⟩:=(hI.ext hE).addr (by omega);obtain⟨b',off',rfl,-,-,hx'⟩:=(hI'.ext hE).addr (by omega);obtain⟨A1,n1,c1,A2,n2,c2,p0,p1,p2,p3,hv⟩:=(hx k hlt).val;obtain⟨A3,n3,c3,A4,n4,c4,q0,q1,q2,q3,hv'⟩:=(hx' k hlt).val;obtain⟨o,ho⟩:=hid_eq (decide (x k=y k));clear hx hx';go_wp2
   go_cut [26] (fun pb wx=>pb=.bool (!o)∧Ext wr wx)
   case first =>
    have eC:=(Ext.refl wr).drew;refine region_late (fun w'=>w'.cell? ⟨b,off+k*4,none⟩=some (.bool (raw (x k)).b1)∧w'.cell? ⟨b,off+k*4+1,none⟩=some (.slice A1 n1 c1)∧w'.cell? ⟨b,off+k*4+2,none⟩=some (.bool (raw (x k)).b2)∧w'.cell? ⟨b,off+k*4+3,none⟩=some (.slice A2 n2 c2)∧w'.cell? ⟨b',off'+k*4,none⟩=some (.bool (raw (y k)).b1)∧w'.cell? ⟨b',off'+k*4+1,none⟩=some (.slice A3 n3 c3)∧w'.cell? ⟨b',off'+k*4+2,none⟩=some (.bool (raw (y k)).b2)∧w'.cell? ⟨b',off'+k*4+3,none⟩=some (.slice A4 n4 c4)) [] (by kernel_rfl) (by exact⟨eC.cell p0,eC.cell p1,eC.cell p2,eC.cell p3,eC.cell q0,eC.cell q1,eC.cell q2,eC.cell q3⟩) (fun hHeld=>?_);refine sP 0 (h:=?_);try simp only [nr]
    refine sP 1 (h:=?_);try simp only [nr]
    refine sP 2 (h:=?_);try simp only [nr]
    refine sT 3 (h:=?_);try simp only [nr]
    refine sP 4 (h:=?_);try simp only [nr]
    refine sP 5 (h:=?_);try simp only [nr]
    refine sP 6 (h:=?_);try simp only [nr]
    refine sT 7 (h:=?_);try simp only [nr]
    refine stepL_only (i:=8) rfl (by kernel_rfl) (fun K hK=>?_);go_simp;refine (r2_sameD (x:=x k) (y:=y k) (by exact hv.ext eC) (by exact hv'.ext eC) (HZ.out k hlt).1 (HZ.out k hlt).2.1 (HZ.out k hlt).2.2).mono ?_;rw [←ho.out];rintro e w1 ⟨rfl,e1⟩;replace eC:=eC.trans e1;go_wp2_with fail;clear hHeld;refine hK.out _ _ (by exact⟨eC.cell p0,eC.cell p1,eC.cell p2,eC.cell p3,eC.cell q0,eC.cell q1,eC.cell q2,eC.cell q3⟩) fun hHeld=>?_
    clear hK K;try simp only [nr]
    refine sP 9 (h:=?_);try simp only [nr]
    refine stepL_done (by kernel_rfl) ?_ _;clear hHeld;go_wp2_with fail
    go_meet
    exact⟨rfl,eC⟩
   case rest =>
    obtain⟨rfl,e1⟩:=hcut;replace hE:=hE.trans e1;have HO:Hid (decide (x k=y k)=o):=ho.out.symm;clear p0 p1 p2 p3 q0 q1 q2 q3 hv hv' ho;cases ho':o with
    | true =>
     subst ho';go_wp2;go_roundw
     case rel=>exact⟨k+1,by omega,by go_num,hE,all_succ (p:=fun j=>decide (x j=y j)=true) HA.out HO.out⟩
     case measure=>simp [intOf]; omega
    | false =>
     subst ho';have HF:Hid (r=false):=by rw [Hid,hr.out]; exact allB_false hlt HO.out
     go_wp2;go_ret;exact⟨ret_bool HF.out.symm,hE⟩
  ·have HF:Hid (r=true):=by rw [Hid,hr.out]; exact allB_true.2 (fun j hj=>HA.out j (by omega))
   go_wp2;go_ret;exact⟨ret_bool HF.out.symm,hE⟩
end Go.Proofs.YtccepmpebioeiaaGreat
