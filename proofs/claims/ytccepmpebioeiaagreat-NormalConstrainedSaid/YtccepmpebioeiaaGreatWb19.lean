import Derived.Test.YtccepmpebioeiaaGreatWb17
import Derived.Test.YtccepmpebioeiaaGreatWb18
set_option linter.all false
set_option maxHeartbeats 8000000
namespace Go.Proofs.YtccepmpebioeiaaGreat
open Go.RowKit
theorem r2_mul {N:Nat} {w:World} {v v':Value} {x y:Rat} (h:RatV N w v x) (h':RatV N w v' y) (hz:Sz x) (hz':Sz y) :
  Calls Tryz.prog 102 #[v,v'] w (RetR N w (x*y)):=by
 obtain⟨q,hq⟩:=hid_eq (x*y)
 rw [←hq.out]
 have HQ:Hid (Rat.divInt (x.num*y.num) ((x.den:Int)*y.den)=q):=by rw [Hid,hq.out,mul_divInt]
 clear hq
 have hI:=h
 have hI':=h'
 have hN:=h.le
 obtain⟨m1,X1,i1,d1,X2,i2,d2,rfl,hm1,gx1,gx2⟩:=h.parts
 obtain⟨m2,Y1,i3,d3,Y2,i4,d4,rfl,hm2,gy1,gy2⟩:=h'.parts
 have HZ:=Lib.hid hz
 have HZ':=Lib.hid hz'
 clear hz hz' h h' gx1 gx2 gy1 gy2
 go_enter Tryz.func102,Tryz.ntmps102
 go_wp2_with (go_at_call 94; refine Hid.out ?_)
 refine boxesC3 ?_
 intro W hE hsz B0 B1 B2
 refine (r2_value (hI.ext hE) HZ.out).mono ?_
 intro e w1 hh
 obtain⟨n1,A1,k1,c1,A2,k2,c2,rfl,hb1,g1,g2,e1⟩:=hh.form
 replace hE:=hE.trans e1
 replace hsz:=Nat.le_trans hsz e1.size
 replace B1:=e1.block B1
 replace B2:=e1.block B2
 obtain⟨b0,b1,b2,b3,-⟩:=cells4 B1
 have hl1:w.heap.size+1 < w1.heap.size:=by omega
 go_wp2_with (go_at_call 94; refine Hid.out ?_)
 refine boxesC1 ?_
 intro W2 e2 hsz2 C0
 replace hE:=hE.trans e2
 refine (r2_value (hI'.ext hE) HZ'.out).mono ?_
 intro e w3 hh
 obtain⟨n2,A3,k3,c3,A4,k4,c4,rfl,hb2,g3,g4,e3⟩:=hh.form
 replace hE:=hE.trans e3
 have hsz3:w1.heap.size+1≤w3.heap.size:=by have:=e3.size; omega
 go_upto_region 3 with (fail)
 refine boxes1 ?_
 intro W4 e4 hsz4 C1
 replace hE:=hE.trans e4
 replace B2:=e4.block (e3.block (e2.block B2))
 replace C0:=e4.block (e3.block C0)
 replace g1:=((g1.ext e2).ext e3).ext e4
 replace g2:=((g2.ext e2).ext e3).ext e4
 replace g3:=g3.ext e4
 replace g4:=g4.ext e4
 clear b0 b1 b2 b3 B0 B1
 obtain⟨a0,a1,a2,a3,-⟩:=cells4 C0
 obtain⟨b0,b1,b2,b3,-⟩:=cells4 C1
 have eC:=(Ext.refl W4).drew
 go_region_held3 (fun w'=>(w'.cell? ⟨w1.heap.size,0,none⟩=some (.bool n1)∧w'.cell? ⟨w1.heap.size,1,none⟩=some (.slice A1 k1 c1)∧w'.cell? ⟨w1.heap.size,2,none⟩=some (.bool false)∧w'.cell? ⟨w1.heap.size,3,none⟩=some (.slice A2 k2 c2))∧(w'.cell? ⟨w3.heap.size,0,none⟩=some (.bool n2)∧w'.cell? ⟨w3.heap.size,1,none⟩=some (.slice A3 k3 c3)∧w'.cell? ⟨w3.heap.size,2,none⟩=some (.bool false)∧w'.cell? ⟨w3.heap.size,3,none⟩=some (.slice A4 k4 c4)))
  (first | exact⟨⟨a0,a1,a2,a3⟩,⟨b0,b1,b2,b3⟩⟩ | exact⟨⟨eC.cell a0,eC.cell a1,eC.cell a2,eC.cell a3⟩,⟨eC.cell b0,eC.cell b1,eC.cell b2,eC.cell b3⟩⟩ | exact⟨⟨cell_far _ (cell_far _ (cell_far _ (cell_far _ (eC.cell a0) (by omega)) (by omega)) (by omega)) (by omega),cell_far _ (cell_far _ (cell_far _ (cell_far _ (eC.cell a1) (by omega)) (by omega)) (by omega)) (by omega),cell_far _ (cell_far _ (cell_far _ (cell_far _ (eC.cell a2) (by omega)) (by omega)) (by omega)) (by omega),cell_far _ (cell_far _ (cell_far _ (cell_far _ (eC.cell a3) (by omega)) (by omega)) (by omega)) (by omega)⟩,⟨cell_far _ (cell_far _ (cell_far _ (cell_far _ (eC.cell b0) (by omega)) (by omega)) (by omega)) (by omega),cell_far _ (cell_far _ (cell_far _ (cell_far _ (eC.cell b1) (by omega)) (by omega)) (by omega)) (by omega),cell_far _ (cell_far _ (cell_far _ (cell_far _ (eC.cell b2) (by omega)) (by omega)) (by omega)) (by omega),cell_far _ (cell_far _ (cell_far _ (cell_far _ (eC.cell b3) (by omega)) (by omega)) (by omega)) (by omega)⟩⟩)
  (first
   | (go_at_call_of 101 A1; refine (r1_mul (by exact num_intV hb1 (g1.ext eC)) (by exact num_intV hb2 (g3.ext eC)) (by have:=HZ.out.1; omega) (by have:=HZ'.out.1; omega)).mono ?_; rintro e w5 ⟨v5,rfl,h5,e5⟩; replace eC:=eC.trans e5)
   | (go_at_call_of 101 A2; refine (r1_mul (by exact den_intV (g2.ext eC)) (by exact den_intV (g4.ext eC)) (by rw [Int.natAbs_natCast]; have:=HZ.out.2; omega) (by rw [Int.natAbs_natCast]; have:=HZ'.out.2; omega)).mono ?_; rintro e w6 ⟨v6,rfl,h6,e6⟩; replace eC:=eC.trans e6)
   | (go_at_call 155; refine (r2_reduced (by exact h5.ext e6) (by exact h6) (by have h8:=x.den_pos; have h9:=y.den_pos; exact Int.mul_ne_zero (by omega) (by omega)) (by rw [Int.natAbs_mul]; exact Nat.le_trans (ln_prod HZ.out.1 HZ'.out.1) (by omega)) (by rw [Int.natAbs_mul,Int.natAbs_natCast,Int.natAbs_natCast]; exact Nat.le_trans (ln_prod HZ.out.2 HZ'.out.2) (by omega))).mono ?_; rw [HQ.out]; intro e w7 hh; obtain⟨n7,A7,k7,c7,A8,k8,c8,rfl,hb7,h7,h8,e7⟩:=hh.form; replace eC:=eC.trans e7; obtain⟨r0,r1,r2,r3,r4,r5,r6,r7⟩:=cells4 (eC.block B2)))
 go_wp2
 exact fin_rat rfl rfl rfl (hE.trans eC) (eC.block B2) (by omega) hN h7 h8 hb7
end Go.Proofs.YtccepmpebioeiaaGreat
