import Derived.Test.YtphpkhoeplcedaaGreatWb14
set_option linter.all false
set_option maxHeartbeats 8000000
namespace Go.Proofs.YtphpkhoeplcedaaGreat
open Go.RowKit
theorem frn0 (x y z u:Value) (w:World):(Instr.field 29 (.agg #[x,y,z,u]) 0).run Tryz.prog w=.ok (.agg #[x,y]) w:=by kernel_rfl
theorem sz_len {q:Rat} (h:Sz q):(raw q).l1.length≤10000000000∧(raw q).l2.length≤10000000000:=by
 obtain⟨h1,h2⟩:=h;unfold ln at h1 h2;unfold raw;exact⟨by show (dg q.num.natAbs).length≤_; omega,by show (dg q.den).length≤_; omega⟩
theorem f_value {N:Nat} {w:World} {v:Value} {q:Rat} (h:RatV N w v q) (hz:Sz q) :
  Calls Tryz.prog 111 #[v] w (RetR N w q):=by
 have hN:=h.le;have hI:=h;obtain⟨n1,A1,k1,c1,A2,k2,c2,rfl,hb1,g1,g2⟩:=h.parts;have HZ:=Lib.hid hz;clear hz h;go_enter Tryz.func111,Tryz.ntmps111;go_wp2_with (go_at_call 98; refine Hid.out ?_);refine boxesC2 ?_;intro W hE hsz B0 B1;refine (f_valid (R:=raw q) (hI.ext hE) (sz_len HZ.out).1 (sz_len HZ.out).2).mono ?_;rintro e w1 ⟨rfl,e1⟩;rw [okR_raw];replace hE:=hE.trans e1;replace B0:=e1.block B0;replace B1:=e1.block B1;obtain⟨a0,a1,a2,a3,-⟩:=cells4 B0;go_wp2_with (go_at_call 160; refine Hid.out ?_);refine (f_copied (hI.ext hE) HZ.out).mono ?_;intro e w2 hh;obtain⟨n3,A3,k3,c3,A4,k4,c4,rfl,hb3,g3,g4,e2⟩:=hh.form;replace B1:=e2.block B1;obtain⟨r0,r1,r2,r3,r4,r5,r6,r7⟩:=cells4 B1;go_wp2;exact fin_rat rfl rfl rfl (hE.trans e2) B1 (by omega) hN g3 g4 hb3
theorem f_sign {N:Nat} {w:World} {v:Value} {q:Rat} (h:RatV N w v q) (hz:Sz q) :
  Calls Tryz.prog 59 #[v] w (RetV w (.int .i64 q.num.sign)):=by
 obtain⟨s,hs⟩:=hid_eq q.num.sign;rw [←hs.out];have hN:=h.le;have hI:=h;obtain⟨n1,A1,k1,c1,A2,k2,c2,rfl,hb1,g1,g2⟩:=h.parts;have HZ:=Lib.hid hz;clear hz h;go_enter Tryz.func59,Tryz.ntmps59;go_wp2_with (go_at_call 111; refine Hid.out ?_);refine boxesC1 ?_;intro W hE hsz B0;refine (f_value (hI.ext hE) HZ.out).mono ?_;intro e w1 hh;obtain⟨n3,A3,k3,c3,A4,k4,c4,rfl,hb3,g3,g4,e1⟩:=hh.form;have hfl:=fun w=>frn0 (.bool n3) (.slice A3 k3 c3) (.bool false) (.slice A4 k4 c4) w
 go_wp2_with (go_at_call 110; refine Hid.out ?_);refine (i_sign (num_intV hb3 g3)).mono ?_;rintro e w2 ⟨rfl,e2⟩;rw [←hs.out];go_wp2;go_ret;exact⟨rfl,(hE.trans e1).trans e2⟩
theorem f_neg {N:Nat} {w:World} {v:Value} {q:Rat} (h:RatV N w v q) (hz:Sz q) :
  Calls Tryz.prog 200 #[v] w (RetR N w (-q)):=by
 obtain⟨p,hp⟩:=hid_eq (-q);rw [←hp.out];have HP:Hid (p.num = -q.num∧p.den=q.den):=by rw [hp.out]; exact⟨rfl,rfl⟩
 clear hp;have hN:=h.le;have hI:=h;obtain⟨n1,A1,k1,c1,A2,k2,c2,rfl,hb1,g1,g2⟩:=h.parts;have HZ:=Lib.hid hz;clear hz h;go_enter Tryz.func200,Tryz.ntmps200;go_wp2_with (go_at_call 111; refine Hid.out ?_);refine boxesC2 ?_;intro W hE hsz B0 B1;refine (f_value (hI.ext hE) HZ.out).mono ?_;intro e w1 hh;obtain⟨n3,A3,k3,c3,A4,k4,c4,rfl,hb3,g3,g4,e1⟩:=hh.form;replace hE:=hE.trans e1;replace B0:=e1.block B0;replace B1:=e1.block B1;obtain⟨a0,a1,a2,a3,a4,a5,a6,a7⟩:=cells4 B0;go_wp2;obtain⟨w2,E2,F0,U⟩:=ex4 B0 (.bool n3) (.slice A3 k3 c3) (.bool false) (.slice A4 k4 c4);rw [E2];replace g3:=g3.upd U (by omega) (NoU.mk B0 (by decide));replace g4:=g4.upd U (by omega) (NoU.mk B0 (by decide));replace hE:=U.ext hE (by omega);replace B1:=U.blk B1 (by omega);have hsz2:w.heap.size+2≤w2.heap.size:=by rw [U.size]; have:=e1.size; omega
 clear a0 a1 a2 a3 a4 a5 a6 a7 E2 U B0;obtain⟨a0,a1,a2,a3,a4,a5,a6,a7⟩:=cells4 F0;have eC:=(Ext.refl w2).drew
 go_region_held3 (fun w'=>w'.cell? ⟨w.heap.size,0,none⟩=some (.bool n3)∧w'.cell? ⟨w.heap.size,1,none⟩=some (.slice A3 k3 c3)∧w'.cell? ⟨w.heap.size,2,none⟩=some (.bool false)∧w'.cell? ⟨w.heap.size,3,none⟩=some (.slice A4 k4 c4))
  (first | exact⟨a0,a1,a2,a3⟩ | exact⟨eC.cell a0,eC.cell a1,eC.cell a2,eC.cell a3⟩ | exact⟨cell_far _ (cell_far _ (cell_far _ (cell_far _ (eC.cell a0) (by omega)) (by omega)) (by omega)) (by omega),cell_far _ (cell_far _ (cell_far _ (cell_far _ (eC.cell a1) (by omega)) (by omega)) (by omega)) (by omega),cell_far _ (cell_far _ (cell_far _ (cell_far _ (eC.cell a2) (by omega)) (by omega)) (by omega)) (by omega),cell_far _ (cell_far _ (cell_far _ (cell_far _ (eC.cell a3) (by omega)) (by omega)) (by omega)) (by omega)⟩)
  (first
   | (go_at_call_of 205 A3; refine (i_neg (z:=q.num) (by exact num_intV hb3 (g3.ext eC)) (by have:=HZ.out.1; omega)).mono ?_; intro e w5 hh; obtain⟨n5,A5,k5,c5,rfl,hb5,h5,e5⟩:=hh.form; replace eC:=eC.trans e5; obtain⟨r0,r1,r2,r3,r4,r5,r6,r7⟩:=cells4 (eC.block B1)))
 rw [←HP.out.1] at hb5 h5;rw [←HP.out.2] at g4;go_wp2;exact fin_rat rfl rfl rfl (hE.trans eC) (eC.block B1) (by omega) hN h5 (g4.ext eC) hb5
end Go.Proofs.YtphpkhoeplcedaaGreat
