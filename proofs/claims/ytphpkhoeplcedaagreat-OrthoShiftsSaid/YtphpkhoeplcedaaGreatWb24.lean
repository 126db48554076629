import Derived.Test.YtphpkhoeplcedaaGreatWb23
import Derived.Test.YtphpkhoeplcedaaGreatWb21
import Derived.Test.YtphpkhoeplcedaaGreatWb22
import Derived.Test.YtphpkhoeplcedaaGreatWb15
import Derived.Test.YtphpkhoeplcedaaGreatWb12
import Derived.Test.YtphpkhoeplcedaaGreatWb08
import Derived.Deep.CutBlock
set_option linter.all false
set_option maxHeartbeats 8000000
namespace Go.Proofs.YtphpkhoeplcedaaGreat
open Go.RowKit
theorem frm_wd {G:Grd} (h:sideZ G.wd=false):frmB G=false:=by unfold frmB; rw [h]; rfl
theorem frm_ht {G:Grd} (h:sideZ G.ht=false):frmB G=false:=by unfold frmB; rw [h]; simp
theorem frm_st {G:Grd} (h:¬(2≤G.st∧G.st≤65536∧G.st % 2=0)):frmB G=false:=by
 cases hb:frmB G with
 | false=>rfl
 | true =>
  unfold frmB at hb;simp only [Bool.and_eq_true,decide_eq_true_eq] at hb;exact absurd ⟨hb.1.1.1.1.2,hb.1.1.1.2,hb.1.1.2⟩ h
theorem frm_x0 {G:Grd} (h:farZ G.x0=true):frmB G=false:=by unfold frmB; rw [h]; simp
theorem frm_y0 {G:Grd} (h:farZ G.y0=true):frmB G=false:=by unfold frmB; rw [h]; simp
theorem frm_all {G:Grd} (h1:sideZ G.wd=true) (h2:sideZ G.ht=true) (h3:2≤G.st) (h4:G.st≤65536) (h5:G.st % 2=0) (h6:farZ G.x0=false) (h7:farZ G.y0=false):frmB G=true:=by
 unfold frmB;rw [h1,h2,h6,h7,decide_eq_true h3,decide_eq_true h4,decide_eq_true h5]
 rfl
theorem code_frm {G:Grd} (h:frmB G=false):grdCode G=2:=by unfold grdCode; rw [if_pos h]
theorem side_le {z:Int} (h:sideZ z=true):2≤z∧z≤64:=by
 unfold sideZ at h;simp only [Bool.and_eq_true,decide_eq_true_eq] at h;exact h
theorem code_len {G:Grd} (h:frmB G=true) (h':(G.n:Int)≠G.wd*G.ht):grdCode G=4:=by unfold grdCode; rw [if_neg (by rw [h]; decide),if_pos h']
theorem code_bad {G:Grd} (h:frmB G=true) (h':(G.n:Int)=G.wd*G.ht) (r:Bool) (hr:r=anyB G.n (fun i=>badZ (G.z i))):grdCode G=if r then 2 else 0:=by unfold grdCode; rw [if_neg (by rw [h]; decide),if_neg (by simpa using h'),hr]
set_option maxRecDepth 100000 in
theorem te_check {N lo hi:Nat} {w:World} {v:Value} {G:Grd} (h:GrdV N lo hi w v G) :
  Calls Tryz.prog 49 #[v] w (RetV w (.int .i64 (grdCode G))):=by
 obtain⟨A,c,rfl,hnc,hcm,hz⟩:=h.parts;obtain⟨r,hr⟩:=hid_eq (grdCode G);rw [←hr.out];have HZ:=Lib.hid hz;clear h hz;go_enter Tryz.func49,Tryz.ntmps49;go_upto_region 1 with (fail);refine boxes1 ?_;intro W hE hsz B0;obtain⟨a0,a1,a2,a3,a4,a5⟩:=cells_g B0;go_wp2_with (go_at_call 93; refine Hid.out ?_);refine (te_side W G.wd).mono ?_;rintro e w1 ⟨rfl,rfl⟩;cases h1:sideZ G.wd with
 | false =>
  have HR:Hid (r=2):=by rw [Hid,hr.out]; exact code_frm (frm_wd h1)
  go_wp2;go_ret;exact⟨ret_int HR.out.symm,hE⟩
 | true =>
 go_wp2_with (go_at_call 93; refine Hid.out ?_);refine (te_side _ G.ht).mono ?_;rintro e w1 ⟨rfl,rfl⟩;cases h2:sideZ G.ht with
 | false =>
  have HR:Hid (r=2):=by rw [Hid,hr.out]; exact code_frm (frm_ht h2)
  go_wp2;go_ret;exact⟨ret_int HR.out.symm,hE⟩
 | true =>
 by_cases h3:2≤G.st
 case neg =>
  have t3:decide (G.st < 2)=true:=decide_eq_true (by omega);have HR:Hid (r=2):=by rw [Hid,hr.out]; exact code_frm (frm_st (fun h=>h3 h.1))
  go_wp2;go_ret;exact⟨ret_int HR.out.symm,hE⟩
 have t3:decide (G.st < 2)=false:=decide_eq_false (by omega)
 by_cases h4:G.st≤65536
 case neg =>
  have t4:decide (65536 < G.st)=true:=decide_eq_true (by omega);have HR:Hid (r=2):=by rw [Hid,hr.out]; exact code_frm (frm_st (fun h=>h4 h.2.1))
  go_wp2;go_ret;exact⟨ret_int HR.out.symm,hE⟩
 have t4:decide (65536 < G.st)=false:=decide_eq_false (by omega)
 by_cases h5:G.st % 2=0
 case neg =>
  have t5:(G.st % 2 != 0)=true:=by simpa using h5
  have HR:Hid (r=2):=by rw [Hid,hr.out]; exact code_frm (frm_st (fun h=>h5 h.2.2))
  go_wp2;go_ret;exact⟨ret_int HR.out.symm,hE⟩
 have t5:(G.st % 2 != 0)=false:=by simpa using h5
 go_wp2_with (go_at_call 94; refine Hid.out ?_);refine (te_far _ G.x0).mono ?_;rintro e w1 ⟨rfl,rfl⟩;cases h6:farZ G.x0 with
 | true =>
  have HR:Hid (r=2):=by rw [Hid,hr.out]; exact code_frm (frm_x0 h6)
  go_wp2;go_ret;exact⟨ret_int HR.out.symm,hE⟩
 | false =>
 go_wp2_with (go_at_call 94; refine Hid.out ?_);refine (te_far _ G.y0).mono ?_;rintro e w1 ⟨rfl,rfl⟩;cases h7:farZ G.y0 with
 | true =>
  have HR:Hid (r=2):=by rw [Hid,hr.out]; exact code_frm (frm_y0 h7)
  go_wp2;go_ret;exact⟨ret_int HR.out.symm,hE⟩
 | false =>
 have HF:=Lib.hid (frm_all h1 h2 h3 h4 h5 h6 h7);have s1:=side_le h1;have s2:=side_le h2;obtain⟨pr,hpr⟩:=hid_eq (G.wd*G.ht);have hp0:0≤G.wd*G.ht:=Int.mul_nonneg (by omega) (by omega);have hp1:G.wd*G.ht≤64*64:=Int.mul_le_mul s1.2 s2.2 (by omega) (by omega);have hwr:IntKind.i64.wrap (G.wd*G.ht)=pr:=by rw [hpr.out]; exact IntWalk.i64_in _ (by omega)
 by_cases h8:(G.n:Int)=pr
 case neg =>
  have HR:Hid (r=4):=by rw [Hid,hr.out]; exact code_len HF.out (by rw [←hpr.out]; exact h8)
  have t8:((G.n:Int) != pr)=true:=by simpa using h8
  clear h8;go_wp2;go_ret;exact⟨ret_int HR.out.symm,hE⟩
 have t8:((G.n:Int) != pr)=false:=by simpa using h8
 obtain⟨q,hq⟩:=hid_eq (anyB G.n (fun i=>badZ (G.z i)));have HRQ:Hid (r=if q then 2 else 0):=by rw [Hid,hr.out]; exact code_bad HF.out (by rw [←hpr.out]; exact h8) q hq.out
 clear h8;go_wp2_with (go_at_call 95; refine Hid.out ?_);refine (sl_badZ (HZ.out.ext hE) (fun i=>badZ (G.z i)) (fun i hi w' u e hu=>by rw [hu.out]; exact (te_bad w' _).mono fun _ _ h=>h.v)).mono ?_;rintro e w1 ⟨rfl,e1⟩;rw [←hq.out];replace hE:=hE.trans e1;cases q with
 | true =>
  go_wp2;go_ret;exact⟨ret_int HRQ.out.symm,hE⟩
 | false =>
  go_wp2;go_ret;exact⟨ret_int HRQ.out.symm,hE⟩
theorem o_whole {N:Nat} {w:World} (hN:N≤w.heap.size) (n:Int) (h1 : -9223372036854775808≤n) (h2:n≤9223372036854775807) :
  Calls Tryz.prog 61 #[.int .i64 n] w (RetR N w (n:Rat)):=by
 obtain⟨q,hq⟩:=hid_eq (n:Rat);rw [←hq.out];go_enter Tryz.func61,Tryz.ntmps61;go_wp2_with (go_at_call 114; refine Hid.out ?_);refine boxesC1 ?_;intro W hE hsz B0;refine (f_whole (Nat.le_trans hN hE.size) n h1 h2).mono ?_;rw [←hq.out];intro e w1 hh;obtain⟨n3,A3,k3,c3,A4,k4,c4,rfl,hb3,g3,g4,e1⟩:=hh.form;replace hE:=hE.trans e1;replace B0:=e1.block B0;obtain⟨t0,t1,t2,t3,t4,t5,t6,t7⟩:=cells4 B0;go_wp2;exact fin_rat rfl rfl rfl hE B0 (by omega) hN g3 g4 hb3
theorem o_add {N:Nat} {w:World} {v v':Value} {x y:Rat} (h:RatV N w v x) (h':RatV N w v' y) (hz:Sz x) (hz':Sz y) :
  Calls Tryz.prog 103 #[v,v'] w (RetR N w (x+y)):=by
 obtain⟨q,hq⟩:=hid_eq (x+y);rw [←hq.out];have hN:=h.le;have hI:=h;have hI':=h';have HZ:=Lib.hid hz;have HZ':=Lib.hid hz';obtain⟨m1,X1,i1,d1,X2,i2,d2,rfl,hm1,gx1,gx2⟩:=h.parts;obtain⟨m2,Y1,i3,d3,Y2,i4,d4,rfl,hm2,gy1,gy2⟩:=h'.parts;clear hz hz' h h' gx1 gx2 gy1 gy2;go_enter Tryz.func103,Tryz.ntmps103;go_wp2_with (go_at_call 154; refine Hid.out ?_);refine boxesC3 ?_;intro W hE hsz B0 B1 B2;refine (f_add (hI.ext hE) (hI'.ext hE) HZ.out HZ'.out).mono ?_;rw [←hq.out];intro e w1 hh;obtain⟨n3,A3,k3,c3,A4,k4,c4,rfl,hb3,g3,g4,e1⟩:=hh.form;replace hE:=hE.trans e1;replace B2:=e1.block B2;obtain⟨t0,t1,t2,t3,t4,t5,t6,t7⟩:=cells4 B2;go_wp2;exact fin_rat rfl rfl rfl hE B2 (by omega) hN g3 g4 hb3
theorem o_sub {N:Nat} {w:World} {v v':Value} {x y:Rat} (h:RatV N w v x) (h':RatV N w v' y) (hz:Sz x) (hz':Sz y) :
  Calls Tryz.prog 101 #[v,v'] w (RetR N w (x - y)):=by
 obtain⟨q,hq⟩:=hid_eq (x - y);rw [←hq.out];have hN:=h.le;have hI:=h;have hI':=h';have HZ:=Lib.hid hz;have HZ':=Lib.hid hz';obtain⟨m1,X1,i1,d1,X2,i2,d2,rfl,hm1,gx1,gx2⟩:=h.parts;obtain⟨m2,Y1,i3,d3,Y2,i4,d4,rfl,hm2,gy1,gy2⟩:=h'.parts;clear hz hz' h h' gx1 gx2 gy1 gy2;go_enter Tryz.func101,Tryz.ntmps101;go_wp2_with (go_at_call 153; refine Hid.out ?_);refine boxesC3 ?_;intro W hE hsz B0 B1 B2;refine (f_sub (hI.ext hE) (hI'.ext hE) HZ.out HZ'.out).mono ?_;rw [←hq.out];intro e w1 hh;obtain⟨n3,A3,k3,c3,A4,k4,c4,rfl,hb3,g3,g4,e1⟩:=hh.form;replace hE:=hE.trans e1;replace B2:=e1.block B2;obtain⟨t0,t1,t2,t3,t4,t5,t6,t7⟩:=cells4 B2;go_wp2;exact fin_rat rfl rfl rfl hE B2 (by omega) hN g3 g4 hb3
theorem o_mul {N:Nat} {w:World} {v v':Value} {x y:Rat} (h:RatV N w v x) (h':RatV N w v' y) (hz:Sz x) (hz':Sz y) :
  Calls Tryz.prog 104 #[v,v'] w (RetR N w (x*y)):=by
 obtain⟨q,hq⟩:=hid_eq (x*y);rw [←hq.out];have hN:=h.le;have hI:=h;have hI':=h';have HZ:=Lib.hid hz;have HZ':=Lib.hid hz';obtain⟨m1,X1,i1,d1,X2,i2,d2,rfl,hm1,gx1,gx2⟩:=h.parts;obtain⟨m2,Y1,i3,d3,Y2,i4,d4,rfl,hm2,gy1,gy2⟩:=h'.parts;clear hz hz' h h' gx1 gx2 gy1 gy2;go_enter Tryz.func104,Tryz.ntmps104;go_wp2_with (go_at_call 155; refine Hid.out ?_);refine boxesC3 ?_;intro W hE hsz B0 B1 B2;refine (f_mul (hI.ext hE) (hI'.ext hE) HZ.out HZ'.out).mono ?_;rw [←hq.out];intro e w1 hh;obtain⟨n3,A3,k3,c3,A4,k4,c4,rfl,hb3,g3,g4,e1⟩:=hh.form;replace hE:=hE.trans e1;replace B2:=e1.block B2;obtain⟨t0,t1,t2,t3,t4,t5,t6,t7⟩:=cells4 B2;go_wp2;exact fin_rat rfl rfl rfl hE B2 (by omega) hN g3 g4 hb3
set_option maxRecDepth 100000 in
theorem o_over {N:Nat} {w:World} {v v':Value} {x y:Rat} (h:RatV N w v x) (h':RatV N w v' y) (hz:Sz x) (hz':Sz y) (hy:y≠0) :
  Calls Tryz.prog 100 #[v,v'] w (RetR N w (x / y)):=by
 obtain⟨q,hq⟩:=hid_eq (x / y);rw [←hq.out];have HY:=Lib.hid hy;clear hy;have hN:=h.le;have hI:=h;have hI':=h';have HZ:=Lib.hid hz;have HZ':=Lib.hid hz';obtain⟨m1,X1,i1,d1,X2,i2,d2,rfl,hm1,gx1,gx2⟩:=h.parts;obtain⟨m2,Y1,i3,d3,Y2,i4,d4,rfl,hm2,gy1,gy2⟩:=h'.parts;clear hz hz' h h' gx1 gx2 gy1 gy2;go_enter Tryz.func100,Tryz.ntmps100;go_wp2_with (go_at_call 152; refine Hid.out ?_);refine boxesC3 ?_;intro W hE hsz B0 B1 B2;refine (f_divide (hI.ext hE) (hI'.ext hE) HZ.out HZ'.out HY.out).mono ?_;rw [←hq.out];intro e w1 hh;obtain⟨n3,A3,k3,c3,A4,k4,c4,rfl,hb3,g3,g4,e1⟩:=hh.form;replace hE:=hE.trans e1;replace B2:=e1.block B2;have hsz1:=Nat.le_trans hsz e1.size;go_upto_region 2 with (fail);refine boxes1 ?_;intro w2 e2 hsz2 BX;replace hE:=hE.trans e2;replace B2:=e2.block B2;obtain⟨s0,s1,s2,s3,-⟩:=cells4 BX;obtain⟨t0,t1,t2,t3,t4,t5,t6,t7⟩:=cells4 B2;go_wp2;exact fin_rat rfl rfl rfl hE B2 (by omega) hN (g3.ext e2) (g4.ext e2) hb3
theorem l49_whole {N:Nat} {w:World} (hN:N≤w.heap.size) (n:Int) (h1 : -9223372036854775808≤n) (h2:n≤9223372036854775807) :
  Calls Tryz.prog 45 #[.int .i64 n] w (RetR N w (n:Rat)):=by
 obtain⟨q,hq⟩:=hid_eq (n:Rat);rw [←hq.out];go_enter Tryz.func45,Tryz.ntmps45;go_wp2_with (go_at_call 31; refine Hid.out ?_);refine boxesC1 ?_;intro W hE hsz B0;refine (r2_Whole (Nat.le_trans hN hE.size) n h1 h2).mono ?_;rw [←hq.out];intro e w1 hh;obtain⟨n3,A3,k3,c3,A4,k4,c4,rfl,hb3,g3,g4,e1⟩:=hh.form;replace hE:=hE.trans e1;replace B0:=e1.block B0;obtain⟨t0,t1,t2,t3,t4,t5,t6,t7⟩:=cells4 B0;go_wp2;exact fin_rat rfl rfl rfl hE B0 (by omega) hN g3 g4 hb3
end Go.Proofs.YtphpkhoeplcedaaGreat
namespace Go.Proofs.YtphpkhoeplcedaaGreat
open Go.RowKit Go.Shelf
attribute [local go_sem] Oper.semAt_some
set_option maxRecDepth 100000 in
theorem f_floor {N:Nat} {w:World} {v:Value} {q:Rat} (h:RatV N w v q) (hz:Sz q) :
  Calls Tryz.prog 151 #[v] w (RetI N w (divF q.num q.den)):=by
 obtain⟨r,hr⟩:=hid_eq (divF q.num q.den);rw [←hr.out];have hN:=h.le;have hI:=h;obtain⟨n1,A1,k1,c1,A2,k2,c2,rfl,hb1,g1,g2⟩:=h.parts;have HZ:=Lib.hid hz;clear hz h g1 g2;go_enter Tryz.func151,Tryz.ntmps151;go_wp2_with (go_at_call 111; refine Hid.out ?_);refine boxesC2 ?_;intro W hE hsz B0 B1;refine (f_value (hI.ext hE) HZ.out).mono ?_;intro e w1 hh;obtain⟨n3,A3,k3,c3,A4,k4,c4,rfl,hb3,g3,g4,e1⟩:=hh.form;replace B0:=e1.block B0;replace B1:=e1.block B1;replace hE:=hE.trans e1;replace hsz:=Nat.le_trans hsz e1.size;obtain⟨a0,a1,a2,a3,a4,a5,a6,a7⟩:=cells4 B0;go_upto_region 2 with (fail);obtain⟨w2,E2,D0,U⟩:=ex4 B0 (.bool n3) (.slice A3 k3 c3) (.bool false) (.slice A4 k4 c4);rw [E2];have hT0:=NoU.mk B0 (by decide);replace g3:=g3.upd U (by omega) hT0;replace g4:=g4.upd U (by omega) hT0;replace B1:=U.blk B1 (by omega);replace hE:=U.ext hE (Nat.le_refl _);have hs2:=U.size;clear E2 U B0 hT0 a0 a1 a2 a3 a4 a5 a6 a7;obtain⟨a0,a1,a2,a3,-⟩:=cells4 D0;go_wp2_with (go_at_call 198; refine Hid.out ?_);refine (i_divide (num_intV hb3 g3) (den_intV g4) (Nat.le_trans HZ.out.1 (by omega)) (Nat.le_trans HZ.out.2 (by omega)) (by have:=q.den_pos; omega)).mono ?_;rintro e w5 ⟨v5,v5',rfl,i5,i5',e5⟩;rw [←hr.out] at i5;obtain⟨b5,A5,k5,c5,rfl,hb5,h5,-⟩:=i5.parts;obtain⟨b5',A5',k5',c5',rfl,-,-,-⟩:=i5'.parts;replace B1:=e5.block B1;replace hE:=hE.trans e5;have hs5:=e5.size;go_upto_region 3 with (fail)
 refine boxes2 ?_;intro w6 e6 hsz6 C0 C1;replace B1:=e6.block B1;replace hE:=hE.trans e6;replace h5:=h5.ext e6;obtain⟨p0,p1,-,-⟩:=cells2 C0;obtain⟨q0,q1,q2,q3⟩:=cells2 B1;go_wp2;exact fin_int rfl rfl rfl hE B1 (by omega) hN h5 hb5 rfl
theorem boxesI3 {F:Fence} {fu:Nat} {P:Program} {f:FuncId} {args:Array Value} {R:Ending→World→Prop} {w:World} {o0 o1 o2:Obj} (h:∀ w1,Ext w w1→w.heap.size+3≤w1.heap.size→w1.heap[w.heap.size]?=some o0→w1.heap[w.heap.size+1]?=some o1→w1.heap[w.heap.size+1+1]?=some o2→CallsIn F fu P f args w1 R):CallsIn F fu P f args (((w.alloc o0).alloc o1).alloc o2) R:=boxes3 (F:=fun w'=>CallsIn F fu P f args w' R) h
set_option maxRecDepth 100000 in
theorem i_small_in (N:Nat) (w:World) (b:Bool) (A1:Option Addr) (k1 c1:Nat) (z:Int) (h:IntV N w (.agg #[.bool b,.slice A1 k1 c1]) z) (hg:Gs N w (.slice A1 k1 c1) (dg z.natAbs)) (hk:k1≤1) (hbz:Hid (b=decide (z < 0))) :
  CallsIn Fence.wide 5 Tryz.prog 150 #[.agg #[.bool b,.slice A1 k1 c1]] w (RetV w (.tuple #[.int .i64 z,.bool true])):=by
 have hla:Hid ((dg z.natAbs).length=k1):=by obtain⟨A',n',c',hv,hl',-,-⟩:=hg.form; cases hv; exact hl'
 have hI:=h;refine callsIn_of_wp_marks Tryz.func150 rfl trivial ?_ rfl;simp only [Tryz.ntmps150,List.size_toArray,List.length_cons,List.length_nil,Nat.reduceAdd,Nat.reduceSub,Array.replicate_succ,Array.replicate_zero,List.push_toArray,List.append_toArray,List.nil_append,List.cons_append]
 gi_wp2_with (refine⟨trivial,?_⟩; gi_at_call 159; refine Hid.out ?_)
 refine boxesI3 ?_;intro W hE hsz B0 B1 B2;refine (callsIn_wide.2 (i_groups (hI.ext hE))).mono ?_;rintro e w1 ⟨rfl,e1⟩;replace B0:=e1.block B0;replace B1:=e1.block B1;replace B2:=e1.block B2;replace hsz:=Nat.le_trans hsz e1.size;replace hE:=hE.trans e1;obtain⟨l,hl⟩:=hid_eq (dg z.natAbs);have HV:Hid (val l=z.natAbs):=by rw [Hid,hl.out,val_dg]
 have hdl:Dig l:=by rw [hl.out]; exact dig_dg _
 rw [←hl.out] at hg hla;replace hg:=hg.ext hE;clear e1 hl h hI
 gi_wp2_with (refine⟨trivial,?_⟩; gi_at_call 197; refine (back_in Fence.wide _ trivial rfl _ _ _ _).mono ?_; rintro e w' ⟨rfl,rfl⟩)
 refine boxes2 ?_;intro W2 hE2 hsz2 C0 C1
 refine wpIn_rangeFunc_ownF (F:=Fence.wide) (n:=5) rfl (by decide) (gf:=223) (lb:=#[.pointer (some ⟨w1.heap.size+1,0,none⟩)]) rfl trivial (enters_of Tryz.func223 (by kernel_rfl) rfl)
  (back_stops Fence.wide 4 trivial rfl (by decide) W2 w1 A1 k1 c1 l hg hE2 (w1.heap.size+1) w1.heap.size (by omega) (by omega) (Nat.le_refl _) (cells1 C1).1)
  keepB_t (keepB_b (by omega) (by omega)) (Below.refl _ _) (fun _=>rfl)
  (fun pre W'=>(W'.cell? ⟨w1.heap.size,0,none⟩=some (.int .u64 ((acc l pre:Nat):Int))∧W'.frozen? ⟨w1.heap.size,0,none⟩=false)∧Below w1.heap.size w1 W')
  (fun _ _ _=>False)
  (OwnFrom.and (Own.from (fun s A B row hs hg hr=>⟨cell_kept hs.1 hg hr,(frozen_kept hs.1 hg hr).trans hs.2⟩) _) (ownFrom_below (Nat.le_refl _) (by omega)))
  (fun _ _ _ _ _ hs _ _=>hs)
  ⟨cells1 C0,hE2⟩
  (fun j=>{ tmps:=#[.agg #[.bool b,.slice A1 k1 c1],.pointer (some ⟨w.heap.size,0,none⟩),.pointer (some ⟨w.heap.size+1,0,none⟩),.pointer (some ⟨w.heap.size+1+1,0,none⟩),.slice A1 k1 c1,.pointer (some ⟨w1.heap.size,0,none⟩),undef,.int .u32 ((l[j.1]?.getD 0:Nat):Int),
     .agg #[.bool b,.slice A1 k1 c1],.slice A1 k1 c1,.slice A1 k1 c1,.int .i64 k1,.bool (decide (3 < (k1:Int))),.slice A1 k1 c1,.func (.func 223) #[] #[.pointer (some ⟨w1.heap.size+1,0,none⟩)],
     .int .i64 ((j.1:Nat):Int),.int .u32 ((l[j.1]?.getD 0:Nat):Int),undef,undef,undef,undef,undef,undef,undef,undef,undef,undef,undef,undef,undef,undef,undef,undef,undef,undef,undef,undef,undef,undef,undef,undef,undef,undef,undef],defers:=[] }) ?assign ?body ?done ?stop
 case assign =>
  intro l' j W K hK
  dsimp only [bkEnc]
  obtain⟨z,hz⟩:=hid_eq ((l[j.1]?.getD 0:Nat):Int);obtain⟨k,hk⟩:=hid_eq ((j.1:Nat):Int);rw [←hz.out,←hk.out] at hK ⊢
  gi_wp2
  exact hK
 case body =>
  rintro l' pre j W1 ⟨⟨a0,a1⟩,hB⟩ hlt;obtain⟨k,hk'⟩:=hid_eq ((j.1:Nat):Int);obtain⟨za,hza⟩:=hid_eq ((l[j.1]?.getD 0:Nat):Int);have hpl:pre.length=0:=by have:=hla.out; omega
  have hp0:pre=[]:=List.eq_nil_of_length_eq_zero hpl;subst hp0;have HS:Hid (((acc l ([] ++ [j]):Nat):Int)=za):=by rw [Hid,hza.out]; simp [acc]
  have a2:W1.cell? ⟨w1.heap.size,0,none⟩=some (.int .u64 0):=by rw [a0]; rfl
  clear a0;rw [←hza.out,←hk'.out];have za0:0≤za:=by rw [hza.out]; omega
  have za1:za < 1000000000:=by have:=hdl.get j.1; unfold bs at this; have:=hza.out; omega
  have d1:decide (0 > (9223372036854775808 - za) / 1000000000)=false:=decide_eq_false (by omega)
  gi_wp2
  refine⟨KeepsOthers.setCell _ _ _,⟨(Below.refl w1.heap.size W1).setCell (p:=⟨w1.heap.size,0,none⟩) (Nat.le_refl _) _,Below.heap_setCell _ _ _ _ (by simp)⟩,⟨?_,by rw [World.frozen?_setCell]; exact a1⟩,hB.setCell (p:=⟨w1.heap.size,0,none⟩) (Nat.le_refl _) _⟩;rw [HS.out];exact World.cell?_setCell_same' _ _ _ (by rw [a2]; rfl)
 case done =>
  rintro D ys W1 hD rfl ⟨⟨a0,a1⟩,hB⟩ hK;rw [acc_all] at a0;obtain⟨m,hm⟩:=hid_eq ((val l:Nat):Int);rw [←hm.out] at a0;have m0:0≤m:=by rw [hm.out]; omega
  have m1:m < 1000000000:=by
   have h1:=val_lt hdl;have h2:bs ^ l.length≤bs ^ 1:=Nat.pow_le_pow_right bs_pos (by have:=hla.out; omega);have:=hm.out;unfold bs at h1 h2;omega
  have HZ:Hid ((z < 0→z = -m)∧(¬ z < 0→z=m)):=by
   have h1:=hm.out;rw [HV.out] at h1;rw [Hid];omega
  have HB:=Lib.hid hbz;replace B0:=(hB.block _ (by omega)).trans B0;replace B1:=(hB.block _ (by omega)).trans B1;replace B2:=(hB.block _ (by omega)).trans B2;obtain⟨p0,p1,-,-⟩:=cells2 B0;obtain⟨q0,q1⟩:=cells1 B1;obtain⟨r0,r1⟩:=cells1 B2
  by_cases hz:z < 0
  ·obtain rfl:b=true:=by rw [HB.out]; exact decide_eq_true hz
   have hk1:k1=1:=by
    rcases Nat.lt_or_ge 0 k1 with h9 | h9
    ·omega
    ·have h8:l=[]:=List.eq_nil_of_length_eq_zero (by have:=hla.out; omega);have h7:=HV.out;rw [h8] at h7;have h6:val []=0:=rfl;omega
   subst hk1
   have hw1:IntKind.u64.wrap (-m)=18446744073709551616 - m:=by
    have:z = -m:=HZ.out.1 hz;simp [IntKind.wrap,IntKind.bits,IntKind.signed]; omega
   have hw2:IntKind.i64.wrap (18446744073709551616 - m) = -m:=by
    simp [IntKind.wrap,IntKind.bits,IntKind.signed]; omega
   have HM:Hid (-m=z):=(HZ.out.1 hz).symm
   gi_wp2
   have hK':=(KeepsOthers.setCell (W1.setCell ⟨w.heap.size+1,0,none⟩ (.int .i64 (-m))) ⟨w.heap.size+1+1,0,none⟩ (.bool true)).same D _ ((KeepsOthers.setCell W1 ⟨w.heap.size+1,0,none⟩ (.int .i64 (-m))).same D _ hK rfl) rfl;have x1:=World.cell?_setCell_same' W1 ⟨w.heap.size+1,0,none⟩ (.int .i64 (-m)) (by rw [q0]; rfl);have x2:=cell_far (g:=w.heap.size+1+1) (i:=0) (.bool true) x1 (by simp);have x3:=World.cell?_setCell_same' (W1.setCell ⟨w.heap.size+1,0,none⟩ (.int .i64 (-m))) ⟨w.heap.size+1+1,0,none⟩ (.bool true) (by rw [cell_far _ r0 (by simp)]; rfl);have hc5:=cell_kept x2 (grownBy_putObj' _ D (.deferred none)) (fun r e=>by cases e; exact⟨_,hK',rfl⟩);have hc6:=cell_kept x3 (grownBy_putObj' _ D (.deferred none)) (fun r e=>by cases e; exact⟨_,hK',rfl⟩);refine⟨by simp,.inl ⟨_,_,rfl,run_takeDeferred hK',?_⟩⟩;refine⟨.tuple #[.int .i64 (-m),.bool true],?_,by rw [HM.out],(((hE.trans hB).below.setCell (p:=⟨w.heap.size+1,0,none⟩) (by simp) _).setCell (p:=⟨w.heap.size+1+1,0,none⟩) (by simp; omega) _).trans (belowK_b (w:=w) (Nat.le_refl _) _ D _ _ (by omega) hK' rfl rfl)⟩;simp [results,Tryz.results150,go_sem,hc5,hc6]
  ·obtain rfl:b=false:=by rw [HB.out]; exact decide_eq_false hz
   have HM:Hid (m=z):=(HZ.out.2 hz).symm;have hw1:(m == 9223372036854775808)=false:=by rw [beq_eq_false_iff_ne]; omega
   have hw2:IntKind.i64.wrap m=m:=IntWalk.i64_in _ (by omega);clear HB
   rcases Nat.eq_zero_or_pos k1 with h9 | h9
   ·subst h9
    gi_wp2
    have hK':=(KeepsOthers.setCell (W1.setCell ⟨w.heap.size+1,0,none⟩ (.int .i64 (m))) ⟨w.heap.size+1+1,0,none⟩ (.bool true)).same D _ ((KeepsOthers.setCell W1 ⟨w.heap.size+1,0,none⟩ (.int .i64 (m))).same D _ hK rfl) rfl;have x1:=World.cell?_setCell_same' W1 ⟨w.heap.size+1,0,none⟩ (.int .i64 (m)) (by rw [q0]; rfl);have x2:=cell_far (g:=w.heap.size+1+1) (i:=0) (.bool true) x1 (by simp);have x3:=World.cell?_setCell_same' (W1.setCell ⟨w.heap.size+1,0,none⟩ (.int .i64 (m))) ⟨w.heap.size+1+1,0,none⟩ (.bool true) (by rw [cell_far _ r0 (by simp)]; rfl);have hc5:=cell_kept x2 (grownBy_putObj' _ D (.deferred none)) (fun r e=>by cases e; exact⟨_,hK',rfl⟩);have hc6:=cell_kept x3 (grownBy_putObj' _ D (.deferred none)) (fun r e=>by cases e; exact⟨_,hK',rfl⟩);refine⟨by simp,.inl ⟨_,_,rfl,run_takeDeferred hK',?_⟩⟩;refine⟨.tuple #[.int .i64 (m),.bool true],?_,by rw [HM.out],(((hE.trans hB).below.setCell (p:=⟨w.heap.size+1,0,none⟩) (by simp) _).setCell (p:=⟨w.heap.size+1+1,0,none⟩) (by simp; omega) _).trans (belowK_b (w:=w) (Nat.le_refl _) _ D _ _ (by omega) hK' rfl rfl)⟩;simp [results,Tryz.results150,go_sem,hc5,hc6]
   ·obtain rfl:k1=1:=by omega
    gi_wp2
    have hK':=(KeepsOthers.setCell (W1.setCell ⟨w.heap.size+1,0,none⟩ (.int .i64 (m))) ⟨w.heap.size+1+1,0,none⟩ (.bool true)).same D _ ((KeepsOthers.setCell W1 ⟨w.heap.size+1,0,none⟩ (.int .i64 (m))).same D _ hK rfl) rfl;have x1:=World.cell?_setCell_same' W1 ⟨w.heap.size+1,0,none⟩ (.int .i64 (m)) (by rw [q0]; rfl);have x2:=cell_far (g:=w.heap.size+1+1) (i:=0) (.bool true) x1 (by simp);have x3:=World.cell?_setCell_same' (W1.setCell ⟨w.heap.size+1,0,none⟩ (.int .i64 (m))) ⟨w.heap.size+1+1,0,none⟩ (.bool true) (by rw [cell_far _ r0 (by simp)]; rfl);have hc5:=cell_kept x2 (grownBy_putObj' _ D (.deferred none)) (fun r e=>by cases e; exact⟨_,hK',rfl⟩);have hc6:=cell_kept x3 (grownBy_putObj' _ D (.deferred none)) (fun r e=>by cases e; exact⟨_,hK',rfl⟩);refine⟨by simp,.inl ⟨_,_,rfl,run_takeDeferred hK',?_⟩⟩;refine⟨.tuple #[.int .i64 (m),.bool true],?_,by rw [HM.out],(((hE.trans hB).below.setCell (p:=⟨w.heap.size+1,0,none⟩) (by simp) _).setCell (p:=⟨w.heap.size+1+1,0,none⟩) (by simp; omega) _).trans (belowK_b (w:=w) (Nat.le_refl _) _ D _ _ (by omega) hK' rfl rfl)⟩;simp [results,Tryz.results150,go_sem,hc5,hc6]
 case stop =>
  rintro D c pre W1 _ _ h _;exact h.elim
theorem i_small {N:Nat} {w:World} {v:Value} {z:Int} (h:IntV N w v z) (hz:z.natAbs < 1000000000) :
  Calls Tryz.prog 150 #[v] w (RetV w (.tuple #[.int .i64 z,.bool true])):=by
 obtain⟨b,A,k,c,rfl,hb,hg,-⟩:=h.parts;obtain⟨A',k',c',hv,hl,-,-⟩:=hg.form;cases hv
 refine (callsIn_wide (n:=5)).1 (i_small_in N w b A k c z h hg ?_ hb);rw [←hl.out];exact ln_le_of_lt (by unfold bs; simpa using hz)
end Go.Proofs.YtphpkhoeplcedaaGreat
namespace Go.Proofs.YtphpkhoeplcedaaGreat
open Go.RowKit
theorem OwnM.start {N lo:Nat} {w:World} {h k n:Nat} {cs:Array Value} (hN:N≤lo) (hl:lo≤h) (hb:w.heap[h]?=some (.cells cs 45 (0,0))) (hk:cs.size=k) (A:Nat→Nat→Rat) {hi:Nat} (h1:h < hi) (h2:hi≤w.heap.size):OwnM N lo hi w h k 0 n (fun _=>0) (fun _=>0) A :=
 ⟨hN,⟨cs,hb,hk,fun i hi=>by omega⟩,by omega,hl,h1,h2,fun i hi=>by omega,fun i hi=>by omega,fun i hi=>by omega,fun i hi=>by omega,fun i j hi=>by omega⟩
def briefB (R:Raw):Bool:=decide (R.l1.length≤1) && decide (R.l2.length≤1) && decide (R.l1[0]?.getD 0 < 100000) && decide (R.l2[0]?.getD 0≤100)
theorem r2_brief {N:Nat} {w:World} {v:Value} {R:Raw} (h:RawV N w v R) :
  Calls Tryz.prog 48 #[v] w (RetV w (.bool (briefB R))):=by
 obtain⟨r,hr⟩:=hid_eq (briefB R);rw [←hr.out];obtain⟨A1,n1,c1,A2,n2,c2,rfl,g1,g2⟩:=h.parts;obtain⟨_,_,_,e1,h1,hc1,hm1⟩:=g1.form;injection e1 with e1 e1' e1''
 subst e1 e1' e1'';obtain⟨_,_,_,e2,h2,hc2,hm2⟩:=g2.form;injection e2 with e2 e2' e2''
 subst e2 e2' e2'';obtain⟨b1,l1,b2,l2⟩:=R
 dsimp only at g1 g2 h1 h2 ⊢
 have HR:Hid (r=(decide (n1≤1) && decide (n2≤1) && decide (l1[0]?.getD 0 < 100000) && decide (l2[0]?.getD 0≤100))):=by
  rw [Hid,hr.out,←h1.out,←h2.out]; rfl
 have L1:Hid (n1=0→l1=[]):=fun e=>List.eq_nil_of_length_eq_zero (by rw [h1.out]; exact e)
 have L2:Hid (n2=0→l2=[]):=fun e=>List.eq_nil_of_length_eq_zero (by rw [h2.out]; exact e)
 clear hr h;go_enter Tryz.func48,Tryz.ntmps48;go_upto_region 1 with (fail);refine boxes1 ?_;intro W hE hsz B0;obtain⟨a0,a1,a2,a3,-⟩:=cells4 B0;have eC:=(Ext.refl W).drew;refine region_late (fun w'=>w'.cell? ⟨w.heap.size,0,none⟩=some (.bool b1)∧w'.cell? ⟨w.heap.size,1,none⟩=some (.slice A1 n1 c1)∧w'.cell? ⟨w.heap.size,2,none⟩=some (.bool b2)∧w'.cell? ⟨w.heap.size,3,none⟩=some (.slice A2 n2 c2)) [] (by kernel_rfl) (by exact⟨eC.cell a0,eC.cell a1,eC.cell a2,eC.cell a3⟩) (fun hHeld=>?_);refine sP 0 (h:=?_);try simp only [nr]
 refine sP 1 (h:=?_);try simp only [nr]
 refine sT 2 (h:=?_);try simp only [nr]
 refine sP 3 (h:=?_);try simp only [nr]
 refine sP 4 (h:=?_);try simp only [nr]
 refine sT 5 (h:=?_);try simp only [nr]
 refine sP 6 (h:=?_);try simp only [nr]
 refine sP 7 (h:=?_);try simp only [nr]
 refine stepL_done (by kernel_rfl) ?_ _;clear hHeld;replace hE:=hE.trans eC;replace g1:=g1.ext hE;replace g2:=g2.ext hE;clear a0 a1 a2 a3 B0 eC
 by_cases hn1:n1≤1
 ·by_cases hn2:n2≤1
  ·have HR2:Hid (r=(decide (l1[0]?.getD 0 < 100000) && decide (l2[0]?.getD 0≤100))):=by rw [Hid,HR.out,decide_eq_true hn1,decide_eq_true hn2]; rfl
   clear HR
   rcases Nat.eq_zero_or_pos n1 with h0 | h0
   ·obtain⟨x,hx⟩:=hid_eq (decide (l1[0]?.getD 0 < 100000));have hx1:x=true:=by rw [hx.out,L1.out h0]; rfl
    rw [←hx.out,hx1] at HR2;subst h0
    rcases Nat.eq_zero_or_pos n2 with h4 | h4
    ·have HF:Hid (r=true):=by rw [Hid,HR2.out,L2.out h4]; rfl
     subst h4;go_wp2;go_ret;exact⟨ret_bool HF.out.symm,hE⟩
    ·obtain rfl:n2=1:=by omega
     obtain⟨b,off,z,rfl,-,p0,hz0,hz1,HZ⟩:=g2.at_ (k:=0) (by omega);rw [Nat.add_zero] at p0
     by_cases hz:z≤100
     ·have HF:Hid (r=true):=by rw [Hid,HR2.out]; simp only [Bool.true_and,decide_eq_true_eq]; have:=HZ.out; omega
      go_wp2;go_ret;exact⟨ret_bool HF.out.symm,hE⟩
     ·have HF:Hid (r=false):=by rw [Hid,HR2.out]; simp only [Bool.true_and,decide_eq_false_iff_not]; have:=HZ.out; omega
      go_wp2;go_ret;exact⟨ret_bool HF.out.symm,hE⟩
   ·obtain rfl:n1=1:=by omega
    obtain⟨b,off,z,rfl,-,p0,hz0,hz1,HZ⟩:=g1.at_ (k:=0) (by omega);rw [Nat.add_zero] at p0
    by_cases hz:z < 100000
    ·have HR3:Hid (r=decide (l2[0]?.getD 0≤100)):=by
      rw [Hid,HR2.out,show decide (l1[0]?.getD 0 < 100000)=true by simp only [decide_eq_true_eq]; have:=HZ.out; omega]; rfl
     rcases Nat.eq_zero_or_pos n2 with h4 | h4
     ·have HF:Hid (r=true):=by rw [Hid,HR3.out,L2.out h4]; rfl
      subst h4;go_wp2;go_ret;exact⟨ret_bool HF.out.symm,hE⟩
     ·obtain rfl:n2=1:=by omega
      obtain⟨b',off',z',rfl,-,q0,hz0',hz1',HZ'⟩:=g2.at_ (k:=0) (by omega);rw [Nat.add_zero] at q0
      by_cases hz':z'≤100
      ·have HF:Hid (r=true):=by rw [Hid,HR3.out]; simp only [decide_eq_true_eq]; have:=HZ'.out; omega
       go_wp2;go_ret;exact⟨ret_bool HF.out.symm,hE⟩
      ·have HF:Hid (r=false):=by rw [Hid,HR3.out]; simp only [decide_eq_false_iff_not]; have:=HZ'.out; omega
       go_wp2;go_ret;exact⟨ret_bool HF.out.symm,hE⟩
    ·have HF:Hid (r=false):=by
      rw [Hid,HR2.out,show decide (l1[0]?.getD 0 < 100000)=false by simp only [decide_eq_false_iff_not]; have:=HZ.out; omega]; rfl
     go_wp2;go_ret;exact⟨ret_bool HF.out.symm,hE⟩
  ·have HF:Hid (r=false):=by rw [Hid,HR.out,decide_eq_false hn2]; simp
   go_wp2;go_ret;exact⟨ret_bool HF.out.symm,hE⟩
 ·have HF:Hid (r=false):=by rw [Hid,HR.out,decide_eq_false hn1]; simp
  go_wp2;go_ret;exact⟨ret_bool HF.out.symm,hE⟩
structure Lin where
 m:Nat
 L:Nat→Nat
 A:Nat→Nat→Raw
 nl:Nat
 l:Nat→Raw
 np:Nat
 p:Nat→Raw
def LinV (N lo hi:Nat) (w:World) (v:Value) (Z:Lin):Prop:=∃ s1 s2 s3,v=.agg #[s1,s2,s3]∧MtR N lo hi w s1 Z.m Z.L Z.A∧LsR N lo hi w s2 Z.nl Z.l∧LsR N lo hi w s3 Z.np Z.p
theorem LinV.ext {N lo hi:Nat} {w w':World} {v:Value} {Z:Lin} (h:LinV N lo hi w v Z) (e:Ext w w'):LinV N lo hi w' v Z:=by
 obtain⟨s1,s2,s3,hv,h1,h2,h3⟩:=h;exact⟨s1,s2,s3,hv,h1.ext e,h2.ext e,h3.ext e⟩
theorem LinV.parts {N lo hi:Nat} {w:World} {v:Value} {Z:Lin} (h:LinV N lo hi w v Z):∃ (A1:Option Addr) (c1:Nat) (A2:Option Addr) (c2:Nat) (A3:Option Addr) (c3:Nat),v=.agg #[.slice A1 Z.m c1,.slice A2 Z.nl c2,.slice A3 Z.np c3] ∧
  MtR N lo hi w (.slice A1 Z.m c1) Z.m Z.L Z.A∧LsR N lo hi w (.slice A2 Z.nl c2) Z.nl Z.l∧LsR N lo hi w (.slice A3 Z.np c3) Z.np Z.p∧Z.m≤9223372036854775807∧Z.nl≤9223372036854775807∧Z.np≤9223372036854775807:=by
 obtain⟨s1,s2,s3,rfl,h1,h2,h3⟩:=h;obtain⟨A1,c1,rfl,a1,b1⟩:=h1.form;obtain⟨A2,c2,rfl,a2,b2⟩:=h2.form;obtain⟨A3,c3,rfl,a3,b3⟩:=h3.form;unfold maxLen at b1 b2 b3;exact⟨A1,c1,A2,c2,A3,c3,rfl,h1,h2,h3,by omega,by omega,by omega⟩
end Go.Proofs.YtphpkhoeplcedaaGreat
