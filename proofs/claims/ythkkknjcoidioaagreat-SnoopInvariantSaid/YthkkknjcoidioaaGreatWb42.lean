import Derived.Test.YthkkknjcoidioaaGreatWb41
import Derived.Test.YthkkknjcoidioaaGreatWb40
import Derived.Test.YthkkknjcoidioaaGreatWb27
import Derived.Test.YthkkknjcoidioaaGreatWb35
import Derived.Test.YthkkknjcoidioaaGreatWb24
import Derived.Deep.Slices
import Derived.Deep.Strs
import Derived.Lib.SmallJoins
import Derived.ProofKit
import Derived.OpenShut
import Derived.WalkKit
import Derived.Below
set_option linter.all false
set_option maxHeartbeats 8000000
namespace Go.Proofs.YthkkknjcoidioaaGreat
open Go.RowKit
theorem l38_sub {N:Nat} {w:World} {v v':Value} {x y:Rat} (h:RatV N w v x) (h':RatV N w v' y) (hz:Sz x) (hz':Sz y) :
  Calls Tryz.prog 19 #[v,v'] w (RetR N w (x - y)):=by
 obtain⟨q,hq⟩:=hid_eq (x - y);rw [←hq.out];have hN:=h.le;have hI:=h;have hI':=h';have HZ:=Lib.hid hz;have HZ':=Lib.hid hz';obtain⟨m1,X1,i1,d1,X2,i2,d2,rfl,hm1,gx1,gx2⟩:=h.parts;obtain⟨m2,Y1,i3,d3,Y2,i4,d4,rfl,hm2,gy1,gy2⟩:=h'.parts;clear hz hz' h h' gx1 gx2 gy1 gy2;go_enter Tryz.func19,Tryz.ntmps19;go_wp2_with (go_at_call 69; refine Hid.out ?_);refine boxesC3 ?_;intro W hE hsz B0 B1 B2;refine (r2_sub (hI.ext hE) (hI'.ext hE) HZ.out HZ'.out).mono ?_;rw [←hq.out];intro e w1 hh;obtain⟨n3,A3,k3,c3,A4,k4,c4,rfl,hb3,g3,g4,e1⟩:=hh.form;replace hE:=hE.trans e1;replace B2:=e1.block B2;obtain⟨t0,t1,t2,t3,t4,t5,t6,t7⟩:=cells4 B2;go_wp2;exact fin_rat rfl rfl rfl hE B2 (by omega) hN g3 g4 hb3
theorem l38_add {N:Nat} {w:World} {v v':Value} {x y:Rat} (h:RatV N w v x) (h':RatV N w v' y) (hz:Sz x) (hz':Sz y) :
  Calls Tryz.prog 33 #[v,v'] w (RetR N w (x+y)):=by
 obtain⟨q,hq⟩:=hid_eq (x+y);rw [←hq.out];have hN:=h.le;have hI:=h;have hI':=h';have HZ:=Lib.hid hz;have HZ':=Lib.hid hz';obtain⟨m1,X1,i1,d1,X2,i2,d2,rfl,hm1,gx1,gx2⟩:=h.parts;obtain⟨m2,Y1,i3,d3,Y2,i4,d4,rfl,hm2,gy1,gy2⟩:=h'.parts;clear hz hz' h h' gx1 gx2 gy1 gy2;go_enter Tryz.func33,Tryz.ntmps33;go_wp2_with (go_at_call 79; refine Hid.out ?_);refine boxesC3 ?_;intro W hE hsz B0 B1 B2;refine (r2_add (hI.ext hE) (hI'.ext hE) HZ.out HZ'.out).mono ?_;rw [←hq.out];intro e w1 hh;obtain⟨n3,A3,k3,c3,A4,k4,c4,rfl,hb3,g3,g4,e1⟩:=hh.form;replace hE:=hE.trans e1;replace B2:=e1.block B2;obtain⟨t0,t1,t2,t3,t4,t5,t6,t7⟩:=cells4 B2;go_wp2;exact fin_rat rfl rfl rfl hE B2 (by omega) hN g3 g4 hb3
theorem l38_mul {N:Nat} {w:World} {v v':Value} {x y:Rat} (h:RatV N w v x) (h':RatV N w v' y) (hz:Sz x) (hz':Sz y) :
  Calls Tryz.prog 40 #[v,v'] w (RetR N w (x*y)):=by
 obtain⟨q,hq⟩:=hid_eq (x*y);rw [←hq.out];have hN:=h.le;have hI:=h;have hI':=h';have HZ:=Lib.hid hz;have HZ':=Lib.hid hz';obtain⟨m1,X1,i1,d1,X2,i2,d2,rfl,hm1,gx1,gx2⟩:=h.parts;obtain⟨m2,Y1,i3,d3,Y2,i4,d4,rfl,hm2,gy1,gy2⟩:=h'.parts;clear hz hz' h h' gx1 gx2 gy1 gy2;go_enter Tryz.func40,Tryz.ntmps40;go_wp2_with (go_at_call 85; refine Hid.out ?_);refine boxesC3 ?_;intro W hE hsz B0 B1 B2;refine (r2_mul (hI.ext hE) (hI'.ext hE) HZ.out HZ'.out).mono ?_;rw [←hq.out];intro e w1 hh;obtain⟨n3,A3,k3,c3,A4,k4,c4,rfl,hb3,g3,g4,e1⟩:=hh.form;replace hE:=hE.trans e1;replace B2:=e1.block B2;obtain⟨t0,t1,t2,t3,t4,t5,t6,t7⟩:=cells4 B2;go_wp2;exact fin_rat rfl rfl rfl hE B2 (by omega) hN g3 g4 hb3
set_option maxRecDepth 100000 in
theorem l38_div {N:Nat} {w:World} {v v':Value} {x y:Rat} (h:RatV N w v x) (h':RatV N w v' y) (hz:Sz x) (hz':Sz y) (hy:y≠0) :
  Calls Tryz.prog 49 #[v,v'] w (RetR N w (x / y)):=by
 obtain⟨q,hq⟩:=hid_eq (x / y);rw [←hq.out];have hN:=h.le;have hI:=h;have hI':=h';have HZ:=Lib.hid hz;have HZ':=Lib.hid hz';have HY:=Lib.hid hy;obtain⟨m1,X1,i1,d1,X2,i2,d2,rfl,hm1,gx1,gx2⟩:=h.parts;obtain⟨m2,Y1,i3,d3,Y2,i4,d4,rfl,hm2,gy1,gy2⟩:=h'.parts;clear hz hz' h h' gx1 gx2 gy1 gy2 hy;go_enter Tryz.func49,Tryz.ntmps49;go_wp2_with (go_at_call 91; refine Hid.out ?_);refine boxesC3 ?_;intro W hE hsz B0 B1 B2;refine (r2_divide (hI.ext hE) (hI'.ext hE) HZ.out HZ'.out HY.out).mono ?_;rw [←hq.out];intro e w1 hh;obtain⟨n3,A3,k3,c3,A4,k4,c4,rfl,hb3,g3,g4,e1⟩:=hh.form;replace hE:=hE.trans e1;replace B2:=e1.block B2;go_upto_region 2 with (fail);refine boxes1 ?_;intro w2 e2 hsz2 B5;replace hE:=hE.trans e2;replace B2:=e2.block B2;replace g3:=g3.ext e2;replace g4:=g4.ext e2;obtain⟨t0,t1,t2,t3,t4,t5,t6,t7⟩:=cells4 B2;obtain⟨s0,s1,s2,s3,-⟩:=cells4 B5;go_wp2;exact fin_rat rfl rfl rfl hE B2 (by omega) hN g3 g4 hb3
theorem l38_inside {N lo hi:Nat} {w:World} {v:Value} {Z:Lin} (h:LinV N lo hi w v Z) (z:Int) :
  Calls Tryz.prog 13 #[v,.int .i64 z] w (RetV w (.bool (inB Z.m z))):=by
 obtain⟨A1,c1,A2,c2,A3,c3,rfl,-,-,-,hm,-⟩:=h.parts;clear h;obtain⟨m,hmd⟩:=hid_eq Z.m;rw [←hmd.out] at hm ⊢;obtain⟨r,hr⟩:=hid_eq (inB m z);rw [←hr.out]
 by_cases h0:z < 0
 ·have HR:Hid (r=false):=by rw [Hid,hr.out]; unfold inB; rw [decide_eq_false (by omega)]; rfl
  have t0:decide (0≤z)=false:=decide_eq_false (by omega);clear hr;go_enter Tryz.func13,Tryz.ntmps13;go_upto_region 1 with (fail);refine boxes1 ?_;intro W hE hsz B0;go_wp2;go_ret;exact⟨ret_bool HR.out.symm,hE⟩
 ·have t0:decide (0≤z)=true:=decide_eq_true (by omega)
  by_cases h1:z < (m:Int)
  ·have HR:Hid (r=true):=by rw [Hid,hr.out]; unfold inB; rw [decide_eq_true (by omega),decide_eq_true h1]; rfl
   have t1:decide (z < (m:Int))=true:=decide_eq_true h1;clear hr;go_enter Tryz.func13,Tryz.ntmps13;go_upto_region 1 with (fail);refine boxes1 ?_;intro W hE hsz B0;obtain⟨a0,-⟩:=cells3 B0;go_wp2;go_ret;exact⟨ret_bool HR.out.symm,hE⟩
  ·have HR:Hid (r=false):=by rw [Hid,hr.out]; unfold inB; rw [decide_eq_true (by omega),decide_eq_false h1]; rfl
   have t1:decide (z < (m:Int))=false:=decide_eq_false h1;clear hr;go_enter Tryz.func13,Tryz.ntmps13;go_upto_region 1 with (fail);refine boxes1 ?_;intro W hE hsz B0;obtain⟨a0,-⟩:=cells3 B0;go_wp2;go_ret;exact⟨ret_bool HR.out.symm,hE⟩
set_option maxRecDepth 100000 in
theorem l38_checked {N lo hi lo' hi':Nat} {w:World} {v u:Value} {Z:Lin} {k:Nat} {R:Nat→Raw} (h:LinV N lo hi w v Z) (hx:LsR N lo' hi' w u k R) (hf:few34 7 4 Z=true) (hsx:∀ i,i < k→RawL (R i)) :
  Calls Tryz.prog 12 #[v,u] w (RetV w (.int .i64 (code38 Z k R))):=by
 obtain⟨f1,f2,f3⟩:=few34_sz hf;have HF2:=Lib.hid f2;have HF3:=Lib.hid f3;have HSX:=Lib.hid hsx;have HF:=Lib.hid hf;have hI:=h;have hIx:=hx;obtain⟨r,hr⟩:=hid_eq (code38 Z k R);obtain⟨q,hq⟩:=hid_eq (codeOf Z);rw [←hr.out];have HCR:Hid (q≠0→r=q):=fun h9=>by rw [hr.out]; unfold code38; rw [←hq.out,if_pos h9]
 have HCS:Hid (q=0→r=if allB k (fun i=>okR (R i))=false then 1 else if ivB (Z.L 0) (nmat (fun i j=>ratOf (Z.A i j)) (fun i=>ratOf (Z.p i)) Z.m)=false then 14 else 0):=fun h9=>by rw [hr.out]; unfold code38; rw [←hq.out,if_neg (by simpa using h9)]
 have HQ:Hid (q=codeOf Z):=hq;obtain⟨A1,c1,A2,c2,A3,c3,rfl,h1,h2,h3,-⟩:=h.parts;obtain⟨A4,c4,rfl,-⟩:=hx.form;have H123:=Lib.hid (And.intro h1 (And.intro h2 h3));clear h hx hf hsx f1 f2 f3 hr h1 h2 h3;go_enter Tryz.func12,Tryz.ntmps12;go_wp2_with (go_at_call 59; refine Hid.out ?_);refine boxesC1 ?_;intro W hE hsz B0;refine (l34_checked (hI.ext hE) HF2.out HF3.out).mono ?_;rintro e w1 ⟨rfl,e1⟩;rw [←hq.out];replace hE:=hE.trans e1;replace B0:=e1.block B0;clear e1 hq
 by_cases h0:q=0
 case neg =>
  have hr0:(q == 0)=false:=by simpa using h0
  have hr1:(q != 0)=true:=by simpa using h0
  have HRQ:Hid (r=q):=HCR.out h0;clear h0;go_wp2;go_ret;exact⟨ret_int HRQ.out.symm,hE⟩
 case pos =>
 have HS:=Lib.hid (HCS.out h0);have HQ0:Hid (codeOf Z=0):=by rw [Hid,←HQ.out]; exact h0
 subst h0;clear HCS HCR HQ;go_wp2_with (go_at_call 29; refine Hid.out ?_);refine (r2_validListL (hIx.ext hE) HSX.out).mono ?_;obtain⟨s,hs⟩:=hid_eq (allB k (fun i=>okR (R i)));rw [←hs.out] at HS ⊢;rintro e w2 ⟨rfl,e2⟩;replace hE:=hE.trans e2;replace B0:=e2.block B0;clear e2 hs;cases s with
 | false =>
  have HRQ:Hid (r=1):=by rw [Hid,HS.out]; rfl
  go_wp2;go_ret;exact⟨ret_int HRQ.out.symm,hE⟩
 | true =>
  have f:=few34_lin HF.out HQ0.out;obtain⟨h1,h2,h3⟩:=H123.out;obtain⟨k1,k2,k3⟩:=f.mem h1 h2 h3;have e1:=f.nl;have e2:=f.np;rw [e1,e2] at B0 ⊢;have hd:=Lib.hid f.md;clear h1 h2 h3 H123 e1 e2 f;obtain⟨a0,a1,a2,-⟩:=cells3 B0
  by_cases hg:Reg (Z.L 0) (nmat (fun i j=>ratOf (Z.A i j)) (fun i=>ratOf (Z.p i)) Z.m)
  ·have HRQ:Hid (r=0):=by rw [Hid,HS.out,ivB_reg.2 hg]; rfl
   have HG:=Lib.hid hg;clear hg HS;go_wp2_with (go_at_call 15; refine Hid.out ?_);refine (l34_solve (k1.ext hE) (k2.ext hE) (k3.ext hE) hd.out HG.out).mono ?_;rintro e w3 ⟨AX,cX,rfl,-,e3⟩;go_wp2;go_ret;exact⟨ret_int HRQ.out.symm,hE.trans e3⟩
  ·have HRQ:Hid (r=14):=by
    rw [Hid,HS.out];cases h9:ivB (Z.L 0) (nmat (fun i j=>ratOf (Z.A i j)) (fun i=>ratOf (Z.p i)) Z.m) with
    | false=>rfl
    | true=>exact absurd (ivB_reg.1 h9) hg
   have HG:=Lib.hid hg;clear hg HS;go_wp2_with (go_at_call 15; refine Hid.out ?_);refine (l34_solve0 (k1.ext hE) (k2.ext hE) (k3.ext hE) hd.out HG.out).mono ?_;rintro e w3 ⟨rfl,e3⟩;go_wp2;go_ret;exact⟨ret_int HRQ.out.symm,hE.trans e3⟩
end Go.Proofs.YthkkknjcoidioaaGreat
namespace Go.Proofs.YthkkknjcoidioaaGreat
open Go.RowKit Go.ChangeShapes Go.ChangeAt
theorem cells_int:Tryz.prog.cellsOf 34=2:=by kernel_rfl
theorem cells_rat:Tryz.prog.cellsOf 36=4:=by kernel_rfl
theorem cells_bool:Tryz.prog.cellsOf 4=1:=by kernel_rfl
theorem cells_u32:Tryz.prog.cellsOf 132=1:=by kernel_rfl
theorem cells_u32s:Tryz.prog.cellsOf 32=1:=by kernel_rfl
theorem cells_rats:Tryz.prog.cellsOf 24=1:=by kernel_rfl
section
variable {H:Type} {enc:TypeId×Value→H} {w:World} {spare:Nat→Bool} {held:Bool}
instance:Inhabited Raw:=⟨⟨false,[],false,[]⟩⟩
theorem spot_none {v:Value} (a:Addr) (h:w.cell? (a.add 0)=some v):a=⟨a.block,a.off,none⟩:=by
 obtain⟨b,off,spot⟩:=a;have hs:=World.cell?_spot h;have h2:spot=none:=by simpa [Addr.add] using hs
 subst h2; rfl
theorem gs_of_trod {n:Nat} {v:Value} {x:DataW H×List MemPlace} (h:DataW.trod enc Tryz.prog w 0 spare held n 32 [v]=some x):∃ l,Gs w.heap.size w v l:=by
 rcases Go.Deep.open_slice1 Tryz.underlying32 cells_u32 h with ⟨hcs,-⟩ | ⟨a,len,cap,m,n',V,D,Pl,hcs,-,hl,hm,hmm,-,hx⟩
 ·simp only [List.cons.injEq,and_true] at hcs;subst hcs;exact⟨[],Gs.nil (Nat.le_refl _) _ (Nat.zero_le _)⟩
 ·simp only [List.cons.injEq,and_true] at hcs;subst hcs;have hlm:len≤m:=by rw [hmm]; split <;> omega
  have hv:∀ i,i < len→∃ z:Nat,V i=.int .u32 (z:Int)∧z < 4294967296:=fun i hi=>by
   obtain⟨-,h2⟩:=hx i (by omega);obtain⟨z,hz,-,hw⟩:=DataW.trod_int Tryz.underlying132 h2;simp only [List.cons.injEq,and_true] at hz;have hb:=bounds_u32 hw;exact⟨z.toNat,by rw [hz]; congr 1; omega,by omega⟩
  obtain⟨f,hf⟩:=Go.Deep.choose_lt (α:=Nat) hv;refine⟨(List.range len).map f,Nat.le_refl _,_,len,cap,rfl,by simp,hl,hm,fun y hy=>?_,fun h0=>?_⟩
  ·obtain⟨i,hi,rfl⟩:=List.mem_map.1 hy;exact (hf i (by simpa using hi)).2
  ·have h1:=(hx 0 (by omega)).1;have ha:=spot_none a h1;refine⟨a.block,a.off,by rw [←ha],⟨?_,.inl ?_⟩,fun i hi=>?_⟩
   ·rw [ha,add_none] at h1; exact cell_lt (p:=⟨a.block,a.off+0,none⟩) h1
   ·rw [ha,add_none] at h1; exact cell_lt (p:=⟨a.block,a.off+0,none⟩) h1
   ·have h2:=(hx i (by omega)).1;rw [ha,add_none,(hf i hi).1] at h2;rw [h2];simp [hi]
theorem rat_of_trod {n:Nat} {c0 c1 c2 c3:Value} {x:DataW H×List MemPlace} (h:DataW.trod enc Tryz.prog w 0 spare held n 36 [c0,c1,c2,c3]=some x) :
  ∃ R:Raw,c0=.bool R.b1∧c2=.bool R.b2∧Gs w.heap.size w c1 R.l1∧Gs w.heap.size w c3 R.l2:=by
 obtain⟨y0,y1,n1,-,-,h0,h1⟩:=trod_struct2 Tryz.underlying36 h;simp only [cells_int,List.drop_zero,List.take_succ_cons,List.take_zero,List.drop_succ_cons] at h0 h1;obtain⟨z0,z1,n2,-,-,k0,k1⟩:=trod_struct2 Tryz.underlying34 h0;obtain⟨z2,z3,n3,-,-,k2,k3⟩:=trod_struct2 Tryz.underlying34 h1;simp only [cells_bool,cells_u32s,List.drop_zero,List.take_succ_cons,List.take_zero,List.drop_succ_cons] at k0 k1 k2 k3;obtain⟨b1,e1,-⟩:=DataW.trod_bool Tryz.underlying4 k0;obtain⟨b2,e2,-⟩:=DataW.trod_bool Tryz.underlying4 k2;obtain⟨l1,g1⟩:=gs_of_trod k1;obtain⟨l2,g2⟩:=gs_of_trod k3;simp only [List.cons.injEq,and_true] at e1 e2;exact⟨⟨b1,l1,b2,l2⟩,e1,e2,g1,g2⟩
theorem ls_of_trod {n:Nat} {v:Value} {x:DataW H×List MemPlace} (h:DataW.trod enc Tryz.prog w 0 spare held n 24 [v]=some x):∃ k R,LsR w.heap.size 0 w.heap.size w v k R:=by
 rcases Go.Deep.open_slice Tryz.underlying24 h with ⟨hcs,-⟩ | ⟨a,len,cap,m,n',D,Pl,hcs,-,hl,hm,hmm,-,hx⟩
 ·simp only [List.cons.injEq,and_true] at hcs;subst hcs;exact⟨0,fun _=>default,Nat.le_refl _,Nat.le_refl _,_,_,rfl,Nat.le_refl _,Nat.zero_le _,fun h0=>absurd h0 (by omega)⟩
 ·simp only [List.cons.injEq,and_true] at hcs;subst hcs;have hlm:len≤m:=by rw [hmm]; split <;> omega
  rw [cells_rat] at hx
  rcases Nat.eq_zero_or_pos len with hl0 | hl0
  ·subst hl0;exact⟨0,fun _=>default,Nat.le_refl _,Nat.le_refl _,_,_,rfl,hl,hm,fun h0=>absurd h0 (by omega)⟩
  obtain⟨B,O,rfl⟩:∃ B O,a=⟨B,O,none⟩:=by
   obtain⟨cs,h1,h2⟩:=hx 0 (by omega);obtain⟨-,hlen,hc⟩:=World.cells?_some h1;have k0:=hc 0 (by omega);have hz:(a.add (0*4)).add 0=a.add 0:=by rw [Go.Deep.add_add]
   rw [hz,List.getElem?_eq_getElem (by omega)] at k0;exact⟨_,_,spot_none a k0⟩
  have hv:∀ i,i < len→∃ R:Raw,At4 w.heap.size w B (O+i*4) R:=fun i hi=>by
   obtain⟨cs,h1,h2⟩:=hx i (by omega);obtain⟨-,hlen,hc⟩:=World.cells?_some h1
   match cs,hlen with
   | [c0,c1,c2,c3],_ =>
    obtain⟨R,e0,e2,g1,g3⟩:=rat_of_trod h2;have k0:=hc 0 (by omega);have k1:=hc 1 (by omega);have k2:=hc 2 (by omega);have k3:=hc 3 (by omega);rw [add_none,add_none] at k0 k1 k2 k3;refine⟨R,c1,c3,?_,?_,?_,?_,g1,g3⟩
    ·rw [←e0]; exact k0
    ·exact k1
    ·rw [←e2]; exact k2
    ·exact k3
  obtain⟨f,hf⟩:=Go.Deep.choose_lt (α:=Raw) hv;refine⟨len,f,Nat.le_refl _,Nat.le_refl _,_,cap,rfl,hl,hm,fun h0=>⟨B,O,rfl,Nat.zero_le _,?_,fun i hi=>hf i hi⟩⟩;obtain⟨s,t,k0,-⟩:=hf 0 h0;exact cell_lt k0
theorem mt_of_trod {n:Nat} {v:Value} {x:DataW H×List MemPlace} (h:DataW.trod enc Tryz.prog w 0 spare held n 23 [v]=some x):∃ k L R,MtR w.heap.size 0 w.heap.size w v k L R:=by
 rcases Go.Deep.open_slice1 Tryz.underlying23 cells_rats h with ⟨hcs,-⟩ | ⟨a,len,cap,m,n',V,D,Pl,hcs,-,hl,hm,hmm,-,hx⟩
 ·simp only [List.cons.injEq,and_true] at hcs;subst hcs;exact⟨0,fun _=>0,fun _ _=>default,Nat.le_refl _,Nat.le_refl _,_,_,rfl,Nat.le_refl _,Nat.zero_le _,fun h0=>absurd h0 (by omega)⟩
 ·simp only [List.cons.injEq,and_true] at hcs;subst hcs;have hlm:len≤m:=by rw [hmm]; split <;> omega
  rcases Nat.eq_zero_or_pos len with hl0 | hl0
  ·subst hl0;exact⟨0,fun _=>0,fun _ _=>default,Nat.le_refl _,Nat.le_refl _,_,_,rfl,hl,hm,fun h0=>absurd h0 (by omega)⟩
  obtain⟨B,O,rfl⟩:∃ B O,a=⟨B,O,none⟩:=⟨_,_,spot_none a (hx 0 (by omega)).1⟩
  have hv:∀ i,i < len→∃ kR:Nat×(Nat→Raw),w.cell? ⟨B,O+i,none⟩=some (V i)∧LsR w.heap.size 0 w.heap.size w (V i) kR.1 kR.2:=fun i hi=>by
   obtain⟨h1,h2⟩:=hx i (by omega);rw [add_none] at h1;obtain⟨k,R,hR⟩:=ls_of_trod h2;exact⟨(k,R),h1,hR⟩
  obtain⟨f,hf⟩:=Go.Deep.choose_lt (α:=Nat×(Nat→Raw)) hv;refine⟨len,fun i=>(f i).1,fun i=>(f i).2,Nat.le_refl _,Nat.le_refl _,_,cap,rfl,hl,hm,fun h0=>⟨B,O,rfl,Nat.zero_le _,cell_lt (hf 0 h0).1,fun i hi=>⟨V i,(hf i hi).1,(hf i hi).2⟩⟩⟩
end
theorem own:ownKnob Tryz.prog.godebug=none:=by kernel_rfl
theorem laidOut:laidOutB Tryz.prog=true:=by kernel_rfl
end Go.Proofs.YthkkknjcoidioaaGreat
