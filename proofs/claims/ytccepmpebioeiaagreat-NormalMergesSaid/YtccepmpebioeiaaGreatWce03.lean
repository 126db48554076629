import Derived.Test.YtccepmpebioeiaaGreatWce02
set_option linter.all false
set_option maxHeartbeats 8000000
namespace Go.Proofs.YtccepmpebioeiaaGreat
open Go.RowKit
theorem ixT0 (x y:Value) (w:World):(Instr.index 78 (.agg #[x,y]) (.int .i64 0)).run Tryz.prog w=.ok x w:=by kernel_rfl
theorem ixT1 (x y:Value) (w:World):(Instr.index 78 (.agg #[x,y]) (.int .i64 1)).run Tryz.prog w=.ok y w:=by kernel_rfl
set_option maxRecDepth 100000 in
theorem merges_good {N lo hi lo0 hi0 lo1 hi1:Nat} {w:World} {A1 A2 A3 A4 A5:Option Addr} {c1 c2 c3 c4 c5 m n n0 n1:Nat} {X:Nat→Nat→Rat} {y p:Nat→Rat} {R0 R1:Nat→Raw} {Z:Lin} {iz jz:Int}
  (hI:LinV N lo hi w (.agg #[.slice A1 m c1,.slice A2 m c2,.slice A3 m c3]) Z) (hX0:LsR N lo0 hi0 w (.slice A4 n0 c4) n0 R0) (hX1:LsR N lo1 hi1 w (.slice A5 n1 c5) n1 R1) (hs:few34 8 5 Z=true) (hs0:shB 8 n0 R0=true) (hs1:shB 8 n1 R1=true) (hc:codeOf Z=0)
  (h1:MtV N lo hi w (.slice A1 m c1) m n X) (h2:LsV N lo hi w (.slice A2 m c2) m y) (h3:LsV N lo hi w (.slice A3 m c3) m p) (hm0:0 < m) (hm:m≤8) (hn0:0 < n) (hn:n≤5) (hpos:∀ i,i < m→0 < p i)
  (hkx:HtM m n 17 X) (hky:HtL m 17 y) (hkp:HtL m 17 p)
  {a b:Nat} (hab:a < b) (hb:b < m) (hz:(iz=(a:Int)∧jz=(b:Int))∨(iz=(b:Int)∧jz=(a:Int))) (hr:allB n (fun c=>decide (X a c=X b c))=true) :
  Calls Tryz.prog 8 #[.agg #[.slice A1 m c1,.slice A2 m c2,.slice A3 m c3],.agg #[.int .i64 iz,.int .i64 jz],.agg #[.slice A4 n0 c4,.slice A5 n1 c5]] w (RetV w (.bool true)):=by
 obtain⟨f1,f2,f3⟩:=few34_sz hs;have HS:=Lib.hid hs;have HS0:=Lib.hid hs0;have HS1:=Lib.hid hs1;have HC:=Lib.hid hc;have HF2:=Lib.hid f2;have HF3:=Lib.hid f3;have HX:=Lib.hid hkx;have HY:=Lib.hid hky;have HP:=Lib.hid hkp;have HPOS:=Lib.hid hpos;obtain⟨zi,hzi⟩:=hid_eq (if jz < iz then jz else iz);obtain⟨zj,hzj⟩:=hid_eq (if iz < jz then jz else iz);have HRR:=Lib.hid hr;have hA:∀ c,c < n→X a c=X b c:=fun c hc=>of_decide_eq_true (allB_true.1 hr c hc)
 have hpp:0 < p a+p b:=by have:=hpos a (by omega); have:=hpos b hb; grind
 have HPN:Hid (p a+p b≠0):=fun h=>by rw [h] at hpp; exact absurd hpp Rat.lt_irrefl
 have HSX:Hid (∀ i,i < m→∀ c,c < n→Sz (X i c)):=fun i hi c hc=>(hkx i hi c hc).sz (by omega)
 have HSD:Hid (∀ c,c < n→Sz (X a c - X b c)):=fun c hc=>((hkx a (by omega) c hc).sub (hkx b hb c hc)).sz (by omega)
 have HSP:Hid (Sz (p a)∧Sz (p b)∧Sz (y a)∧Sz (y b)∧Sz (p a+p b)∧Sz (p a*y a)∧Sz (p b*y b)∧Sz (p a*y a+p b*y b)):=by
  have q1:=hkp a (by omega);have q2:=hkp b hb;have q3:=hky a (by omega);have q4:=hky b hb;exact⟨q1.sz (by omega),q2.sz (by omega),q3.sz (by omega),q4.sz (by omega),(q1.add q2).sz (by omega),(q1.mul q3).sz (by omega),(q2.mul q4).sz (by omega),((q1.mul q3).add (q2.mul q4)).sz (by omega)⟩
 have HZI:Hid (zi=(a:Int)∧zj=(b:Int)):=by
  rw [Hid,hzi.out,hzj.out]
  constructor <;> split <;> omega
 have HZ:=Lib.hid hz;have ham:a < m:=by omega
 have ham1:a < m - 1:=by omega
 have hN:=h1.le;have HNM:Hid (∀ i,i < n→∀ j,j < n→nmat X p m i j=nmat (fun j=>X (skip b j)) (mgP a b p) (m - 1) i j):=fun i hi j hj=>mg_nm hab hb hA hi hj
 have HNB:Hid (∀ i,i < n→nrhs X y p m i=nrhs (fun j=>X (skip b j)) (mgL a b y p) (mgP a b p) (m - 1) i):=fun i hi=>mg_nb hab hb hA hpp hi
 have HOB:Hid (∀ x x',obj m p (fun i=>av n X x i - y i) - obj (m - 1) (mgP a b p) (fun i=>av n (fun j=>X (skip b j)) x i - mgL a b y p i)=obj m p (fun i=>av n X x' i - y i) - obj (m - 1) (mgP a b p) (fun i=>av n (fun j=>X (skip b j)) x' i - mgL a b y p i)):=mg_obj hab hb hA hpp;have HX1:Hid (HtM (m - 1) n 110 (fun j=>X (skip b j))):=mg_htX hkx hb;have HY1:Hid (HtL (m - 1) 110 (mgL a b y p)):=mg_htL hky hkp hab hb;have HP1:Hid (HtL (m - 1) 110 (mgP a b p)):=mg_htP hkp hab hb;obtain⟨Xc,hXc⟩:=hid_eq (fun j=>X (skip b j));obtain⟨yc,hyc⟩:=hid_eq (mgL a b y p);obtain⟨pc,hpc⟩:=hid_eq (mgP a b p);obtain⟨QT,hQT⟩:=hid_eq ((p a*y a+p b*y b) / (p a+p b));obtain⟨PT,hPT⟩:=hid_eq (p a+p b);rw [←hXc.out,←hpc.out] at HNM;rw [←hXc.out,←hyc.out,←hpc.out] at HNB HOB;rw [←hXc.out] at HX1;rw [←hyc.out] at HY1;rw [←hpc.out] at HP1;have HSZN:Hid (∀ i,i < n→∀ j,j < n→Sz (nmat X p m i j)):=fun i hi j hj=>(nmat_ht hkx hkp (Nat.le_refl _) (Nat.le_refl _) i hi j hj).sz (by omega)
 have HSZR:Hid (∀ i,i < n→Sz (nrhs X y p m i)):=fun i hi=>(nrhs_ht hkx hky hkp (Nat.le_refl _) (Nat.le_refl _) i hi).sz (by omega)
 obtain⟨v0,hv0⟩:=hid_eq (allB n0 (fun i=>okR (R0 i)));obtain⟨v1,hv1⟩:=hid_eq (allB n1 (fun i=>okR (R1 i)));have HBR0:Hid (∀ i,i < n0→RawSz (R0 i)):=fun i hi=>(brief_raw ((shB_all hs0).2 i hi)).1
 have HBR1:Hid (∀ i,i < n1→RawSz (R1 i)):=fun i hi=>(brief_raw ((shB_all hs1).2 i hi)).1
 have HLS0:Hid (n0=n→v0=true→∃ x,LsV N lo0 hi0 w (.slice A4 n0 c4) n x∧HtL n 17 x):=fun e1 e2=>by
  obtain⟨g1,g2⟩:=shB_lsv hs0 (by rw [←hv0.out]; exact e2) hX0;exact⟨_,by rw [←e1]; exact g1,by rw [←e1]; exact g2⟩
 have HLS1:Hid (n1=n→v1=true→∃ x,LsV N lo1 hi1 w (.slice A5 n1 c5) n x∧HtL n 17 x):=fun e1 e2=>by
  obtain⟨g1,g2⟩:=shB_lsv hs1 (by rw [←hv1.out]; exact e2) hX1;exact⟨_,by rw [←e1]; exact g1,by rw [←e1]; exact g2⟩
 have HM1:Hid ((m - 1)*(3*110+1)+3*110+2≤29000000000):=by rw [Hid]; omega
 clear hs hs0 hs1 hc f1 f2 f3 hkx hky hkp hpos hz hr hA hpp;go_enter Tryz.func8,Tryz.ntmps8;go_wp2_with (go_at_call 10; refine Hid.out ?_);refine boxesC3 ?_;intro W hE hsz B0 B1 B2;refine (l34_known W).mono ?_;rintro e w1 ⟨rfl,e1⟩;replace hE:=hE.trans e1;replace B0:=e1.block B0;replace B1:=e1.block B1;replace B2:=e1.block B2;have hsz1:=blk_lt B2;clear e1 hsz;obtain⟨a0,a1,a2,-⟩:=cells3 B0;obtain⟨d0,d1,-⟩:=cells2 B1;obtain⟨f0,f1,-⟩:=cells2 B2;go_wp2_with (go_at_call 11; refine Hid.out ?_);refine (l34_few (hI.ext hE) 8 5 rfl rfl (by omega) (by omega)).mono ?_;rintro e w2 ⟨rfl,e2⟩;rw [HS.out];replace hE:=hE.trans e2;replace B0:=e2.block B0;replace B1:=e2.block B1;replace B2:=e2.block B2;replace hsz1:=blk_lt B2;clear a0 a1 a2 d0 d1 f0 f1;obtain⟨a0,a1,a2,-⟩:=cells3 B0;obtain⟨d0,d1,-⟩:=cells2 B1;obtain⟨f0,f1,-⟩:=cells2 B2;clear e2;go_wp2_with (go_at_call 12; refine Hid.out ?_);refine (r2_short (hX0.ext hE) 8 rfl (by omega)).mono ?_;rintro e w3 ⟨rfl,e3⟩;rw [HS0.out];replace hE:=hE.trans e3;replace B0:=e3.block B0;replace B1:=e3.block B1;replace B2:=e3.block B2;replace hsz1:=blk_lt B2;clear a0 a1 a2 d0 d1 f0 f1;obtain⟨a0,a1,a2,-⟩:=cells3 B0;obtain⟨d0,d1,-⟩:=cells2 B1;obtain⟨f0,f1,-⟩:=cells2 B2;clear e3;go_wp2_with (go_at_call 12; refine Hid.out ?_);refine (r2_short (hX1.ext hE) 8 rfl (by omega)).mono ?_;rintro e w3 ⟨rfl,e3⟩;rw [HS1.out];replace hE:=hE.trans e3;replace B0:=e3.block B0;replace B1:=e3.block B1
 replace B2:=e3.block B2;replace hsz1:=blk_lt B2;clear a0 a1 a2 d0 d1 f0 f1;obtain⟨a0,a1,a2,-⟩:=cells3 B0;obtain⟨d0,d1,-⟩:=cells2 B1;obtain⟨f0,f1,-⟩:=cells2 B2;clear e3;go_upto_region 5 with (fail);refine regI [Mn.eq (.pointer (some ⟨w.heap.size+1,0,none⟩)),Mn.eq (.int .i64 iz),Mn.eq (.pointer (some ⟨w.heap.size+1,1,none⟩)),Mn.eq (.int .i64 jz),Mn.eq (.int .i64 zi),Mn.eq (.pointer (some ⟨w.heap.size+1,0,none⟩)),Mn.eq (.int .i64 iz),Mn.eq (.pointer (some ⟨w.heap.size+1,1,none⟩)),Mn.eq (.int .i64 jz),Mn.eq (.int .i64 zj),Mn.eq (.int .i64 zi),Mn.eq (.int .i64 zj)] [some 40,some 41,some 42,some 43,some 44,some 45,some 46,some 47,some 48,some 49,some 7,some 8] [] [true,true,true,true,true,true,true,true,true,true,true,true] 0 (by kernel_rfl) ?_ ?_
 ·show ∀ i,i < 12→_
  iterate 12 refine fs ?_ ?_
  ·exact fz
  all_goals intro hl
  all_goals clear hl
  all_goals refine stp rfl ?_
  all_goals intro ac wi eI hB hA K hK
  have o4:=oOf (hB 4 (by kernel_rfl)) rfl
  rotate_left
  obtain⟨_,s40,rfl⟩:=hA 0 (by kernel_rfl) 40 rfl;have cc0:=eI.cell d0
  rotate_left
  have o4:=oOf (hB 4 (by kernel_rfl)) rfl
  rotate_left
  obtain⟨_,s42,rfl⟩:=hA 2 (by kernel_rfl) 42 rfl;have cc0:=eI.cell d1
  rotate_left
  obtain⟨_,s41,rfl⟩:=hA 1 (by kernel_rfl) 41 rfl;obtain⟨_,s43,rfl⟩:=hA 3 (by kernel_rfl) 43 rfl;clear hB hA
  ·go_simp;rw [←hzi.out];exact hK.out _ _ (Ext.refl _) rfl
  have o4:=oOf (hB 4 (by kernel_rfl)) rfl
  rotate_left
  obtain⟨_,s45,rfl⟩:=hA 5 (by kernel_rfl) 45 rfl;have cc0:=eI.cell d0
  rotate_left
  have o4:=oOf (hB 4 (by kernel_rfl)) rfl
  rotate_left
  obtain⟨_,s47,rfl⟩:=hA 7 (by kernel_rfl) 47 rfl;have cc0:=eI.cell d1
  rotate_left
  obtain⟨_,s46,rfl⟩:=hA 6 (by kernel_rfl) 46 rfl;obtain⟨_,s48,rfl⟩:=hA 8 (by kernel_rfl) 48 rfl;clear hB hA
  ·go_simp;rw [←hzj.out];exact hK.out _ _ (Ext.refl _) rfl
  obtain⟨_,s44,rfl⟩:=hA 4 (by kernel_rfl) 44 rfl
  rotate_left
  obtain⟨_,s49,rfl⟩:=hA 9 (by kernel_rfl) 49 rfl
  rotate_left
  all_goals clear hB hA
  all_goals go_simp
  all_goals exact hK.out _ _ (Ext.refl _) rfl
 intro vals wz eZ hJ;have J7:vals 10=_:=hJ 10 (by decide) (by decide);have J8:vals 11=_:=hJ 11 (by decide) (by decide);clear hJ;simp only [pr,Nat.reduceAdd,J7,J8];clear J7 J8;refine stepL_done (by kernel_rfl) ?_ _;replace hE:=hE.trans eZ;replace B0:=eZ.block B0;replace B1:=eZ.block B1;replace B2:=eZ.block B2;replace hsz1:=blk_lt B2;clear a0 a1 a2 d0 d1 f0 f1;obtain⟨a0,a1,a2,-⟩:=cells3 B0;obtain⟨d0,d1,-⟩:=cells2 B1;obtain⟨f0,f1,-⟩:=cells2 B2;clear eZ;obtain⟨rfl,rfl⟩:=HZI.out;clear hzi hzj HZI;go_wp2_with (go_at_call 45; refine Hid.out ?_);refine (n_Merge (h1.ext hE) (h2.ext hE) (h3.ext hE) hm0 (by omega) hn0 (by omega) HPOS.out HX.out HY.out HP.out (by omega) hab hb HZ.out HRR.out).mono ?_;rw [←hXc.out,←hyc.out,←hpc.out];rintro e w4 ⟨v,rfl,hV,e4⟩;obtain⟨B1',b1,B2',b2,B3',b3,rfl,g1,g2,g3⟩:=hV.form;clear hV;replace hE:=hE.trans e4;replace B0:=e4.block B0;replace B1:=e4.block B1;replace B2:=e4.block B2;replace hsz1:=blk_lt B2;clear a0 a1 a2 d0 d1 f0 f1;obtain⟨a0,a1,a2,-⟩:=cells3 B0;obtain⟨d0,d1,-⟩:=cells2 B1;obtain⟨f0,f1,-⟩:=cells2 B2;go_upto_region 7 with (fail);refine boxes1 ?_;intro w5 e5 hsz5 B9;replace g1:=MtV.all (g1.ext e5);replace g2:=LsV.all (g2.ext e5);replace g3:=LsV.all (g3.ext e5);obtain⟨g9,hg9⟩:∃ g9,g9=w4.heap.size:=⟨_,rfl⟩
 rw [←hg9] at B9 ⊢;have hg9':w.heap.size+2 < g9:=by omega
 clear hg9;replace hE:=hE.trans e5;replace B0:=e5.block B0;replace B1:=e5.block B1;replace B2:=e5.block B2;replace hsz1:=blk_lt B2;clear a0 a1 a2 d0 d1 f0 f1;obtain⟨a0,a1,a2,-⟩:=cells3 B0;obtain⟨d0,d1,-⟩:=cells2 B1;obtain⟨f0,f1,-⟩:=cells2 B2;clear e5 e4 hsz5;have hF:=Ext.refl w5;go_wp2_with (go_at_call 14; refine Hid.out ?_);refine (l34_checked (hI.ext hE) HF2.out HF3.out).mono ?_;rintro e w6 ⟨rfl,e6⟩;replace hE:=hE.trans e6;replace B0:=e6.block B0;replace B1:=e6.block B1;replace B2:=e6.block B2;replace hsz1:=blk_lt B2;clear a0 a1 a2 d0 d1 f0 f1;obtain⟨a0,a1,a2,-⟩:=cells3 B0;obtain⟨d0,d1,-⟩:=cells2 B1;obtain⟨f0,f1,-⟩:=cells2 B2;replace B9:=e6.block B9;replace hF:=hF.trans e6;clear e6;rw [HC.out];have t1:decide ((a:Int) < 0)=false:=decide_eq_false (by omega);have t2:decide ((m:Int)≤(b:Int))=false:=decide_eq_false (by omega);have t3:((a:Int) == (b:Int))=false:=beq_eq_false_iff_ne.2 (by omega);obtain⟨b1,off1,rfl,-,-,hx1⟩:=(h1.ext hE).addr hm0;obtain⟨Aa,ca,p0,-,-,hra⟩:=hx1 a (by omega);obtain⟨Ab,cb,q0,-,-,hrb⟩:=hx1 b (by omega);clear hx1;go_upto_region 10 with (fail);refine regI [Mn.eq (.int .i64 0),Mn.eq (.bool true),Mn.eq (.bool true),Mn.eq (.pointer (some ⟨w.heap.size,0,none⟩)),Mn.eq (.slice (some ⟨b1,off1,none⟩) m c1),Mn.eq (.int .i64 (a:Int)),Mn.eq (.pointer (some ⟨b1,off1+a,none⟩)),Mn.eq (.slice Aa n ca),Mn.eq (.pointer (some ⟨w.heap.size,0,none⟩)),Mn.eq (.slice (some ⟨b1,off1,none⟩) m c1),Mn.eq (.int .i64 (b:Int)),Mn.eq (.pointer (some ⟨b1,off1+b,none⟩)),Mn.eq (.slice Ab n cb),Mn.eq (.bool true),Mn.eq (.bool (!true)),Mn.eq (.bool (!true))] [some 79,some 80,some 81,some 82,some 83,some 84,some 85,some 86,some 87,some 88,some 89,some 90,some 91,some 92,some 93,some 94] [] [true,true,true,true,true,true,true,true,true,true,true,true,true,true,true,true] 0 (by kernel_rfl) ?_ ?_
 ·show ∀ i,i < 16→_
  iterate 16 refine fs ?_ ?_
  ·exact fz
  all_goals intro hl
  all_goals clear hl
  all_goals refine stp rfl ?_
  all_goals intro ac wi eI hB hA K hK
  have o11:=oOf (hB 11 (by kernel_rfl)) rfl
  rotate_left
  obtain⟨_,s79,rfl⟩:=hA 0 (by kernel_rfl) 79 rfl
  rotate_left
  obtain⟨_,s80,rfl⟩:=hA 1 (by kernel_rfl) 80 rfl
  rotate_left
  obtain⟨_,s81,rfl⟩:=hA 2 (by kernel_rfl) 81 rfl;have o3:=oOf (hB 3 (by kernel_rfl)) rfl;rw [if_pos (by simp [Region.wanted,yielded,s81])]
  rotate_left
  obtain⟨_,s81,rfl⟩:=hA 2 (by kernel_rfl) 81 rfl;obtain⟨_,s82,rfl⟩:=hA 3 (by kernel_rfl) 82 rfl;rw [if_pos (by simp [Region.wanted,yielded,s81])];have cc0:=eI.cell a0
  rotate_left
  obtain⟨_,s81,rfl⟩:=hA 2 (by kernel_rfl) 81 rfl;have o7:=oOf (hB 7 (by kernel_rfl)) rfl;rw [if_pos (by simp [Region.wanted,yielded,s81])]
  rotate_left
  obtain⟨_,s81,rfl⟩:=hA 2 (by kernel_rfl) 81 rfl;obtain⟨_,s83,rfl⟩:=hA 4 (by kernel_rfl) 83 rfl;obtain⟨_,s84,rfl⟩:=hA 5 (by kernel_rfl) 84 rfl;rw [if_pos (by simp [Region.wanted,yielded,s81])]
  rotate_left
  obtain⟨_,s81,rfl⟩:=hA 2 (by kernel_rfl) 81 rfl;obtain⟨_,s85,rfl⟩:=hA 6 (by kernel_rfl) 85 rfl;rw [if_pos (by simp [Region.wanted,yielded,s81])];have cc0:=eI.cell p0
  rotate_left
  obtain⟨_,s81,rfl⟩:=hA 2 (by kernel_rfl) 81 rfl;have o3:=oOf (hB 3 (by kernel_rfl)) rfl;rw [if_pos (by simp [Region.wanted,yielded,s81])]
  rotate_left
  obtain⟨_,s81,rfl⟩:=hA 2 (by kernel_rfl) 81 rfl;obtain⟨_,s87,rfl⟩:=hA 8 (by kernel_rfl) 87 rfl;rw [if_pos (by simp [Region.wanted,yielded,s81])];have cc0:=eI.cell a0
  rotate_left
  obtain⟨_,s81,rfl⟩:=hA 2 (by kernel_rfl) 81 rfl;have o8:=oOf (hB 8 (by kernel_rfl)) rfl;rw [if_pos (by simp [Region.wanted,yielded,s81])]
  rotate_left
  obtain⟨_,s81,rfl⟩:=hA 2 (by kernel_rfl) 81 rfl;obtain⟨_,s88,rfl⟩:=hA 9 (by kernel_rfl) 88 rfl;obtain⟨_,s89,rfl⟩:=hA 10 (by kernel_rfl) 89 rfl;rw [if_pos (by simp [Region.wanted,yielded,s81])]
  rotate_left
  obtain⟨_,s81,rfl⟩:=hA 2 (by kernel_rfl) 81 rfl;obtain⟨_,s90,rfl⟩:=hA 11 (by kernel_rfl) 90 rfl;rw [if_pos (by simp [Region.wanted,yielded,s81])];have cc0:=eI.cell q0
  rotate_left
  obtain⟨_,s81,rfl⟩:=hA 2 (by kernel_rfl) 81 rfl;obtain⟨_,s86,rfl⟩:=hA 7 (by kernel_rfl) 86 rfl;obtain⟨_,s91,rfl⟩:=hA 12 (by kernel_rfl) 91 rfl;clear hB hA;rw [if_pos (by simp [Region.wanted,yielded,s81])]
  ·go_simp;refine (r2_sameListD (hra.ext eI) (hrb.ext eI) (fun c hc=>⟨HSX.out a (by omega) c hc,HSX.out b (by omega) c hc,HSD.out c hc⟩)).mono ?_;rw [HRR.out];rintro e wj ⟨rfl,ej⟩;go_wp2_with fail;exact hK.out _ _ ej rfl
  obtain⟨_,s81,rfl⟩:=hA 2 (by kernel_rfl) 81 rfl;obtain⟨_,s92,rfl⟩:=hA 13 (by kernel_rfl) 92 rfl;rw [if_pos (by simp [Region.wanted,yielded,s81])]
  rotate_left
  obtain⟨_,s81,rfl⟩:=hA 2 (by kernel_rfl) 81 rfl;obtain⟨_,s93,rfl⟩:=hA 14 (by kernel_rfl) 93 rfl
  rotate_left
  all_goals clear hB hA
  all_goals go_simp
  all_goals exact hK.out _ _ (Ext.refl _) rfl
 intro vals wz eZ hJ;have J94:vals 15=_:=hJ 15 (by decide) (by decide);clear hJ;simp only [pr,Nat.reduceAdd,J94];clear J94;refine stepL_done (by kernel_rfl) ?_ _;clear p0 q0 hra hrb;replace hE:=hE.trans eZ;replace B0:=eZ.block B0;replace B1:=eZ.block B1;replace B2:=eZ.block B2;replace hsz1:=blk_lt B2;clear a0 a1 a2 d0 d1 f0 f1;obtain⟨a0,a1,a2,-⟩:=cells3 B0;obtain⟨d0,d1,-⟩:=cells2 B1;obtain⟨f0,f1,-⟩:=cells2 B2;replace B9:=eZ.block B9;replace hF:=hF.trans eZ;clear eZ;clear t1 t2 t3 HRR HSX HSD hI HF2 HF3 HS;obtain⟨w7,hwx⟩:∃ w7,w7=wz:=⟨_,rfl⟩
 subst hwx;obtain⟨bp,offp,rfl,-,-,hx3⟩:=(h3.ext hE).addr hm0;obtain⟨by',offy,rfl,-,-,hx2⟩:=(h2.ext hE).addr hm0;obtain⟨np,Ap,kp,cp,A'p,k'p,c'p,p0,p1,p2,p3,hbp,yp,zp⟩:=(hx3 a (by omega)).open;have hRp:RatV N w7 (.agg #[.bool np,.slice Ap kp cp,.bool false,.slice A'p k'p c'p]) (p a):=RatV.mk hbp yp zp;clear hbp yp zp;obtain⟨nq,Aq,kq,cq,A'q,k'q,c'q,q0,q1,q2,q3,hbq,yq,zq⟩:=(hx3 b (by omega)).open;have hRq:RatV N w7 (.agg #[.bool nq,.slice Aq kq cq,.bool false,.slice A'q k'q c'q]) (p b):=RatV.mk hbq yq zq;clear hbq yq zq;obtain⟨ns,As,ks,cs,A's,k's,c's,s0,s1,s2,s3,hbs,ys,zs⟩:=(hx2 a (by omega)).open;have hRs:RatV N w7 (.agg #[.bool ns,.slice As ks cs,.bool false,.slice A's k's c's]) (y a):=RatV.mk hbs ys zs;clear hbs ys zs;obtain⟨nk,Ak,kk,ck,A'k,k'k,c'k,k0,k1,k2,k3,hbk,yk,zk⟩:=(hx2 b (by omega)).open;have hRk:RatV N w7 (.agg #[.bool nk,.slice Ak kk ck,.bool false,.slice A'k k'k c'k]) (y b):=RatV.mk hbk yk zk;clear hbk yk zk;clear hx3 hx2;go_upto_region 14 with (fail);refine regI [Mn.eq (.pointer (some ⟨w.heap.size,2,none⟩)),Mn.eq (.slice (some ⟨bp,offp,none⟩) m c3),Mn.eq (.int .i64 (a:Int)),Mn.eq (.pointer (some ⟨bp,offp+a*4,none⟩)),Mn.rat N (p a),Mn.eq (.pointer (some ⟨w.heap.size,2,none⟩)),Mn.eq (.slice (some ⟨bp,offp,none⟩) m c3),Mn.eq (.int .i64 (b:Int)),Mn.eq (.pointer (some ⟨bp,offp+b*4,none⟩)),Mn.rat N (p b),Mn.rat N PT,Mn.blk w7.heap.size (.cells #[.bool false,.slice none 0 0,.bool false,.slice none 0 0] 44 (0,0)),Mn.any] [some 104,some 105,some 106,some 107,some 108,some 109,some 110,some 111,some 112,some 113,some 114,some 12,none] [12] [true,true,true,true,true,true,true,true,true,true,true,true,false] 1 (by kernel_rfl) ?_ ?_
 ·show ∀ i,i < 13→_
  iterate 13 refine fs ?_ ?_
  ·exact fz
  all_goals intro hl
  all_goals first | exact absurd hl (by decide) | skip
  all_goals clear hl
  all_goals refine stp rfl ?_
  all_goals intro ac wi eI hB hA K hK
  have o3:=oOf (hB 3 (by kernel_rfl)) rfl
  rotate_left
  obtain⟨_,s104,rfl⟩:=hA 0 (by kernel_rfl) 104 rfl;have cc0:=eI.cell a2
  rotate_left
  have o7:=oOf (hB 7 (by kernel_rfl)) rfl
  rotate_left
  obtain⟨_,s105,rfl⟩:=hA 1 (by kernel_rfl) 105 rfl;obtain⟨_,s106,rfl⟩:=hA 2 (by kernel_rfl) 106 rfl
  rotate_left
  obtain⟨_,s107,rfl⟩:=hA 3 (by kernel_rfl) 107 rfl;clear hB hA;have cc0:=eI.cell p0;have cc1:=eI.cell p1;have cc2:=eI.cell p2;have cc3:=eI.cell p3
  ·go_simp;exact hK.out _ _ (Ext.refl _) (hRp.ext eI)
  have o3:=oOf (hB 3 (by kernel_rfl)) rfl
  rotate_left
  obtain⟨_,s109,rfl⟩:=hA 5 (by kernel_rfl) 109 rfl;have cc0:=eI.cell a2
  rotate_left
  have o8:=oOf (hB 8 (by kernel_rfl)) rfl
  rotate_left
  obtain⟨_,s110,rfl⟩:=hA 6 (by kernel_rfl) 110 rfl;obtain⟨_,s111,rfl⟩:=hA 7 (by kernel_rfl) 111 rfl
  rotate_left
  obtain⟨_,s112,rfl⟩:=hA 8 (by kernel_rfl) 112 rfl;clear hB hA;have cc0:=eI.cell q0;have cc1:=eI.cell q1;have cc2:=eI.cell q2;have cc3:=eI.cell q3
  ·go_simp;exact hK.out _ _ (Ext.refl _) (hRq.ext eI)
  obtain⟨x108,s108,j108⟩:=hA 4 (by kernel_rfl) 108 rfl;replace j108:Mn.p (Mn.rat N (p a)) x108 wi:=j108;obtain⟨x113,s113,j113⟩:=hA 9 (by kernel_rfl) 113 rfl;replace j113:Mn.p (Mn.rat N (p b)) x113 wi:=j113;clear hB hA
  ·go_simp;refine (l34_add j108 j113 HSP.out.1 HSP.out.2.1).mono ?_;rw [←hPT.out];rintro e wj ⟨vj,rfl,hj,ej⟩;go_wp2_with fail;exact hK.out _ _ ej hj
  clear hB hA
  ·go_simp;refine boxes1 ?_;intro wj ej hszj BJ;exact hK.out _ _ ej ⟨_,rfl,eI.size,BJ⟩
  all_goals clear hB hA
  all_goals go_simp
  all_goals exact hK.out _ _ (Ext.refl _) rfl
 intro vals wz eZ hJ;have J114:Mn.p (Mn.rat N PT) (vals 10) wz:=hJ 10 (by decide) (by decide);have J12:Mn.p (Mn.blk w7.heap.size (.cells #[.bool false,.slice none 0 0,.bool false,.slice none 0 0] 44 (0,0))) (vals 11) wz:=hJ 11 (by decide) (by decide);clear hJ;simp only [pr,Nat.reduceAdd]
 generalize vals 10=z114 at J114 ⊢
 generalize vals 11=z12 at J12 ⊢
 obtain⟨gW,rfl,hgW,BG⟩:=J12;obtain⟨bz,Az,kz,cz,Az',kz',cz',rfl,hbz,gz1,gz2⟩:=RatV.parts J114;obtain⟨r0,r1,r2,r3,r4,r5,r6,r7⟩:=cells4 BG;refine stepL_late (i:=12) rfl (by kernel_rfl) (by kernel_rfl) (fun K hK=>?_);go_simp;refine hK.out _ _ ?_;clear hK K;try simp only [nr]
 refine stepL_done (by kernel_rfl) ?_ _;obtain⟨w8,E8,hBW,K8,hs8⟩:=boxSet (q:=PT) BG (by have:=hE.size; omega) hbz gz1 gz2;rw [E8];have hgW8:gW < w8.heap.size:=by have:=blk_lt BG; omega
 have eW8:Ext w7 w8:=K8.ext eZ hgW;replace hE:=hE.trans eW8;replace B0:=eW8.block B0;replace B1:=eW8.block B1;replace B2:=eW8.block B2;replace hsz1:=blk_lt B2;clear a0 a1 a2 d0 d1 f0 f1;obtain⟨a0,a1,a2,-⟩:=cells3 B0;obtain⟨d0,d1,-⟩:=cells2 B1;obtain⟨f0,f1,-⟩:=cells2 B2;replace B9:=eW8.block B9;replace hF:=hF.trans eW8;clear r0 r1 r2 r3 r4 r5 r6 r7 BG E8 K8 J114 eZ hs8 hbz gz1 gz2;replace hRp:=hRp.ext eW8;replace hRq:=hRq.ext eW8;replace hRs:=hRs.ext eW8;replace hRk:=hRk.ext eW8;replace p0:=eW8.cell p0;replace p1:=eW8.cell p1;replace p2:=eW8.cell p2;replace p3:=eW8.cell p3;replace q0:=eW8.cell q0;replace q1:=eW8.cell q1;replace q2:=eW8.cell q2;replace q3:=eW8.cell q3;replace s0:=eW8.cell s0;replace s1:=eW8.cell s1;replace s2:=eW8.cell s2;replace s3:=eW8.cell s3;replace k0:=eW8.cell k0;replace k1:=eW8.cell k1;replace k2:=eW8.cell k2;replace k3:=eW8.cell k3;clear eW8;have hBW8:=hBW;obtain⟨nx,Ax,kx,cx,A'x,k'x,c'x,Bx,hbx,yx,zx⟩:=hBW8;obtain⟨x0,x1,x2,x3,-⟩:=cells4 Bx;have hRx:RatV N w8 (.agg #[.bool nx,.slice Ax kx cx,.bool false,.slice A'x k'x c'x]) (PT):=RatV.mk hbx yx zx;clear hbx yx zx Bx;go_upto_region 15 with (fail);refine regS [Mn.eq (.pointer (some ⟨w.heap.size,2,none⟩)),Mn.eq (.slice (some ⟨bp,offp,none⟩) m c3),Mn.eq (.int .i64 (a:Int)),Mn.eq (.pointer (some ⟨bp,offp+a*4,none⟩)),Mn.rat N (p a),Mn.eq (.pointer (some ⟨w.heap.size,1,none⟩)),Mn.eq (.slice (some ⟨by',offy,none⟩) m c2),Mn.eq (.int .i64 (a:Int)),Mn.eq (.pointer (some ⟨by',offy+a*4,none⟩)),Mn.rat N (y a),Mn.rat N (p a*y a),Mn.eq (.pointer (some ⟨w.heap.size,2,none⟩)),Mn.eq (.slice (some ⟨bp,offp,none⟩) m c3),Mn.eq (.int .i64 (b:Int)),Mn.eq (.pointer (some ⟨bp,offp+b*4,none⟩)),Mn.rat N (p b),Mn.eq (.pointer (some ⟨w.heap.size,1,none⟩)),Mn.eq (.slice (some ⟨by',offy,none⟩) m c2),Mn.eq (.int .i64 (b:Int)),Mn.eq (.pointer (some ⟨by',offy+b*4,none⟩)),Mn.rat N (y b),Mn.rat N (p b*y b),Mn.rat N (p a*y a+p b*y b),Mn.rat N (PT),Mn.rc N QT,Mn.rc N QT,Mn.rat N QT,Mn.eq (.int .i64 0),Mn.blk w8.heap.size (.cells #[.bool false,.slice none 0 0,.bool false,.slice none 0 0] 44 (0,0)),Mn.any,Mn.any] [some 116,some 117,some 118,some 119,some 120,some 121,some 122,some 123,some 124,some 125,some 126,some 127,some 128,some 129,some 130,some 131,some 132,some 133,some 134,some 135,some 136,some 137,some 138,some 139,some 140,some 115,some 141,some 142,some 13,none,some 14] [29,30] [27] [true,true,true,true,true,true,true,true,true,true,true,true,true,true,true,true,true,true,true,true,true,true,true,true,true,true,true,true,true,false,false] 2 (by kernel_rfl) ?_ ?_ ?_
 ·show ∀ i,i < 31→_
  iterate 31 refine fs ?_ ?_
  ·exact fz
  all_goals intro hl hs
  all_goals first | exact absurd hl (by decide) | exact absurd hs (by decide) | skip
  all_goals clear hl hs
  all_goals refine stp rfl ?_
  all_goals intro ac wi eI hB hA K hK
  have o3:=oOf (hB 3 (by kernel_rfl)) rfl
  rotate_left
  obtain⟨_,s116,rfl⟩:=hA 0 (by kernel_rfl) 116 rfl;have cc0:=eI.cell a2
  rotate_left
  have o7:=oOf (hB 7 (by kernel_rfl)) rfl
  rotate_left
  obtain⟨_,s117,rfl⟩:=hA 1 (by kernel_rfl) 117 rfl;obtain⟨_,s118,rfl⟩:=hA 2 (by kernel_rfl) 118 rfl
  rotate_left
  obtain⟨_,s119,rfl⟩:=hA 3 (by kernel_rfl) 119 rfl;clear hB hA;have cc0:=eI.cell p0;have cc1:=eI.cell p1;have cc2:=eI.cell p2;have cc3:=eI.cell p3
  ·go_simp;exact hK.out _ _ (Ext.refl _) (hRp.ext eI)
  have o3:=oOf (hB 3 (by kernel_rfl)) rfl
  rotate_left
  obtain⟨_,s121,rfl⟩:=hA 5 (by kernel_rfl) 121 rfl;have cc0:=eI.cell a1
  rotate_left
  have o7:=oOf (hB 7 (by kernel_rfl)) rfl
  rotate_left
  obtain⟨_,s122,rfl⟩:=hA 6 (by kernel_rfl) 122 rfl;obtain⟨_,s123,rfl⟩:=hA 7 (by kernel_rfl) 123 rfl
  rotate_left
  obtain⟨_,s124,rfl⟩:=hA 8 (by kernel_rfl) 124 rfl;clear hB hA;have cc0:=eI.cell s0;have cc1:=eI.cell s1;have cc2:=eI.cell s2;have cc3:=eI.cell s3
  ·go_simp;exact hK.out _ _ (Ext.refl _) (hRs.ext eI)
  obtain⟨x120,s120,j120⟩:=hA 4 (by kernel_rfl) 120 rfl;replace j120:Mn.p (Mn.rat N (p a)) x120 wi:=j120;obtain⟨x125,s125,j125⟩:=hA 9 (by kernel_rfl) 125 rfl;replace j125:Mn.p (Mn.rat N (y a)) x125 wi:=j125;clear hB hA
  ·go_simp;refine (l34_mul j120 j125 HSP.out.1 HSP.out.2.2.1).mono ?_;rintro e wj ⟨vj,rfl,hj,ej⟩;go_wp2_with fail;exact hK.out _ _ ej hj
  have o3:=oOf (hB 3 (by kernel_rfl)) rfl
  rotate_left
  obtain⟨_,s127,rfl⟩:=hA 11 (by kernel_rfl) 127 rfl;have cc0:=eI.cell a2
  rotate_left
  have o8:=oOf (hB 8 (by kernel_rfl)) rfl
  rotate_left
  obtain⟨_,s128,rfl⟩:=hA 12 (by kernel_rfl) 128 rfl;obtain⟨_,s129,rfl⟩:=hA 13 (by kernel_rfl) 129 rfl
  rotate_left
  obtain⟨_,s130,rfl⟩:=hA 14 (by kernel_rfl) 130 rfl;clear hB hA;have cc0:=eI.cell q0;have cc1:=eI.cell q1;have cc2:=eI.cell q2;have cc3:=eI.cell q3
  ·go_simp;exact hK.out _ _ (Ext.refl _) (hRq.ext eI)
  have o3:=oOf (hB 3 (by kernel_rfl)) rfl
  rotate_left
  obtain⟨_,s132,rfl⟩:=hA 16 (by kernel_rfl) 132 rfl;have cc0:=eI.cell a1
  rotate_left
  have o8:=oOf (hB 8 (by kernel_rfl)) rfl
  rotate_left
  obtain⟨_,s133,rfl⟩:=hA 17 (by kernel_rfl) 133 rfl;obtain⟨_,s134,rfl⟩:=hA 18 (by kernel_rfl) 134 rfl
  rotate_left
  obtain⟨_,s135,rfl⟩:=hA 19 (by kernel_rfl) 135 rfl;clear hB hA;have cc0:=eI.cell k0;have cc1:=eI.cell k1;have cc2:=eI.cell k2;have cc3:=eI.cell k3
  ·go_simp;exact hK.out _ _ (Ext.refl _) (hRk.ext eI)
  obtain⟨x131,s131,j131⟩:=hA 15 (by kernel_rfl) 131 rfl;replace j131:Mn.p (Mn.rat N (p b)) x131 wi:=j131;obtain⟨x136,s136,j136⟩:=hA 20 (by kernel_rfl) 136 rfl;replace j136:Mn.p (Mn.rat N (y b)) x136 wi:=j136;clear hB hA
  ·go_simp;refine (l34_mul j131 j136 HSP.out.2.1 HSP.out.2.2.2.1).mono ?_;rintro e wj ⟨vj,rfl,hj,ej⟩;go_wp2_with fail;exact hK.out _ _ ej hj
  obtain⟨x126,s126,j126⟩:=hA 10 (by kernel_rfl) 126 rfl;replace j126:Mn.p (Mn.rat N (p a*y a)) x126 wi:=j126;obtain⟨x137,s137,j137⟩:=hA 21 (by kernel_rfl) 137 rfl;replace j137:Mn.p (Mn.rat N (p b*y b)) x137 wi:=j137;clear hB hA
  ·go_simp;refine (l34_add j126 j137 HSP.out.2.2.2.2.2.1 HSP.out.2.2.2.2.2.2.1).mono ?_;rintro e wj ⟨vj,rfl,hj,ej⟩;go_wp2_with fail;exact hK.out _ _ ej hj
  have o12:=oOf (hB 12 (by kernel_rfl)) rfl;clear hB hA;have cc0:=eI.cell x0;have cc1:=eI.cell x1;have cc2:=eI.cell x2;have cc3:=eI.cell x3
  ·go_simp;exact hK.out _ _ (Ext.refl _) (hRx.ext eI)
  obtain⟨x138,s138,j138⟩:=hA 22 (by kernel_rfl) 138 rfl;replace j138:Mn.p (Mn.rat N (p a*y a+p b*y b)) x138 wi:=j138;obtain⟨x139,s139,j139⟩:=hA 23 (by kernel_rfl) 139 rfl;replace j139:Mn.p (Mn.rat N (PT)) x139 wi:=j139;clear hB hA
  ·go_simp;refine (r2_divide j138 j139 HSP.out.2.2.2.2.2.2.2 (by rw [hPT.out]; exact HSP.out.2.2.2.2.1) (by rw [hPT.out]; exact HPN.out)).mono ?_;rw [hPT.out,←hQT.out];rintro e wj ⟨vj,rfl,hj,ej⟩;go_wp2_with fail;exact hK.out _ _ ej ⟨vj,rfl,hj⟩
  obtain⟨x140,s140,j140⟩:=hA 24 (by kernel_rfl) 140 rfl;replace j140:Mn.p (Mn.rc N QT) x140 wi:=j140;clear hB hA
  ·go_simp;exact hK.out _ _ (Ext.refl _) j140
  obtain⟨x115,s115,j115⟩:=hA 25 (by kernel_rfl) 115 rfl;replace j115:Mn.p (Mn.rc N QT) x115 wi:=j115;clear hB hA
  ·obtain⟨vj,rfl,hj⟩:=j115;go_simp;exact hK.out _ _ (Ext.refl _) hj
  clear hB hA
  ·go_simp;refine boxes1 ?_;intro wj ej hszj BJ;exact hK.out _ _ ej ⟨_,rfl,eI.size,BJ⟩
  all_goals clear hB hA
  all_goals go_simp
  all_goals exact hK.out _ _ (Ext.refl _) rfl
 ·intro i hs;have hi':i=27:=by simpa using hs
  clear hs
  rcases hi' with rfl
  ·refine sft rfl (fun _ _ _ _ h=>h) ?_;intro ac wi eI hB hA;obtain⟨x115,s115,j115⟩:=hA 25 (by kernel_rfl) 115 rfl;replace j115:Mn.p (Mn.rc N QT) x115 wi:=j115;clear hB hA;obtain⟨vj,rfl,hj⟩:=j115;refine⟨(.int .i64 0),.inl ⟨rfl,fun w9 _=>?_⟩,rfl⟩;go_simp
 intro vals wz eZ hJ;have J120:Mn.p (Mn.rat N (p a)) (vals 4) wz:=hJ 4 (by decide) (by decide);have J125:Mn.p (Mn.rat N (y a)) (vals 9) wz:=hJ 9 (by decide) (by decide);have J126:Mn.p (Mn.rat N (p a*y a)) (vals 10) wz:=hJ 10 (by decide) (by decide);have J131:Mn.p (Mn.rat N (p b)) (vals 15) wz:=hJ 15 (by decide) (by decide);have J136:Mn.p (Mn.rat N (y b)) (vals 20) wz:=hJ 20 (by decide) (by decide);have J137:Mn.p (Mn.rat N (p b*y b)) (vals 21) wz:=hJ 21 (by decide) (by decide);have J138:Mn.p (Mn.rat N (p a*y a+p b*y b)) (vals 22) wz:=hJ 22 (by decide) (by decide);have J139:Mn.p (Mn.rat N (PT)) (vals 23) wz:=hJ 23 (by decide) (by decide);have J141:Mn.p (Mn.rat N QT) (vals 26) wz:=hJ 26 (by decide) (by decide);have J142:vals 27=_:=hJ 27 (by decide) (by decide);have J13:Mn.p (Mn.blk w8.heap.size (.cells #[.bool false,.slice none 0 0,.bool false,.slice none 0 0] 44 (0,0))) (vals 28) wz:=hJ 28 (by decide) (by decide);clear hJ;simp only [pr,Nat.reduceAdd,J142];clear J142
 generalize vals 4=z120 at J120 ⊢
 generalize vals 9=z125 at J125 ⊢
 generalize vals 10=z126 at J126 ⊢
 generalize vals 15=z131 at J131 ⊢
 generalize vals 20=z136 at J136 ⊢
 generalize vals 21=z137 at J137 ⊢
 generalize vals 22=z138 at J138 ⊢
 generalize vals 23=z139 at J139 ⊢
 generalize vals 26=z141 at J141 ⊢
 generalize vals 28=z13 at J13 ⊢
 obtain⟨gQ,rfl,hgQ,BG⟩:=J13;obtain⟨bz,Az,kz,cz,Az',kz',cz',rfl,hbz,gz1,gz2⟩:=RatV.parts J141;obtain⟨r0,r1,r2,r3,r4,r5,r6,r7⟩:=cells4 BG;refine stepL_late (i:=29) rfl (by kernel_rfl) (by kernel_rfl) (fun K hK=>?_);go_simp;refine hK.out _ _ ?_;clear hK K;try simp only [nr]
 refine stepL_late (i:=30) rfl (by kernel_rfl) (by kernel_rfl) (fun K hK=>?_);go_simp;refine hK.out _ _ ?_;clear hK K;try simp only [nr]
 refine stepL_done (by kernel_rfl) ?_ _;obtain⟨w9,E9,hBQ,K9,hs9⟩:=boxSet (q:=QT) BG (by omega) hbz gz1 gz2;rw [E9];have hgQ9:gQ < w9.heap.size:=by have:=blk_lt BG; omega
 have eW9:Ext w8 w9:=K9.ext eZ hgQ;replace hBW:=(hBW.ext eZ).chg K9 (by omega) (by omega);replace hE:=hE.trans eW9;replace B0:=eW9.block B0;replace B1:=eW9.block B1;replace B2:=eW9.block B2;replace hsz1:=blk_lt B2;clear a0 a1 a2 d0 d1 f0 f1;obtain⟨a0,a1,a2,-⟩:=cells3 B0;obtain⟨d0,d1,-⟩:=cells2 B1;obtain⟨f0,f1,-⟩:=cells2 B2;replace B9:=eW9.block B9;replace hF:=hF.trans eW9;clear r0 r1 r2 r3 r4 r5 r6 r7 BG E9 K9 J141 eZ hs9 hbz gz1 gz2 eW9 hRp hRq hRs hRk hRx p0 p1 p2 p3 q0 q1 q2 q3 s0 s1 s2 s3 k0 k1 k2 k3 x0 x1 x2 x3;clear J120 J125 J126 J131 J136 J137 J138 J139;go_wp2_with (go_at_call 42; refine Hid.out ?_);refine (l34_without (h1.ext hE) (h2.ext hE) (h3.ext hE) (by omega) (by omega) hn0 (by omega) rfl hb).mono ?_;rw [←hXc.out];rintro e w10 ⟨O1,oc1,O2,oc2,O3,oc3,rfl,i1,i2,i3,e10⟩;replace hE:=hE.trans e10;replace B0:=e10.block B0;replace B1:=e10.block B1;replace B2:=e10.block B2;replace hsz1:=blk_lt B2;clear a0 a1 a2 d0 d1 f0 f1;obtain⟨a0,a1,a2,-⟩:=cells3 B0;obtain⟨d0,d1,-⟩:=cells2 B1;obtain⟨f0,f1,-⟩:=cells2 B2;replace B9:=e10.block B9;replace hF:=hF.trans e10;replace hBW:=hBW.ext e10;replace hBQ:=hBQ.ext e10;clear e10;have hgo1:=hBW.lt;have hgo2:=hBQ.lt;have hgo3:=blk_lt B9;go_upto_region 17 with (fail);refine boxes1 ?_;intro w11 e11 hsz11 BO;replace hBW:=hBW.ext e11;replace hBQ:=hBQ.ext e11;replace i1:=i1.ext e11;replace i2:=LsV.all (i2.ext e11);replace i3:=LsV.all (i3.ext e11);obtain⟨gO,hgO⟩:∃ gO,gO=w10.heap.size:=⟨_,rfl⟩
 rw [←hgO] at BO hgo1 hgo2 hgo3 hsz11 ⊢;have hgO1:gO≤w10.heap.size:=by omega
 have hgO2:w10.heap.size≤gO:=by omega
 clear hgO;have hgOl:=blk_lt BO;obtain⟨o0,o1,o2,-⟩:=cells3 BO;go_upto_region 17 with (fail);have eC:=(Ext.refl w11).drew;refine region_late (fun w'=>w'.cell? ⟨gO,1,none⟩=some (.slice O2 (m - 1) oc2)∧w'.cell? ⟨gO,2,none⟩=some (.slice O3 (m - 1) oc3)) [7,9] (by kernel_rfl) (by exact⟨eC.cell o1,eC.cell o2⟩) (fun hHeld=>?_);refine sP 0 (h:=?_);try simp only [nr]
 refine sT 1 (h:=?_);try simp only [nr]
 refine sP 3 (h:=?_);try simp only [nr]
 refine sT 4 (h:=?_);try simp only [nr]
 refine stepL_only (i:=2) rfl (by kernel_rfl) (fun K hK=>?_);go_simp;refine (sl_clone (i3.ext eC) (by omega) (by omega)).mono ?_;rintro e w12 ⟨gP,cP,rfl,P1,P2,P3,hrP,e12⟩;replace eC:=eC.trans e12;go_wp2_with fail;clear hHeld;refine hK.out _ _ (by exact⟨eC.cell o1,eC.cell o2⟩) fun hHeld=>?_
 clear hK K;try simp only [nr]
 refine sP 6 (h:=?_);try simp only [nr]
 refine stepL_only (i:=5) rfl (by kernel_rfl) (fun K hK=>?_);go_simp;refine (sl_clone (i2.ext eC) (by omega) (by omega)).mono ?_;rintro e w13 ⟨gL,cL,rfl,L1,L2,L3,hrL,e13⟩;replace eC:=eC.trans e13;go_wp2_with fail;clear hHeld;refine hK.out _ _ (by exact⟨eC.cell o1,eC.cell o2⟩) fun hHeld=>?_
 clear hK K;try simp only [nr]
 refine stepL_late (i:=7) rfl (by kernel_rfl) (by kernel_rfl) (fun K hK=>?_);have BO2:=eC.block BO;obtain⟨u0,u1,u2,u3,u4,u5⟩:=cells3 BO2;go_simp;obtain⟨w14,E14,BO3,U14⟩:=set32 BO2 (.slice (some ⟨gP,0,none⟩) (m - 1) cP);rw [E14];have C14:=U14.chg (NoU.mk BO2 (by decide));clear u0 u1 u2 u3 u4 u5;refine hK.out _ _ ?_;clear hK K;try simp only [nr]
 refine sP 8 (h:=?_);try simp only [nr]
 refine stepL_late (i:=9) rfl (by kernel_rfl) (by kernel_rfl) (fun K hK=>?_);obtain⟨u0,u1,u2,u3,u4,u5⟩:=cells3 BO3;go_simp;obtain⟨w15,E15,BO4,U15⟩:=set31 BO3 (.slice (some ⟨gL,0,none⟩) (m - 1) cL);rw [E15];have C15:=U15.chg (NoU.mk BO3 (by decide));clear u0 u1 u2 u3 u4 u5;refine hK.out _ _ ?_;clear hK K;try simp only [nr]
 refine stepL_done (by kernel_rfl) ?_ _;clear hHeld;have hs12:=e12.size;have hdr:w11.drew.heap.size=w11.heap.size:=rfl;have hs13:=e13.size;have hsC:=eC.size;have C17:=(eC.chg gO (gO+1)).trans (C14.trans C15);have hgP:=hrP.lt;have hgL:=hrL.lt;have hgPL:gP < gL:=by omega
 have hgOP:gO < gP:=by omega
 replace hrP:=((hrP.ext e13).chg C14 (by omega) (by omega)).chg C15 (by omega) (by omega);replace hrL:=(hrL.chg C14 (by omega) (by omega)).chg C15 (by omega) (by omega);replace hBW:=hBW.chg C17 (by omega) (by omega);replace hBQ:=hBQ.chg C17 (by omega) (by omega);replace i1:=i1.chg C17 (by omega) (.inl (by omega));have eW17:Ext w10 w15:=C17.ext e11 (by omega);clear C14 C15 C17 E14 E15 BO2 BO3 e12 e13 eC BO o0 o1 o2 i2 i3 e11;obtain⟨o0,o1,o2,-⟩:=cells3 BO4;have hBW5:=hBW;have hBQ5:=hBQ;obtain⟨nx,Ax,kx,cx,A'x,k'x,c'x,Bx,hbx,yx,zx⟩:=hBW5;obtain⟨x0,x1,x2,x3,-⟩:=cells4 Bx;have hRx:RatV N w15 (.agg #[.bool nx,.slice Ax kx cx,.bool false,.slice A'x k'x c'x]) (PT):=RatV.mk hbx yx zx;obtain⟨ns,As,ks,cs,A's,k's,c's,Bs,hbs,ys,zs⟩:=hBQ5;obtain⟨s0,s1,s2,s3,-⟩:=cells4 Bs;have hRs:RatV N w15 (.agg #[.bool ns,.slice As ks cs,.bool false,.slice A's k's c's]) (QT):=RatV.mk hbs ys zs;clear Bx Bs hRx hRs;go_upto_region 18 with (fail);have eC:=(Ext.refl w15).drew;refine region_late (fun w'=>w'.cell? ⟨gO,1,none⟩=some (.slice (some ⟨gL,0,none⟩) (m - 1) cL)∧w'.cell? ⟨gO,2,none⟩=some (.slice (some ⟨gP,0,none⟩) (m - 1) cP)∧w'.cell? ⟨gW,0,none⟩=some (.bool nx)∧w'.cell? ⟨gW,1,none⟩=some (.slice Ax kx cx)∧w'.cell? ⟨gW,2,none⟩=some (.bool false)∧w'.cell? ⟨gW,3,none⟩=some (.slice A'x k'x c'x)∧w'.cell? ⟨gQ,0,none⟩=some (.bool ns)∧w'.cell? ⟨gQ,1,none⟩=some (.slice As ks cs)∧w'.cell? ⟨gQ,2,none⟩=some (.bool false)∧w'.cell? ⟨gQ,3,none⟩=some (.slice A's k's c's)) [] (by kernel_rfl) (by exact⟨eC.cell o1,eC.cell o2,eC.cell x0,eC.cell x1,eC.cell x2,eC.cell x3,eC.cell s0,eC.cell s1,eC.cell s2,eC.cell s3⟩) (fun hHeld=>?_)
 refine sP 0 (h:=?_);try simp only [nr]
 refine sT 1 (h:=?_);try simp only [nr]
 refine sP 2 (h:=?_);try simp only [nr]
 refine sP 3 (h:=?_);try simp only [nr]
 refine sT 4 (h:=?_);try simp only [nr]
 refine sP 5 (h:=?_);try simp only [nr]
 refine sT 6 (h:=?_);try simp only [nr]
 refine sT 7 (h:=?_);try simp only [nr]
 refine sP 8 (h:=?_);try simp only [nr]
 refine stepL_only (i:=9) rfl (by kernel_rfl) (fun K hK=>?_);obtain⟨zb,zA,zn,zc,zA2,zn2,zc2,u0,u1,u2,u3,u4,u5,u6,u7,-⟩:=hrP.at_ (i:=a) (by omega);go_simp;obtain⟨w16,E16,C16,hs16,hr16⟩:=hrP.set (i:=a) (q:=PT) (by omega) (by omega) hbx yx zx;rw [E16];have eW18:=C16.ext eW17 (by omega);have hrL6:=hrL.chg C16 (by omega) (by omega);have i16:=i1.chg C16 (by omega) (.inl (by omega));have ys6:=ys.chg C16 (by omega);have zs6:=zs.chg C16 (by omega);have BO5:=C16.blk BO4 (by omega);replace o1:=C16.cell o1 (.inl (by show gO < gP; omega));replace o2:=C16.cell o2 (.inl (by show gO < gP; omega));replace x0:=C16.cell x0 (.inl (by show gW < gP; omega));replace x1:=C16.cell x1 (.inl (by show gW < gP; omega));replace x2:=C16.cell x2 (.inl (by show gW < gP; omega));replace x3:=C16.cell x3 (.inl (by show gW < gP; omega));replace s0:=C16.cell s0 (.inl (by show gQ < gP; omega));replace s1:=C16.cell s1 (.inl (by show gQ < gP; omega));replace s2:=C16.cell s2 (.inl (by show gQ < gP; omega));replace s3:=C16.cell s3 (.inl (by show gQ < gP; omega));replace eC:=(Ext.refl w16).drew;clear u0 u1 u2 u3 u4 u5 u6 u7;clear hHeld;refine hK.out _ _ (by exact⟨eC.cell o1,eC.cell o2,eC.cell x0,eC.cell x1,eC.cell x2,eC.cell x3,eC.cell s0,eC.cell s1,eC.cell s2,eC.cell s3⟩) fun hHeld=>?_
 clear hK K;try simp only [nr]
 refine sP 10 (h:=?_);try simp only [nr]
 refine stepL_only (i:=11) rfl (by kernel_rfl) (fun K hK=>?_);obtain⟨zb,zA,zn,zc,zA2,zn2,zc2,u0,u1,u2,u3,u4,u5,u6,u7,-⟩:=hrL6.at_ (i:=a) (by omega);go_simp;obtain⟨w17,E17,C17,hs17,hr17⟩:=hrL6.set (i:=a) (q:=QT) (by omega) (by omega) hbs ys6 zs6;rw [E17];have eW19:=C17.ext eW18 (by omega);have hr17P:=hr16.chg C17 (by omega) (by omega);have i17:=i16.chg C17 (by omega) (.inl (by omega));have BO6:=C17.blk BO5 (by omega);replace o1:=C17.cell o1 (.inl (by show gO < gL; omega));replace o2:=C17.cell o2 (.inl (by show gO < gL; omega));replace x0:=C17.cell x0 (.inl (by show gW < gL; omega));replace x1:=C17.cell x1 (.inl (by show gW < gL; omega));replace x2:=C17.cell x2 (.inl (by show gW < gL; omega));replace x3:=C17.cell x3 (.inl (by show gW < gL; omega));replace s0:=C17.cell s0 (.inl (by show gQ < gL; omega));replace s1:=C17.cell s1 (.inl (by show gQ < gL; omega));replace s2:=C17.cell s2 (.inl (by show gQ < gL; omega));replace s3:=C17.cell s3 (.inl (by show gQ < gL; omega));replace eC:=(Ext.refl w17).drew;clear u0 u1 u2 u3 u4 u5 u6 u7;clear hHeld;refine hK.out _ _ (by exact⟨eC.cell o1,eC.cell o2,eC.cell x0,eC.cell x1,eC.cell x2,eC.cell x3,eC.cell s0,eC.cell s1,eC.cell s2,eC.cell s3⟩) fun hHeld=>?_
 clear hK K;try simp only [nr]
 refine stepL_done (by kernel_rfl) ?_ _;clear hHeld;have hrP2:RowB N w17 gP cP (m - 1) pc:=(hr17P.less (n':=m - 1) (by omega)).congr (fun j _=>by rw [hpc.out,hPT.out]; rfl);have hrL2:RowB N w17 gL cL (m - 1) yc:=(hr17.less (n':=m - 1) (by omega)).congr (fun j _=>by rw [hyc.out,hQT.out]; rfl);have eD:=(Ext.refl w17).drew;obtain⟨wd,hwd⟩:∃ wd,wd=w17.drew:=⟨_,rfl⟩
 rw [←hwd] at eD ⊢;clear hwd;replace eW19:=eW19.trans eD;have j1:=MtV.all (i17.ext eD);have j2:LsV N 0 wd.heap.size wd (.slice (some ⟨gL,0,none⟩) (m - 1) cL) (m - 1) yc:=(hrL2.ext eD).lsv L3 L2 (Nat.zero_le _) (hrL2.ext eD).lt (Nat.le_refl _);have j3:LsV N 0 wd.heap.size wd (.slice (some ⟨gP,0,none⟩) (m - 1) cP) (m - 1) pc:=(hrP2.ext eD).lsv P3 P2 (Nat.zero_le _) (hrP2.ext eD).lt (Nat.le_refl _);replace BO6:=eD.block BO6;clear eD;replace hE:=hE.trans eW19;replace B0:=eW19.block B0;replace B1:=eW19.block B1;replace B2:=eW19.block B2;replace hsz1:=blk_lt B2;clear a0 a1 a2 d0 d1 f0 f1;obtain⟨a0,a1,a2,-⟩:=cells3 B0;obtain⟨d0,d1,-⟩:=cells2 B1;obtain⟨f0,f1,-⟩:=cells2 B2;replace B9:=eW19.block B9;replace hF:=hF.trans eW19;clear eW17 eW18 eW19 hBW hBQ hr16 hr17 hr17P hrP2 hrL2 hrP hrL hrL6 i1 i16 i17 x0 x1 x2 x3 s0 s1 s2 s3 hbx hbs yx zx ys zs ys6 zs6 BO4 BO5 o0 o1 o2 eC C16 C17 E16 E17;obtain⟨o0,o1,o2,-⟩:=cells3 BO6;obtain⟨y0,y1,y2,-⟩:=cells3 B9;go_wp2_with (go_at_call 41; refine Hid.out ?_);refine (l34_same (MtV.all (g1.ext hF)) (LsV.all (g2.ext hF)) (LsV.all (g3.ext hF)) j1 j2 j3 (fun _ _ _ _=>rfl) (fun _ _=>rfl) (fun _ _=>rfl) (fun i hi j hj=>(HX1.out i hi j hj).sz (by omega)) (fun i hi=>(HY1.out i hi).sz (by omega)) (fun i hi=>(HP1.out i hi).sz (by omega))).mono ?_;rintro e w18 ⟨rfl,e18⟩;replace hE:=hE.trans e18;replace B0:=e18.block B0;replace B1:=e18.block B1;replace B2:=e18.block B2;replace hsz1:=blk_lt B2
 clear a0 a1 a2 d0 d1 f0 f1;obtain⟨a0,a1,a2,-⟩:=cells3 B0;obtain⟨d0,d1,-⟩:=cells2 B1;obtain⟨f0,f1,-⟩:=cells2 B2;replace B9:=e18.block B9;replace hF:=hF.trans e18;clear j1 j2 j3 BO6 o0 o1 o2 y0 y1 y2 e18;go_wp2_with (go_at_call 15; refine Hid.out ?_);refine (l34_normal (h1.ext hE) (h2.ext hE) (h3.ext hE) hm0 (by omega) hn0 (by omega) HX.out HY.out HP.out (by omega)).mono ?_;rintro e w19 ⟨A6,c6,A7,c7,rfl,h6,h7,e19⟩;replace hE:=hE.trans e19;replace B0:=e19.block B0;replace B1:=e19.block B1;replace B2:=e19.block B2;replace hsz1:=blk_lt B2;clear a0 a1 a2 d0 d1 f0 f1;obtain⟨a0,a1,a2,-⟩:=cells3 B0;obtain⟨d0,d1,-⟩:=cells2 B1;obtain⟨f0,f1,-⟩:=cells2 B2;replace B9:=e19.block B9;replace hF:=hF.trans e19;clear e19;obtain⟨y0,y1,y2,-⟩:=cells3 B9;go_wp2_with (go_at_call 15; refine Hid.out ?_);refine (l34_normal (MtV.all (g1.ext hF)) (LsV.all (g2.ext hF)) (LsV.all (g3.ext hF)) (by omega) (by omega) hn0 (by omega) HX1.out HY1.out HP1.out HM1.out).mono ?_;rintro e w20 ⟨A8,c8,A9,c9,rfl,h8,h9,e20⟩;replace h6:=h6.ext e20;replace h7:=h7.ext e20;replace hE:=hE.trans e20;replace B0:=e20.block B0;replace B1:=e20.block B1;replace B2:=e20.block B2;replace hsz1:=blk_lt B2;clear a0 a1 a2 d0 d1 f0 f1;obtain⟨a0,a1,a2,-⟩:=cells3 B0;obtain⟨d0,d1,-⟩:=cells2 B1;obtain⟨f0,f1,-⟩:=cells2 B2;replace B9:=e20.block B9;replace hF:=hF.trans e20;clear e20 y0 y1 y2;go_wp2_with (go_at_call 24; refine Hid.out ?_);refine (r2_sameMatrix h6 h8 HSZN.out HNM.out).mono ?_
 rintro e w21 ⟨rfl,e21⟩;replace h7:=h7.ext e21;replace h9:=h9.ext e21;replace hE:=hE.trans e21;replace B0:=e21.block B0;replace B1:=e21.block B1;replace B2:=e21.block B2;replace hsz1:=blk_lt B2;clear a0 a1 a2 d0 d1 f0 f1;obtain⟨a0,a1,a2,-⟩:=cells3 B0;obtain⟨d0,d1,-⟩:=cells2 B1;obtain⟨f0,f1,-⟩:=cells2 B2;replace B9:=e21.block B9;replace hF:=hF.trans e21;clear e21 h6 h8;go_wp2_with (go_at_call 25; refine Hid.out ?_);refine (r2_sameList h7 h9 HSZR.out HNB.out).mono ?_;rintro e w22 ⟨rfl,e22⟩;replace hE:=hE.trans e22;replace B0:=e22.block B0;replace B1:=e22.block B1;replace B2:=e22.block B2;replace hsz1:=blk_lt B2;clear a0 a1 a2 d0 d1 f0 f1;obtain⟨a0,a1,a2,-⟩:=cells3 B0;obtain⟨d0,d1,-⟩:=cells2 B1;obtain⟨f0,f1,-⟩:=cells2 B2;replace B9:=e22.block B9;replace hF:=hF.trans e22;clear e22 h7 h9;go_wp2
 go_loopw [193] (fun i wr=>∃ k:Nat,k≤2∧i=.int .i64 (k:Int)∧Ext w22 wr∧Hid ((0 < k→n0=n∧v0=true)∧(1 < k→n1=n∧v1=true))) (fun i _=>2 - (intOf i).toNat)
 case atStart=>exact⟨0,by omega,rfl,Ext.refl _,⟨fun h=>absurd h (by omega),fun h=>absurd h (by omega)⟩⟩
 case round =>
  obtain⟨k,hk,rfl,eW,HG⟩:=hrel;replace hE:=hE.trans eW;replace B0:=eW.block B0;replace B1:=eW.block B1;replace B2:=eW.block B2;replace hsz1:=blk_lt B2;clear a0 a1 a2 d0 d1 f0 f1;obtain⟨a0,a1,a2,-⟩:=cells3 B0;obtain⟨d0,d1,-⟩:=cells2 B1;obtain⟨f0,f1,-⟩:=cells2 B2;replace B9:=eW.block B9;replace hF:=hF.trans eW;have hk3:k=0∨k=1∨k=2:=by omega
  clear hk;have i0:=ixT0;have i1:=ixT1
  rcases hk3 with rfl | rfl | rfl
  ·by_cases hnx:n0=n
   case neg =>
    have t1:((n0:Int) != (n:Int))=true:=by rw [bne_iff_ne]; omega
    clear hnx;go_wp2;go_ret;exact⟨rfl,hE⟩
   have t1:((n0:Int) != (n:Int))=false:=by rw [hnx]; simp
   have HNX:=Lib.hid hnx;clear hnx;go_wp2_with (go_at_call 17; refine Hid.out ?_);refine (r2_validList (hX0.ext hE) HBR0.out).mono ?_;rintro e wv ⟨rfl,ev⟩;rw [←hv0.out]
   by_cases hv:v0=true
   ·have HV:=Lib.hid hv;rw [hv];clear hv t1;go_wp2;go_roundw
    case rel=>exact⟨1,by omega,by go_num,eW.trans ev,⟨fun _=>⟨HNX.out,HV.out⟩,fun h=>absurd h (by omega)⟩⟩
    case measure=>simp [intOf]
   ·have hv':v0=false:=by simpa using hv
    rw [hv'];clear hv hv' t1;go_wp2;go_ret;exact⟨rfl,hE.trans ev⟩
  ·by_cases hnx:n1=n
   case neg =>
    have t1:((n1:Int) != (n:Int))=true:=by rw [bne_iff_ne]; omega
    clear hnx;go_wp2;go_ret;exact⟨rfl,hE⟩
   have t1:((n1:Int) != (n:Int))=false:=by rw [hnx]; simp
   have HNX:=Lib.hid hnx;clear hnx;go_wp2_with (go_at_call 17; refine Hid.out ?_);refine (r2_validList (hX1.ext hE) HBR1.out).mono ?_;rintro e wv ⟨rfl,ev⟩;rw [←hv1.out]
   by_cases hv:v1=true
   ·have HV:=Lib.hid hv;rw [hv];clear hv t1;go_wp2;go_roundw
    case rel=>exact⟨2,by omega,by go_num,eW.trans ev,⟨fun _=>HG.out.1 (by omega),fun _=>⟨HNX.out,HV.out⟩⟩⟩
    case measure=>simp [intOf]
   ·have hv':v1=false:=by simpa using hv
    rw [hv'];clear hv hv' t1;go_wp2;go_ret;exact⟨rfl,hE.trans ev⟩
  ·obtain⟨e1,e2⟩:=HG.out.1 (by omega);obtain⟨e3,e4⟩:=HG.out.2 (by omega);obtain⟨x0,hx0,hh0⟩:=HLS0.out e1 e2;obtain⟨x1,hx1,hh1⟩:=HLS1.out e3 e4;clear e1 e2 e3 e4;have HOE:=HOB.out x0 x1;obtain⟨z10,q10⟩:=obj_ht8 hm hn (by omega) (Nat.le_refl _) HX.out HY.out HP.out hh0;obtain⟨z11,q11⟩:=obj_ht8 hm hn (by omega) (Nat.le_refl _) HX.out HY.out HP.out hh1;obtain⟨z20,q20⟩:=obj_ht8 (m:=m - 1) (by omega) hn (Nat.le_refl _) (Nat.le_refl _) HX1.out HY1.out HP1.out hh0;obtain⟨z21,q21⟩:=obj_ht8 (m:=m - 1) (by omega) hn (Nat.le_refl _) (Nat.le_refl _) HX1.out HY1.out HP1.out hh1;clear i0 i1;go_upto_region 32 with (fail);refine regI [Mn.eq (.func (.func 50) #[] #[.pointer (some ⟨w.heap.size,0,none⟩),.pointer (some ⟨g9,0,none⟩)]),Mn.eq (.pointer (some ⟨w.heap.size+1+1,0,none⟩)),Mn.eq (.slice A4 n0 c4),Mn.rat N (obj m p (fun i=>av n X x0 i - y i) - obj (m - 1) pc (fun i=>av n Xc x0 i - yc i)),Mn.eq (.func (.func 50) #[] #[.pointer (some ⟨w.heap.size,0,none⟩),.pointer (some ⟨g9,0,none⟩)]),Mn.eq (.pointer (some ⟨w.heap.size+1+1,1,none⟩)),Mn.eq (.slice A5 n1 c5),Mn.rat N (obj m p (fun i=>av n X x1 i - y i) - obj (m - 1) pc (fun i=>av n Xc x1 i - yc i)),Mn.eq (.bool true),Mn.eq (.bool true)] [some 208,some 209,some 210,some 211,some 212,some 213,some 214,some 215,some 216,some 6] [] [true,true,true,true,true,true,true,true,true,true] 0 (by kernel_rfl) ?_ ?_
   ·show ∀ i,i < 10→_
    iterate 10 refine fs ?_ ?_
    ·exact fz
    all_goals intro hl
    all_goals clear hl
    all_goals refine stp rfl ?_
    all_goals intro ac wi eI hB hA K hK
    have o22:=oOf (hB 22 (by kernel_rfl)) rfl
    rotate_left
    have o5:=oOf (hB 5 (by kernel_rfl)) rfl
    rotate_left
    obtain⟨_,s209,rfl⟩:=hA 1 (by kernel_rfl) 209 rfl;have cc0:=eI.cell f0
    rotate_left
    obtain⟨_,s208,rfl⟩:=hA 0 (by kernel_rfl) 208 rfl;obtain⟨_,s210,rfl⟩:=hA 2 (by kernel_rfl) 210 rfl;clear hB hA
    ·go_simp;refine (l34_less (by have:=hE.size; have:=eI.size; omega) (eI.block B0) (eI.block B9) (fun w1 e1=>l34_objective (h1.ext ((hE.trans eI).trans e1)) (h2.ext ((hE.trans eI).trans e1)) (h3.ext ((hE.trans eI).trans e1)) (hx0.ext ((hE.trans eI).trans e1)) hm0 (by omega) hn0 (by omega) HX.out HY.out HP.out hh0 rfl q10) (fun w1 e1=>l34_objective (MtV.all (g1.ext ((hF.trans eI).trans e1))) (LsV.all (g2.ext ((hF.trans eI).trans e1))) (LsV.all (g3.ext ((hF.trans eI).trans e1))) (hx0.ext ((hE.trans eI).trans e1)) (by omega) (by omega) hn0 (by omega) HX1.out HY1.out HP1.out hh0 rfl q20) (z10.sz (by omega)) (z20.sz (by omega))).mono ?_;rintro e wj ⟨vj,rfl,hj,ej⟩;go_wp2_with fail;exact hK.out _ _ ej hj
    have o22:=oOf (hB 22 (by kernel_rfl)) rfl
    rotate_left
    have o5:=oOf (hB 5 (by kernel_rfl)) rfl
    rotate_left
    obtain⟨_,s213,rfl⟩:=hA 5 (by kernel_rfl) 213 rfl;have cc0:=eI.cell f1
    rotate_left
    obtain⟨_,s212,rfl⟩:=hA 4 (by kernel_rfl) 212 rfl;obtain⟨_,s214,rfl⟩:=hA 6 (by kernel_rfl) 214 rfl;clear hB hA
    ·go_simp;refine (l34_less (by have:=hE.size; have:=eI.size; omega) (eI.block B0) (eI.block B9) (fun w1 e1=>l34_objective (h1.ext ((hE.trans eI).trans e1)) (h2.ext ((hE.trans eI).trans e1)) (h3.ext ((hE.trans eI).trans e1)) (hx1.ext ((hE.trans eI).trans e1)) hm0 (by omega) hn0 (by omega) HX.out HY.out HP.out hh1 rfl q11) (fun w1 e1=>l34_objective (MtV.all (g1.ext ((hF.trans eI).trans e1))) (LsV.all (g2.ext ((hF.trans eI).trans e1))) (LsV.all (g3.ext ((hF.trans eI).trans e1))) (hx1.ext ((hE.trans eI).trans e1)) (by omega) (by omega) hn0 (by omega) HX1.out HY1.out HP1.out hh1 rfl q21) (z11.sz (by omega)) (z21.sz (by omega))).mono ?_;rintro e wj ⟨vj,rfl,hj,ej⟩;go_wp2_with fail;exact hK.out _ _ ej hj
    obtain⟨x211,s211,j211⟩:=hA 3 (by kernel_rfl) 211 rfl;replace j211:Mn.p (Mn.rat N (obj m p (fun i=>av n X x0 i - y i) - obj (m - 1) pc (fun i=>av n Xc x0 i - yc i))) x211 wi:=j211;obtain⟨x215,s215,j215⟩:=hA 7 (by kernel_rfl) 215 rfl;replace j215:Mn.p (Mn.rat N (obj m p (fun i=>av n X x1 i - y i) - obj (m - 1) pc (fun i=>av n Xc x1 i - yc i))) x215 wi:=j215;clear hB hA
    ·go_simp;refine (r2_same j211 j215 ((z10.sub z20).sz (by omega)) HOE).mono ?_;rintro e wj ⟨rfl,ej⟩;go_wp2_with fail;exact hK.out _ _ ej rfl
    obtain⟨_,s216,rfl⟩:=hA 8 (by kernel_rfl) 216 rfl
    rotate_left
    all_goals clear hB hA
    all_goals go_simp
    all_goals exact hK.out _ _ (Ext.refl _) rfl
   intro vals wz eZ hJ;have J6:vals 9=_:=hJ 9 (by decide) (by decide);clear hJ;simp only [pr,Nat.reduceAdd,J6];clear J6;refine stepL_done (by kernel_rfl) ?_ _;go_wp2;go_ret;exact⟨rfl,hE.trans eZ⟩
end Go.Proofs.YtccepmpebioeiaaGreat
namespace Go.Proofs.YtccepmpebioeiaaGreat
open Go.RowKit Go.ChangeShapes Go.ChangeAt
theorem cells_lin:Tryz.prog.cellsOf 26=3:=by kernel_rfl
section
variable {H:Type} {enc:TypeId×Value→H} {w:World} {spare:Nat→Bool} {held:Bool}
instance:Inhabited Raw:=⟨⟨false,[],false,[]⟩⟩
end
end Go.Proofs.YtccepmpebioeiaaGreat
