import Derived.Test.YtphpkhoeplcedaaGreatWod01
set_option linter.all false
set_option maxHeartbeats 8000000
namespace Go.Proofs.YtphpkhoeplcedaaGreat
open Go.RowKit
def Mn.izB (lo n:Nat) (z:Nat→Int):Mn:=⟨fun v w=>∃ g cap,v=.slice (some ⟨g,0,none⟩) n cap∧lo≤g∧IzB w g cap n z,fun e h=>by
 obtain⟨g,cap,h0,h1,h2⟩:=h
 exact⟨g,cap,h0,h1,h2.ext e⟩⟩
theorem w64 {n:Int} (h : -9223372036854775808≤n) (h':n≤9223372036854775807):IntKind.i64.wrap n=n:=by
 rw [IntKind.wrap_i64];omega
theorem mul_rng {x s:Int} (h : -128≤x∧x≤127) (h':2≤s∧s≤65536) : -8388608≤x*s∧x*s≤8388608:=by
 have h1:x*s≤128*s:=Int.mul_le_mul_of_nonneg_right (by omega) (by omega);have h2:(-128)*s≤x*s:=Int.mul_le_mul_of_nonneg_right (by omega) (by omega);omega
set_option maxRecDepth 100000 in
theorem l49_shifts {N lo hi:Nat} {w:World} {vg:Value} {ca cb:Array Value} {G:Grd} {Ra Rb:Nat→Raw} {x y z:Int} (h:GrdV N lo hi w vg G) (ha:PtA N w ca Ra) (hb:PtA N w cb Rb) (hx : -128≤x∧x≤127) (hy : -128≤y∧y≤127) (hz : -128≤z∧z≤127) (hN:N≤w.heap.size) :
  Calls Tryz.prog 6 #[vg,.agg (ca ++ cb),.agg #[.int .i8 x,.int .i8 y,.int .i8 z]] w (RetV w (.bool true)):=by
 obtain⟨A,c,rfl,hnc,hcm,hiz⟩:=h.parts;have HG:=Lib.hid h;have HIZ:=Lib.hid hiz;have HA:=Lib.hid ha;have HB:=Lib.hid hb;have ZA:=Lib.hid ha.size;have ZB:=Lib.hid hb.size;have OA:=Lib.hid ha.one;have OB:=Lib.hid hb.one;clear h ha hb hiz hnc hcm;go_enter Tryz.func6,Tryz.ntmps6;go_upto_region 1 with (fail);refine boxes3 ?_;intro W hE hsz B0 B1 B2;go_wp2_with (go_at_call 10; refine Hid.out ?_);refine (l49_known).mono ?_;rintro e w1 ⟨rfl,e1⟩;replace hE:=hE.trans e1;replace B0:=e1.block B0;replace B1:=e1.block B1;replace B2:=e1.block B2;have hs1:=e1.size;have hN1:N≤w1.heap.size:=by have:=hE.size; omega
 clear e1;go_upto_region 3 with (fail);obtain⟨a0,a1,a2,a3,a4,a5⟩:=cells_g B0;have HB1:=Lib.hid B1;clear B1;obtain⟨fw,hfw⟩:=hid_eq (few49 G 6 (r6 Ra Rb));cases fw with
 | false =>
  refine regI [Mn.eq (.agg #[.int .i64 G.x0,.int .i64 G.y0,.int .i64 G.st,.int .i64 G.wd,.int .i64 G.ht,.slice A G.n c]),Mn.eq (.pointer (some ⟨w.heap.size+1,0,none⟩)),Mn.eq (.agg ca),Mn.eq (.pointer (some ⟨w.heap.size+1,12,none⟩)),Mn.eq (.agg cb),Mn.gc w1.heap.size 6 (ca ++ cb).toList,Mn.eq (.bool false),Mn.eq (.bool true),Mn.eq (.bool true),Mn.eq undef,Mn.eq undef,Mn.eq undef,Mn.eq undef,Mn.eq undef,Mn.eq undef,Mn.eq undef,Mn.eq undef,Mn.eq (.bool true)] [some 26,some 27,some 28,some 29,some 30,some 31,some 32,some 33,some 34,some 35,some 36,some 37,some 38,some 39,some 40,some 41,some 42,some 43] [] [true,true,true,true,true,true,true,true,true,true,true,true,true,true,true,true,true,true] 0 (by kernel_rfl) ?_ ?_
  ·show ∀ i,i < 18→_
   iterate 18 refine fs ?_ ?_
   ·exact fz
   all_goals intro hl
   all_goals clear hl
   all_goals refine stp rfl ?_
   all_goals intro ac wi eI hB hA K hK
   have o3:=oOf (hB 3 (by kernel_rfl)) rfl;have cc0:=eI.cell a0;have cc1:=eI.cell a1;have cc2:=eI.cell a2;have cc3:=eI.cell a3;have cc4:=eI.cell a4;have cc5:=eI.cell a5
   rotate_left
   have o4:=oOf (hB 4 (by kernel_rfl)) rfl
   rotate_left
   obtain⟨_,s27,rfl⟩:=hA 1 (by kernel_rfl) 27 rfl;clear hB hA;have cc0:=eI.cell a0;have cc1:=eI.cell a1;have cc2:=eI.cell a2;have cc3:=eI.cell a3;have cc4:=eI.cell a4;have cc5:=eI.cell a5
   ·refine wp_load_part 43 _ rfl _ 0 (by simp [Act.eval,s27]) ca (part_l (eI.block HB1.out)) _ Tryz.underlying43 rfl (by rw [ZA.out]; exact info_pt) ?_;exact hK.out _ _ (Ext.refl _) rfl
   have o4:=oOf (hB 4 (by kernel_rfl)) rfl
   rotate_left
   obtain⟨_,s29,rfl⟩:=hA 3 (by kernel_rfl) 29 rfl;clear hB hA;have cc0:=eI.cell a0;have cc1:=eI.cell a1;have cc2:=eI.cell a2;have cc3:=eI.cell a3;have cc4:=eI.cell a4;have cc5:=eI.cell a5
   ·refine wp_load_part 43 _ rfl _ 12 (by simp [Act.eval,s29]) cb (part_r (eI.block HB1.out) ZA.out) _ Tryz.underlying43 rfl (by rw [ZB.out]; exact info_pt) ?_;exact hK.out _ _ (Ext.refl _) rfl
   obtain⟨_,s28,rfl⟩:=hA 2 (by kernel_rfl) 28 rfl;obtain⟨_,s30,rfl⟩:=hA 4 (by kernel_rfl) 30 rfl;clear hB hA
   ·go_simp;refine (l49_both ZA.out OA.out ZB.out OB.out).mono ?_;rintro e wj ⟨gj,cj,rfl,hj,ej⟩;go_wp2_with fail;exact hK.out _ _ ej ⟨gj,cj,rfl,by rw [Array.toList_append]; exact hj.mono eI.size⟩
   obtain⟨_,s26,rfl⟩:=hA 0 (by kernel_rfl) 26 rfl;obtain⟨x31,s31,j31⟩:=hA 5 (by kernel_rfl) 31 rfl;replace j31:Mn.p (Mn.gc w1.heap.size 6 (ca ++ cb).toList) x31 wi:=j31;clear hB hA
   ·go_simp;refine (l49_few (HG.out.ext (hE.trans eI)) (gc_ls j31 hN1 (ar6 (HA.out.ext (hE.trans eI)) (HB.out.ext (hE.trans eI))))).mono ?_;rw [←hfw.out];rintro e wj ⟨rfl,ej⟩;go_wp2_with fail;exact hK.out _ _ ej rfl
   obtain⟨_,s32,rfl⟩:=hA 6 (by kernel_rfl) 32 rfl
   rotate_left
   obtain⟨_,s33,rfl⟩:=hA 7 (by kernel_rfl) 33 rfl
   rotate_left
   obtain⟨_,s34,rfl⟩:=hA 8 (by kernel_rfl) 34 rfl;clear hB hA;rw [if_neg (by simp [Region.wanted,yielded,s34,undef])];exact hK.out _ _ (Ext.refl _) rfl;obtain⟨_,s34,rfl⟩:=hA 8 (by kernel_rfl) 34 rfl;clear hB hA;rw [if_neg (by simp [Region.wanted,yielded,s34,undef])];exact hK.out _ _ (Ext.refl _) rfl;obtain⟨_,s34,rfl⟩:=hA 8 (by kernel_rfl) 34 rfl;clear hB hA;rw [if_neg (by simp [Region.wanted,yielded,s34,undef])];exact hK.out _ _ (Ext.refl _) rfl;obtain⟨_,s34,rfl⟩:=hA 8 (by kernel_rfl) 34 rfl;clear hB hA;rw [if_neg (by simp [Region.wanted,yielded,s34,undef])];exact hK.out _ _ (Ext.refl _) rfl;obtain⟨_,s34,rfl⟩:=hA 8 (by kernel_rfl) 34 rfl;clear hB hA;rw [if_neg (by simp [Region.wanted,yielded,s34,undef])];exact hK.out _ _ (Ext.refl _) rfl;obtain⟨_,s34,rfl⟩:=hA 8 (by kernel_rfl) 34 rfl;clear hB hA;rw [if_neg (by simp [Region.wanted,yielded,s34,undef])];exact hK.out _ _ (Ext.refl _) rfl;obtain⟨_,s34,rfl⟩:=hA 8 (by kernel_rfl) 34 rfl;clear hB hA;rw [if_neg (by simp [Region.wanted,yielded,s34,undef])];exact hK.out _ _ (Ext.refl _) rfl;obtain⟨_,s34,rfl⟩:=hA 8 (by kernel_rfl) 34 rfl;clear hB hA;rw [if_neg (by simp [Region.wanted,yielded,s34,undef])];exact hK.out _ _ (Ext.refl _) rfl;obtain⟨_,s34,rfl⟩:=hA 8 (by kernel_rfl) 34 rfl;obtain⟨_,s42,rfl⟩:=hA 16 (by kernel_rfl) 42 rfl
   rotate_left
   all_goals clear hB hA
   all_goals go_simp
   all_goals exact hK.out _ _ (Ext.refl _) rfl
  intro vals wz eZ hJ;have J43:vals 17=_:=hJ 17 (by decide) (by decide);clear hJ;simp only [pr,Nat.reduceAdd,J43];clear J43;refine stepL_done (by kernel_rfl) ?_ _;go_wp2;go_ret;exact⟨rfl,hE.trans eZ⟩
 | true =>
 obtain⟨fa,fb⟩:=r6_all (p:=fun r=>briefB r=true).1 (few49_all hfw.out.symm);have SA:Hid (∀ i,i < 3→RawSz (Ra i)):=fun i hi=>(brief_raw (fa i hi)).1
 have SB:Hid (∀ i,i < 3→RawSz (Rb i)):=fun i hi=>(brief_raw (fb i hi)).1
 have S6:Hid (∀ i,i < 6→RawSz (r6 Ra Rb i)):=r6_all.2 ⟨SA.out,SB.out⟩
 by_cases hc:chk G Ra Rb 0 Ra=0
 case neg =>
  obtain⟨r,hr⟩:=hid_eq (chk G Ra Rb 0 Ra);rw [←hr.out] at hc;have t0:(r != 0)=true:=by simpa using hc
  clear hc fa fb;refine regI [Mn.eq (.agg #[.int .i64 G.x0,.int .i64 G.y0,.int .i64 G.st,.int .i64 G.wd,.int .i64 G.ht,.slice A G.n c]),Mn.eq (.pointer (some ⟨w.heap.size+1,0,none⟩)),Mn.eq (.agg ca),Mn.eq (.pointer (some ⟨w.heap.size+1,12,none⟩)),Mn.eq (.agg cb),Mn.gc w1.heap.size 6 (ca ++ cb).toList,Mn.eq (.bool true),Mn.eq (.bool false),Mn.eq (.bool false),Mn.eq (.agg #[.int .i64 G.x0,.int .i64 G.y0,.int .i64 G.st,.int .i64 G.wd,.int .i64 G.ht,.slice A G.n c]),Mn.eq (.pointer (some ⟨w.heap.size+1,0,none⟩)),Mn.eq (.agg ca),Mn.eq (.pointer (some ⟨w.heap.size+1,12,none⟩)),Mn.eq (.agg cb),Mn.gc w1.heap.size 6 (ca ++ cb).toList,Mn.eq (.int .i64 r),Mn.eq (.bool true),Mn.eq (.bool true)] [some 26,some 27,some 28,some 29,some 30,some 31,some 32,some 33,some 34,some 35,some 36,some 37,some 38,some 39,some 40,some 41,some 42,some 43] [] [true,true,true,true,true,true,true,true,true,true,true,true,true,true,true,true,true,true] 0 (by kernel_rfl) ?_ ?_
  ·show ∀ i,i < 18→_
   iterate 18 refine fs ?_ ?_
   ·exact fz
   all_goals intro hl
   all_goals clear hl
   all_goals refine stp rfl ?_
   all_goals intro ac wi eI hB hA K hK
   have o3:=oOf (hB 3 (by kernel_rfl)) rfl;have cc0:=eI.cell a0;have cc1:=eI.cell a1;have cc2:=eI.cell a2;have cc3:=eI.cell a3;have cc4:=eI.cell a4;have cc5:=eI.cell a5
   rotate_left
   have o4:=oOf (hB 4 (by kernel_rfl)) rfl
   rotate_left
   obtain⟨_,s27,rfl⟩:=hA 1 (by kernel_rfl) 27 rfl;clear hB hA;have cc0:=eI.cell a0;have cc1:=eI.cell a1;have cc2:=eI.cell a2;have cc3:=eI.cell a3;have cc4:=eI.cell a4;have cc5:=eI.cell a5
   ·refine wp_load_part 43 _ rfl _ 0 (by simp [Act.eval,s27]) ca (part_l (eI.block HB1.out)) _ Tryz.underlying43 rfl (by rw [ZA.out]; exact info_pt) ?_;exact hK.out _ _ (Ext.refl _) rfl
   have o4:=oOf (hB 4 (by kernel_rfl)) rfl
   rotate_left
   obtain⟨_,s29,rfl⟩:=hA 3 (by kernel_rfl) 29 rfl;clear hB hA;have cc0:=eI.cell a0;have cc1:=eI.cell a1;have cc2:=eI.cell a2;have cc3:=eI.cell a3;have cc4:=eI.cell a4;have cc5:=eI.cell a5
   ·refine wp_load_part 43 _ rfl _ 12 (by simp [Act.eval,s29]) cb (part_r (eI.block HB1.out) ZA.out) _ Tryz.underlying43 rfl (by rw [ZB.out]; exact info_pt) ?_;exact hK.out _ _ (Ext.refl _) rfl
   obtain⟨_,s28,rfl⟩:=hA 2 (by kernel_rfl) 28 rfl;obtain⟨_,s30,rfl⟩:=hA 4 (by kernel_rfl) 30 rfl;clear hB hA
   ·go_simp;refine (l49_both ZA.out OA.out ZB.out OB.out).mono ?_;rintro e wj ⟨gj,cj,rfl,hj,ej⟩;go_wp2_with fail;exact hK.out _ _ ej ⟨gj,cj,rfl,by rw [Array.toList_append]; exact hj.mono eI.size⟩
   obtain⟨_,s26,rfl⟩:=hA 0 (by kernel_rfl) 26 rfl;obtain⟨x31,s31,j31⟩:=hA 5 (by kernel_rfl) 31 rfl;replace j31:Mn.p (Mn.gc w1.heap.size 6 (ca ++ cb).toList) x31 wi:=j31;clear hB hA
   ·go_simp;refine (l49_few (HG.out.ext (hE.trans eI)) (gc_ls j31 hN1 (ar6 (HA.out.ext (hE.trans eI)) (HB.out.ext (hE.trans eI))))).mono ?_;rw [←hfw.out];rintro e wj ⟨rfl,ej⟩;go_wp2_with fail;exact hK.out _ _ ej rfl
   obtain⟨_,s32,rfl⟩:=hA 6 (by kernel_rfl) 32 rfl
   rotate_left
   obtain⟨_,s33,rfl⟩:=hA 7 (by kernel_rfl) 33 rfl
   rotate_left
   obtain⟨_,s34,rfl⟩:=hA 8 (by kernel_rfl) 34 rfl;have o3:=oOf (hB 3 (by kernel_rfl)) rfl;rw [if_pos (by simp [Region.wanted,yielded,s34])];have cc0:=eI.cell a0;have cc1:=eI.cell a1;have cc2:=eI.cell a2;have cc3:=eI.cell a3;have cc4:=eI.cell a4;have cc5:=eI.cell a5
   rotate_left
   obtain⟨_,s34,rfl⟩:=hA 8 (by kernel_rfl) 34 rfl;have o4:=oOf (hB 4 (by kernel_rfl)) rfl;rw [if_pos (by simp [Region.wanted,yielded,s34])]
   rotate_left
   obtain⟨_,s34,rfl⟩:=hA 8 (by kernel_rfl) 34 rfl;obtain⟨_,s36,rfl⟩:=hA 10 (by kernel_rfl) 36 rfl;clear hB hA;rw [if_pos (by simp [Region.wanted,yielded,s34])];have cc0:=eI.cell a0;have cc1:=eI.cell a1;have cc2:=eI.cell a2;have cc3:=eI.cell a3;have cc4:=eI.cell a4;have cc5:=eI.cell a5
   ·refine wp_load_part 43 _ rfl _ 0 (by simp [Act.eval,s36]) ca (part_l (eI.block HB1.out)) _ Tryz.underlying43 rfl (by rw [ZA.out]; exact info_pt) ?_;exact hK.out _ _ (Ext.refl _) rfl
   obtain⟨_,s34,rfl⟩:=hA 8 (by kernel_rfl) 34 rfl;have o4:=oOf (hB 4 (by kernel_rfl)) rfl;rw [if_pos (by simp [Region.wanted,yielded,s34])]
   rotate_left
   obtain⟨_,s34,rfl⟩:=hA 8 (by kernel_rfl) 34 rfl;obtain⟨_,s38,rfl⟩:=hA 12 (by kernel_rfl) 38 rfl;clear hB hA;rw [if_pos (by simp [Region.wanted,yielded,s34])];have cc0:=eI.cell a0;have cc1:=eI.cell a1;have cc2:=eI.cell a2;have cc3:=eI.cell a3;have cc4:=eI.cell a4;have cc5:=eI.cell a5
   ·refine wp_load_part 43 _ rfl _ 12 (by simp [Act.eval,s38]) cb (part_r (eI.block HB1.out) ZA.out) _ Tryz.underlying43 rfl (by rw [ZB.out]; exact info_pt) ?_;exact hK.out _ _ (Ext.refl _) rfl
   obtain⟨_,s34,rfl⟩:=hA 8 (by kernel_rfl) 34 rfl;obtain⟨_,s37,rfl⟩:=hA 11 (by kernel_rfl) 37 rfl;obtain⟨_,s39,rfl⟩:=hA 13 (by kernel_rfl) 39 rfl;clear hB hA;rw [if_pos (by simp [Region.wanted,yielded,s34])]
   ·go_simp;refine (l49_both ZA.out OA.out ZB.out OB.out).mono ?_;rintro e wj ⟨gj,cj,rfl,hj,ej⟩;go_wp2_with fail;exact hK.out _ _ ej ⟨gj,cj,rfl,by rw [Array.toList_append]; exact hj.mono eI.size⟩
   obtain⟨_,s34,rfl⟩:=hA 8 (by kernel_rfl) 34 rfl;obtain⟨_,s35,rfl⟩:=hA 9 (by kernel_rfl) 35 rfl;obtain⟨x40,s40,j40⟩:=hA 14 (by kernel_rfl) 40 rfl;replace j40:Mn.p (Mn.gc w1.heap.size 6 (ca ++ cb).toList) x40 wi:=j40;clear hB hA;rw [if_pos (by simp [Region.wanted,yielded,s34])]
   ·go_simp;refine (l49_code (HG.out.ext (hE.trans eI)) (gc_ls j40 hN1 (ar6 (HA.out.ext (hE.trans eI)) (HB.out.ext (hE.trans eI)))) S6.out).mono ?_;rw [code_chk6 (R:=Ra),←hr.out];rintro e wj ⟨rfl,ej⟩;go_wp2_with fail;exact hK.out _ _ ej rfl
   obtain⟨_,s34,rfl⟩:=hA 8 (by kernel_rfl) 34 rfl;obtain⟨_,s41,rfl⟩:=hA 15 (by kernel_rfl) 41 rfl;rw [if_pos (by simp [Region.wanted,yielded,s34])]
   rotate_left
   obtain⟨_,s34,rfl⟩:=hA 8 (by kernel_rfl) 34 rfl;obtain⟨_,s42,rfl⟩:=hA 16 (by kernel_rfl) 42 rfl
   rotate_left
   all_goals clear hB hA
   all_goals go_simp
   all_goals exact hK.out _ _ (Ext.refl _) rfl
  intro vals wz eZ hJ;have J43:vals 17=_:=hJ 17 (by decide) (by decide);clear hJ;simp only [pr,Nat.reduceAdd,J43];clear J43;refine stepL_done (by kernel_rfl) ?_ _;go_wp2;go_ret;exact⟨rfl,hE.trans eZ⟩
 have HC:=Lib.hid hc;obtain⟨hg,ka,kb,-⟩:=chk_parts hc;obtain⟨a,hra⟩:=raws_of ka;obtain⟨b,hrb⟩:=raws_of kb;have HA':Hid (PtA N w ca (fun i=>raw (a i))):=HA.out.congr hra;have HB':Hid (PtA N w cb (fun i=>raw (b i))):=HB.out.congr hrb;have HFA:Hid (∀ i,i < 3→briefB (raw (a i))=true):=fun i hi=>by rw [←hra i hi]; exact fa i hi
 have HFB:Hid (∀ i,i < 3→briefB (raw (b i))=true):=fun i hi=>by rw [←hrb i hi]; exact fb i hi
 have HSO:Hid (SOk G 17 a b):=sok_of hg HFA.out HFB.out;have HGC:=Lib.hid hg;have HZR:Hid (∀ i,i < G.n→G.z i=noneZ∨(-1048576≤G.z i∧G.z i≤1048576)):=(grd_ok hg).z
 have HG9:Hid (0 < G.n∧G.n≤4096∧(G.n:Int)=G.wd*G.ht):=by
  have g9:=grd_ok hg;have h9:=g9.n;have h1:2*2≤G.wd*G.ht:=Int.mul_le_mul g9.w0 g9.h0 (by omega) (by have:=g9.w0; omega);have h2:G.wd*G.ht≤64*64:=Int.mul_le_mul g9.w1 g9.h1 (by have:=g9.h0; omega) (by omega);exact⟨by omega,by omega,h9⟩
 have hst:2≤G.st∧G.st≤65536:=⟨(grd_ok hg).s0,(grd_ok hg).s1⟩
 have hx0 : -1048576≤G.x0∧G.x0≤1048576:=⟨(grd_ok hg).x0,(grd_ok hg).x1⟩
 have hy0 : -1048576≤G.y0∧G.y0≤1048576:=⟨(grd_ok hg).y0,(grd_ok hg).y1⟩
 have hxs:=mul_rng hx hst;have hys:=mul_rng hy hst;have hw1:IntKind.i64.wrap x=x:=w64 (by omega) (by omega);have hw2:IntKind.i64.wrap y=y:=w64 (by omega) (by omega);have hw0:IntKind.i64.wrap z=z:=w64 (by omega) (by omega);have hw3:IntKind.i64.wrap (x*G.st)=x*G.st:=w64 (by omega) (by omega);have hw4:IntKind.i64.wrap (y*G.st)=y*G.st:=w64 (by omega) (by omega);have hw5:IntKind.i64.wrap (G.x0+x*G.st)=G.x0+x*G.st:=w64 (by omega) (by omega);have hw6:IntKind.i64.wrap (G.y0+y*G.st)=G.y0+y*G.st:=w64 (by omega) (by omega);clear hg ka kb hra hrb fa fb hc SA SB;refine regI [Mn.eq (.agg #[.int .i64 G.x0,.int .i64 G.y0,.int .i64 G.st,.int .i64 G.wd,.int .i64 G.ht,.slice A G.n c]),Mn.eq (.pointer (some ⟨w.heap.size+1,0,none⟩)),Mn.eq (.agg ca),Mn.eq (.pointer (some ⟨w.heap.size+1,12,none⟩)),Mn.eq (.agg cb),Mn.gc w1.heap.size 6 (ca ++ cb).toList,Mn.eq (.bool true),Mn.eq (.bool false),Mn.eq (.bool false),Mn.eq (.agg #[.int .i64 G.x0,.int .i64 G.y0,.int .i64 G.st,.int .i64 G.wd,.int .i64 G.ht,.slice A G.n c]),Mn.eq (.pointer (some ⟨w.heap.size+1,0,none⟩)),Mn.eq (.agg ca),Mn.eq (.pointer (some ⟨w.heap.size+1,12,none⟩)),Mn.eq (.agg cb),Mn.gc w1.heap.size 6 (ca ++ cb).toList,Mn.eq (.int .i64 0),Mn.eq (.bool false),Mn.eq (.bool false)] [some 26,some 27,some 28,some 29,some 30,some 31,some 32,some 33,some 34,some 35,some 36,some 37,some 38,some 39,some 40,some 41,some 42,some 43] [] [true,true,true,true,true,true,true,true,true,true,true,true,true,true,true,true,true,true] 0 (by kernel_rfl) ?_ ?_
 ·show ∀ i,i < 18→_
  iterate 18 refine fs ?_ ?_
  ·exact fz
  all_goals intro hl
  all_goals clear hl
  all_goals refine stp rfl ?_
  all_goals intro ac wi eI hB hA K hK
  have o3:=oOf (hB 3 (by kernel_rfl)) rfl;have cc0:=eI.cell a0;have cc1:=eI.cell a1;have cc2:=eI.cell a2;have cc3:=eI.cell a3;have cc4:=eI.cell a4;have cc5:=eI.cell a5
  rotate_left
  have o4:=oOf (hB 4 (by kernel_rfl)) rfl
  rotate_left
  obtain⟨_,s27,rfl⟩:=hA 1 (by kernel_rfl) 27 rfl;clear hB hA;have cc0:=eI.cell a0;have cc1:=eI.cell a1;have cc2:=eI.cell a2;have cc3:=eI.cell a3;have cc4:=eI.cell a4;have cc5:=eI.cell a5
  ·refine wp_load_part 43 _ rfl _ 0 (by simp [Act.eval,s27]) ca (part_l (eI.block HB1.out)) _ Tryz.underlying43 rfl (by rw [ZA.out]; exact info_pt) ?_;exact hK.out _ _ (Ext.refl _) rfl
  have o4:=oOf (hB 4 (by kernel_rfl)) rfl
  rotate_left
  obtain⟨_,s29,rfl⟩:=hA 3 (by kernel_rfl) 29 rfl;clear hB hA;have cc0:=eI.cell a0;have cc1:=eI.cell a1;have cc2:=eI.cell a2;have cc3:=eI.cell a3;have cc4:=eI.cell a4;have cc5:=eI.cell a5
  ·refine wp_load_part 43 _ rfl _ 12 (by simp [Act.eval,s29]) cb (part_r (eI.block HB1.out) ZA.out) _ Tryz.underlying43 rfl (by rw [ZB.out]; exact info_pt) ?_;exact hK.out _ _ (Ext.refl _) rfl
  obtain⟨_,s28,rfl⟩:=hA 2 (by kernel_rfl) 28 rfl;obtain⟨_,s30,rfl⟩:=hA 4 (by kernel_rfl) 30 rfl;clear hB hA
  ·go_simp;refine (l49_both ZA.out OA.out ZB.out OB.out).mono ?_;rintro e wj ⟨gj,cj,rfl,hj,ej⟩;go_wp2_with fail;exact hK.out _ _ ej ⟨gj,cj,rfl,by rw [Array.toList_append]; exact hj.mono eI.size⟩
  obtain⟨_,s26,rfl⟩:=hA 0 (by kernel_rfl) 26 rfl;obtain⟨x31,s31,j31⟩:=hA 5 (by kernel_rfl) 31 rfl;replace j31:Mn.p (Mn.gc w1.heap.size 6 (ca ++ cb).toList) x31 wi:=j31;clear hB hA
  ·go_simp;refine (l49_few (HG.out.ext (hE.trans eI)) (gc_ls j31 hN1 (ar6 (HA.out.ext (hE.trans eI)) (HB.out.ext (hE.trans eI))))).mono ?_;rw [←hfw.out];rintro e wj ⟨rfl,ej⟩;go_wp2_with fail;exact hK.out _ _ ej rfl
  obtain⟨_,s32,rfl⟩:=hA 6 (by kernel_rfl) 32 rfl
  rotate_left
  obtain⟨_,s33,rfl⟩:=hA 7 (by kernel_rfl) 33 rfl
  rotate_left
  obtain⟨_,s34,rfl⟩:=hA 8 (by kernel_rfl) 34 rfl;have o3:=oOf (hB 3 (by kernel_rfl)) rfl;rw [if_pos (by simp [Region.wanted,yielded,s34])];have cc0:=eI.cell a0;have cc1:=eI.cell a1;have cc2:=eI.cell a2;have cc3:=eI.cell a3;have cc4:=eI.cell a4;have cc5:=eI.cell a5
  rotate_left
  obtain⟨_,s34,rfl⟩:=hA 8 (by kernel_rfl) 34 rfl;have o4:=oOf (hB 4 (by kernel_rfl)) rfl;rw [if_pos (by simp [Region.wanted,yielded,s34])]
  rotate_left
  obtain⟨_,s34,rfl⟩:=hA 8 (by kernel_rfl) 34 rfl;obtain⟨_,s36,rfl⟩:=hA 10 (by kernel_rfl) 36 rfl;clear hB hA;rw [if_pos (by simp [Region.wanted,yielded,s34])];have cc0:=eI.cell a0;have cc1:=eI.cell a1;have cc2:=eI.cell a2;have cc3:=eI.cell a3;have cc4:=eI.cell a4;have cc5:=eI.cell a5
  ·refine wp_load_part 43 _ rfl _ 0 (by simp [Act.eval,s36]) ca (part_l (eI.block HB1.out)) _ Tryz.underlying43 rfl (by rw [ZA.out]; exact info_pt) ?_;exact hK.out _ _ (Ext.refl _) rfl
  obtain⟨_,s34,rfl⟩:=hA 8 (by kernel_rfl) 34 rfl;have o4:=oOf (hB 4 (by kernel_rfl)) rfl;rw [if_pos (by simp [Region.wanted,yielded,s34])]
  rotate_left
  obtain⟨_,s34,rfl⟩:=hA 8 (by kernel_rfl) 34 rfl;obtain⟨_,s38,rfl⟩:=hA 12 (by kernel_rfl) 38 rfl;clear hB hA;rw [if_pos (by simp [Region.wanted,yielded,s34])];have cc0:=eI.cell a0;have cc1:=eI.cell a1;have cc2:=eI.cell a2;have cc3:=eI.cell a3;have cc4:=eI.cell a4;have cc5:=eI.cell a5
  ·refine wp_load_part 43 _ rfl _ 12 (by simp [Act.eval,s38]) cb (part_r (eI.block HB1.out) ZA.out) _ Tryz.underlying43 rfl (by rw [ZB.out]; exact info_pt) ?_;exact hK.out _ _ (Ext.refl _) rfl
  obtain⟨_,s34,rfl⟩:=hA 8 (by kernel_rfl) 34 rfl;obtain⟨_,s37,rfl⟩:=hA 11 (by kernel_rfl) 37 rfl;obtain⟨_,s39,rfl⟩:=hA 13 (by kernel_rfl) 39 rfl;clear hB hA;rw [if_pos (by simp [Region.wanted,yielded,s34])]
  ·go_simp;refine (l49_both ZA.out OA.out ZB.out OB.out).mono ?_;rintro e wj ⟨gj,cj,rfl,hj,ej⟩;go_wp2_with fail;exact hK.out _ _ ej ⟨gj,cj,rfl,by rw [Array.toList_append]; exact hj.mono eI.size⟩
  obtain⟨_,s34,rfl⟩:=hA 8 (by kernel_rfl) 34 rfl;obtain⟨_,s35,rfl⟩:=hA 9 (by kernel_rfl) 35 rfl;obtain⟨x40,s40,j40⟩:=hA 14 (by kernel_rfl) 40 rfl;replace j40:Mn.p (Mn.gc w1.heap.size 6 (ca ++ cb).toList) x40 wi:=j40;clear hB hA;rw [if_pos (by simp [Region.wanted,yielded,s34])]
  ·go_simp;refine (l49_code (HG.out.ext (hE.trans eI)) (gc_ls j40 hN1 (ar6 (HA.out.ext (hE.trans eI)) (HB.out.ext (hE.trans eI)))) S6.out).mono ?_;rw [code_chk6 (R:=Ra),HC.out];rintro e wj ⟨rfl,ej⟩;go_wp2_with fail;exact hK.out _ _ ej rfl
  obtain⟨_,s34,rfl⟩:=hA 8 (by kernel_rfl) 34 rfl;obtain⟨_,s41,rfl⟩:=hA 15 (by kernel_rfl) 41 rfl;rw [if_pos (by simp [Region.wanted,yielded,s34])]
  rotate_left
  obtain⟨_,s34,rfl⟩:=hA 8 (by kernel_rfl) 34 rfl;obtain⟨_,s42,rfl⟩:=hA 16 (by kernel_rfl) 42 rfl
  rotate_left
  all_goals clear hB hA
  all_goals go_simp
  all_goals exact hK.out _ _ (Ext.refl _) rfl
 intro vals wz eZ hJ;have J43:vals 17=_:=hJ 17 (by decide) (by decide);clear hJ;simp only [pr,Nat.reduceAdd,J43];clear J43;refine stepL_done (by kernel_rfl) ?_ _;replace hE:=hE.trans eZ;replace B0:=eZ.block B0;have B1:=eZ.block HB1.out;replace B2:=eZ.block B2;have hs2:=eZ.size;clear a0 a1 a2 a3 a4 a5 HB1 eZ S6 HC hfw HA HB;obtain⟨wy,hwy⟩:∃ wy,wy=wz:=⟨_,rfl⟩
 subst hwy;obtain⟨a0,a1,a2,a3,a4,a5⟩:=cells_g B0;go_upto_region 6 with (fail);refine boxes1 ?_;intro w2 e2 hsz2 BL;obtain⟨gL,hgL⟩:∃ gL,gL=wy.heap.size:=⟨_,rfl⟩
 have BL':w2.heap[gL]?=some (.cells #[.int .i64 G.x0,.int .i64 G.y0,.int .i64 G.st,.int .i64 G.wd,.int .i64 G.ht,.slice A G.n c] 24 (0,0)):=by rw [hgL]; exact BL
 rw [←hgL];have hgE:w.heap.size+3≤gL:=by omega
 have hgW:wy.heap.size≤gL:=by omega
 have hgl:gL < w2.heap.size:=blk_lt BL';obtain⟨b0,b1,b2,-⟩:=cells3 B2;have hnG:=HG9.out.1;have hnG2:=HG9.out.2.1;have hN2:N≤wy.heap.size:=by have:=hE.size; omega
 clear BL hgL;refine regL [Mn.eq (.pointer (some ⟨w.heap.size,0,none⟩)),Mn.eq (.int .i64 G.x0),Mn.eq (.pointer (some ⟨w.heap.size+1+1,0,none⟩)),Mn.eq (.int .i8 x),Mn.eq (.int .i64 x),Mn.eq (.pointer (some ⟨w.heap.size,2,none⟩)),Mn.eq (.int .i64 G.st),Mn.eq (.int .i64 (x*G.st)),Mn.eq (.int .i64 (G.x0+x*G.st)),Mn.eq (.pointer (some ⟨w.heap.size,1,none⟩)),Mn.eq (.int .i64 G.y0),Mn.eq (.pointer (some ⟨w.heap.size+1+1,1,none⟩)),Mn.eq (.int .i8 y),Mn.eq (.int .i64 y),Mn.eq (.pointer (some ⟨w.heap.size,2,none⟩)),Mn.eq (.int .i64 G.st),Mn.eq (.int .i64 (y*G.st)),Mn.eq (.int .i64 (G.y0+y*G.st)),Mn.eq (.pointer (some ⟨w.heap.size,5,none⟩)),Mn.eq (.slice A G.n c),Mn.izB w2.heap.size G.n G.z,Mn.eq (.pointer (some ⟨gL,0,none⟩)),Mn.any,Mn.any,Mn.any,Mn.any,Mn.any] [some 45,some 46,some 47,some 48,some 49,some 50,some 51,some 52,some 53,some 54,some 55,some 56,some 57,some 58,some 59,some 60,some 61,some 62,some 63,some 64,some 65,some 66,none,some 67,none,some 68,none] [22,23,24,25,26] [9,10,11,12,13,14,15,16,17] [] [true,true,true,true,true,true,true,true,true,true,true,true,true,true,true,true,true,true,true,true,true,true,false,false,false,false,false] 5 e2 (by kernel_rfl) ?_ ?_ ?_ ?_
 ·show ∀ i,i < 27→_
  iterate 27 refine fs ?_ ?_
  ·exact fz
  all_goals intro hl hs hd
  all_goals first | exact absurd hl (by decide) | exact absurd hs (by decide) | exact absurd hd (by decide) | skip
  all_goals clear hd hs
  all_goals clear hl
  all_goals refine stp rfl ?_
  all_goals intro ac wi eI hB hA K hK
  have o3:=oOf (hB 3 (by kernel_rfl)) rfl
  rotate_left
  obtain⟨_,s45,rfl⟩:=hA 0 (by kernel_rfl) 45 rfl;have cc0:=(e2.trans eI).cell a0
  rotate_left
  have o5:=oOf (hB 5 (by kernel_rfl)) rfl
  rotate_left
  obtain⟨_,s47,rfl⟩:=hA 2 (by kernel_rfl) 47 rfl;have cc0:=(e2.trans eI).cell b0
  rotate_left
  obtain⟨_,s48,rfl⟩:=hA 3 (by kernel_rfl) 48 rfl
  rotate_left
  have o3:=oOf (hB 3 (by kernel_rfl)) rfl
  rotate_left
  obtain⟨_,s50,rfl⟩:=hA 5 (by kernel_rfl) 50 rfl;have cc0:=(e2.trans eI).cell a2
  rotate_left
  obtain⟨_,s49,rfl⟩:=hA 4 (by kernel_rfl) 49 rfl;obtain⟨_,s51,rfl⟩:=hA 6 (by kernel_rfl) 51 rfl
  rotate_left
  obtain⟨_,s46,rfl⟩:=hA 1 (by kernel_rfl) 46 rfl;obtain⟨_,s52,rfl⟩:=hA 7 (by kernel_rfl) 52 rfl
  rotate_left
  have o3:=oOf (hB 3 (by kernel_rfl)) rfl
  rotate_left
  obtain⟨_,s63,rfl⟩:=hA 18 (by kernel_rfl) 63 rfl;have cc0:=(e2.trans eI).cell a5
  rotate_left
  obtain⟨_,s64,rfl⟩:=hA 19 (by kernel_rfl) 64 rfl;clear hB hA
  ·go_simp;refine (sl_cloneI (HIZ.out.ext (hE.trans (e2.trans eI))) (by omega) (by omega)).mono ?_;rintro e wj ⟨gz,cz,rfl,hgz,hB,ej⟩;go_wp2_with fail;exact hK.out _ _ ej ⟨gz,cz,rfl,Nat.le_trans eI.size hgz,hB⟩
  have o7:=oOf (hB 7 (by kernel_rfl)) rfl
  rotate_left
  all_goals clear hB hA
  all_goals go_simp
  all_goals exact hK.out _ _ (Ext.refl _) rfl
 ·intro i hs; exact absurd hs (by simp)
 ·intro i hs;have hi':i=9∨i=10∨i=11∨i=12∨i=13∨i=14∨i=15∨i=16∨i=17:=by simpa using hs
  clear hs
  rcases hi' with rfl | rfl | rfl | rfl | rfl | rfl | rfl | rfl | rfl
  ·refine sftL rfl (fun _ _ _ _ h=>h) ?_;intro ac wi eI hB hA;have o3:=oOf (hB 3 (by kernel_rfl)) rfl;clear hB hA;refine⟨(.pointer (some ⟨w.heap.size,1,none⟩)),.inl ⟨rfl,fun w9 _=>?_⟩,rfl⟩;go_simp
  ·refine sftL rfl (fun _ _ _ _ h=>h) ?_;intro ac wi eI hB hA;obtain⟨_,s54,rfl⟩:=hA 9 (by kernel_rfl) 54 rfl;clear hB hA;refine⟨(.int .i64 G.y0),.inl ⟨rfl,fun w9 e9=>?_⟩,rfl⟩;have cc0:=e9.cell a1;go_simp
  ·refine sftL rfl (fun _ _ _ _ h=>h) ?_;intro ac wi eI hB hA;have o5:=oOf (hB 5 (by kernel_rfl)) rfl;clear hB hA;refine⟨(.pointer (some ⟨w.heap.size+1+1,1,none⟩)),.inl ⟨rfl,fun w9 _=>?_⟩,rfl⟩;go_simp
  ·refine sftL rfl (fun _ _ _ _ h=>h) ?_;intro ac wi eI hB hA;obtain⟨_,s56,rfl⟩:=hA 11 (by kernel_rfl) 56 rfl;clear hB hA;refine⟨(.int .i8 y),.inl ⟨rfl,fun w9 e9=>?_⟩,rfl⟩;have cc0:=e9.cell b1;go_simp
  ·refine sftL rfl (fun _ _ _ _ h=>h) ?_;intro ac wi eI hB hA;obtain⟨_,s57,rfl⟩:=hA 12 (by kernel_rfl) 57 rfl;clear hB hA;refine⟨(.int .i64 y),.inl ⟨rfl,fun w9 _=>?_⟩,rfl⟩;go_simp
  ·refine sftL rfl (fun _ _ _ _ h=>h) ?_;intro ac wi eI hB hA;have o3:=oOf (hB 3 (by kernel_rfl)) rfl;clear hB hA;refine⟨(.pointer (some ⟨w.heap.size,2,none⟩)),.inl ⟨rfl,fun w9 _=>?_⟩,rfl⟩;go_simp
  ·refine sftL rfl (fun _ _ _ _ h=>h) ?_;intro ac wi eI hB hA;obtain⟨_,s59,rfl⟩:=hA 14 (by kernel_rfl) 59 rfl;clear hB hA;refine⟨(.int .i64 G.st),.inl ⟨rfl,fun w9 e9=>?_⟩,rfl⟩;have cc0:=e9.cell a2;go_simp
  ·refine sftL rfl (fun _ _ _ _ h=>h) ?_;intro ac wi eI hB hA;obtain⟨_,s58,rfl⟩:=hA 13 (by kernel_rfl) 58 rfl;obtain⟨_,s60,rfl⟩:=hA 15 (by kernel_rfl) 60 rfl;clear hB hA;refine⟨(.int .i64 (y*G.st)),.inl ⟨rfl,fun w9 _=>?_⟩,rfl⟩;go_simp
  ·refine sftL rfl (fun _ _ _ _ h=>h) ?_;intro ac wi eI hB hA;obtain⟨_,s55,rfl⟩:=hA 10 (by kernel_rfl) 55 rfl;obtain⟨_,s61,rfl⟩:=hA 16 (by kernel_rfl) 61 rfl;clear hB hA;refine⟨(.int .i64 (G.y0+y*G.st)),.inl ⟨rfl,fun w9 _=>?_⟩,rfl⟩;go_simp
 intro vals wz eZ hJ hD;clear hD;have J53:vals 8=_:=hJ 8 (by decide) (by decide);have J62:vals 17=_:=hJ 17 (by decide) (by decide);have J65:Mn.p (Mn.izB w2.heap.size G.n G.z) (vals 20) wz:=hJ 20 (by decide) (by decide);have J66:vals 21=_:=hJ 21 (by decide) (by decide);clear hJ;simp only [pr,Nat.reduceAdd,J53,J62,J66];clear J53 J62 J66
 generalize vals 20=z65 at J65 ⊢
 obtain⟨gz,cz,rfl,hgz,hB⟩:=J65;replace BL':=eZ.block BL';obtain⟨l0,l1,l2,l3,l4,l5⟩:=cells_g BL';have f0:=blk_free BL' 0;have f1:=blk_free BL' 1;have f5:=blk_free BL' 5;refine stepL_lateS (i:=22) rfl (by kernel_rfl) (fun K hK=>?_);go_simp;refine hK.out _ _ (fun e9=>?_) ?_
 ·repeat (first | with_reducible exact e9 | refine Ext.setCell ?_ (by dsimp only; omega) _)
 clear hK K;try simp only [nr]
 refine stepL_lateS (i:=23) rfl (by kernel_rfl) (fun K hK=>?_);go_simp;refine hK.out _ _ (fun e9=>?_) ?_
 ·repeat (first | with_reducible exact e9 | refine Ext.setCell ?_ (by dsimp only; omega) _)
 clear hK K;try simp only [nr]
 refine stepL_lateS (i:=24) rfl (by kernel_rfl) (fun K hK=>?_);go_simp;refine hK.out _ _ (fun e9=>?_) ?_
 ·repeat (first | with_reducible exact e9 | refine Ext.setCell ?_ (by dsimp only; omega) _)
 clear hK K;try simp only [nr]
 refine stepL_lateS (i:=25) rfl (by kernel_rfl) (fun K hK=>?_);go_simp;refine hK.out _ _ (fun e9=>?_) ?_
 ·repeat (first | with_reducible exact e9 | refine Ext.setCell ?_ (by dsimp only; omega) _)
 clear hK K;try simp only [nr]
 refine stepL_lateS (i:=26) rfl (by kernel_rfl) (fun K hK=>?_);go_simp;refine hK.out _ _ (fun e9=>?_) ?_
 ·repeat (first | with_reducible exact e9 | refine Ext.setCell ?_ (by dsimp only; omega) _)
 clear hK K;try simp only [nr]
 refine stepL_done (by kernel_rfl) ?_ _;obtain⟨w3,E3,BM,U3⟩:=set6s BL' (.int .i64 (G.x0+x*G.st)) (.int .i64 (G.y0+y*G.st)) (.slice (some ⟨gz,0,none⟩) G.n cz);rw [E3];have C3:=U3.chg (NoU.mk BL' (by decide));have hzl:=hB.lt;replace hB:=hB.chg C3 (.inr (by omega));have E23:Ext wy w3:=C3.ext (e2.trans eZ) hgW;replace B0:=E23.block B0;replace B1:=E23.block B1;replace B2:=E23.block B2;replace hE:=hE.trans E23;have hs3:=C3.size;have hs4:=eZ.size;clear l0 l1 l2 l3 l4 l5 f0 f1 f5 E3 U3 C3 E23 eZ e2 BL' a0 a1 a2 a3 a4 a5 b0 b1 b2;obtain⟨f,hf⟩:=hid_eq (fun j=>upZ (G.z j) z);obtain⟨l0,l1,l2,l3,l4,l5⟩:=cells_g BM;obtain⟨b0,b1,b2,-⟩:=cells3 B2;have HBM:=Lib.hid BM;have HB0:=Lib.hid B0;have HB1:=Lib.hid B1;have HB2:=Lib.hid B2;clear BM B0 B1 B2;go_wp2
 go_loopw [72] (fun iv wr=>∃ i:Nat,i≤G.n∧iv=.int .i64 i∧IzB wr gz cz G.n (mixI f G.z i)∧Chg gz (gz+1) w3 wr) (fun iv _=>G.n - (intOf iv).toNat)
 case atStart=>exact⟨0,by omega,rfl,hB.congr (fun j _=>by unfold mixI; rw [if_neg (by omega)]),Chg.refl _ _ _⟩
 case round =>
  clear hB;obtain⟨i,hi,rfl,hB,hC⟩:=hrel
  by_cases hin:i < G.n
  case neg =>
   obtain rfl:i=G.n:=by omega
   have hq1:decide ((G.n:Int) < (G.n:Int))=false:=decide_eq_false (by omega);have hE9:Ext w wr:=hC.ext hE (by omega);have hN9:N≤wr.heap.size:=by have:=hE9.size; omega
   have hs9:=hC.size;have HLZ:Hid (IzB wr gz cz G.n (shG G x y z).z):=hB.congr (fun j hj=>by unfold mixI; rw [if_pos hj,hf.out]; rfl);have HGV:Hid (GrdV N 0 0 wr (.agg #[.int .i64 (G.x0+x*G.st),.int .i64 (G.y0+y*G.st),.int .i64 G.st,.int .i64 G.wd,.int .i64 G.ht,.slice (some ⟨gz,0,none⟩) G.n cz]) (shG G x y z)):=⟨_,rfl,HLZ.out.iz⟩
   have B0:=hC.blk HB0.out (.inl (by omega));have B1:=hC.blk HB1.out (.inl (by omega));have B2:=hC.blk HB2.out (.inl (by omega));have BM:=hC.blk HBM.out (.inl (by omega));clear hB hC l0 l1 l2 l3 l4 l5 b0 b1 b2 HBM HB0 HB1 HB2 HLZ;obtain⟨l0,l1,l2,l3,l4,l5⟩:=cells_g BM;go_wp2_with (go_at_call 24; refine Hid.out ?_);refine (l48_Checked HGV.out).mono ?_;obtain⟨r,hr⟩:=hid_eq (grdCode (shG G x y z));rw [←hr.out];rintro e w4 ⟨rfl,e4⟩;have hs4a:=e4.size;replace hE9:=hE9.trans e4;replace B0:=e4.block B0;replace B1:=e4.block B1;replace B2:=e4.block B2;replace BM:=e4.block BM;replace HGV:=Lib.hid (HGV.out.ext e4);clear l0 l1 l2 l3 l4 l5
   by_cases hr0:r=0
   case neg =>
    have t0:(r != 0)=true:=by simpa using hr0
    clear hr0;go_wp2;go_ret;exact⟨rfl,hE9⟩
   have HHC:Hid (grdCode (shG G x y z)=0):=by rw [Hid,←hr.out]; exact hr0
   have t0:(r != 0)=false:=by simpa using hr0
   clear hr0 hr;have hN4:N≤w4.heap.size:=by have:=hE9.size; omega
   go_upto_region 15 with (fail);clear t0;obtain⟨a0,a1,a2,a3,a4,a5⟩:=cells_g B0;obtain⟨b0,b1,b2,-⟩:=cells3 B2;refine wp_region_lit ?_;go_wp2_with (go_at_call 25; refine Hid.out ?_);refine (l49_spot (N:=N) hN4 (x*G.st) (y*G.st) z (by omega) (by omega) (by omega)).mono ?_;rintro e w5 ⟨cs,rfl,hcp,hco,hpt,e5⟩
   rename_i K9 hK9
   refine hK9 _ _ ?_;clear hK9 K9 a0 a1 a2 a3 a4 a5 b0 b1 b2;try simp only [nr]
   have HCP:=Lib.hid hcp;clear hcp;refine wpList_plain rfl (fun K hK=>?_);go_simp;refine hK _ _ ?_;clear hK K;try simp only [nr]
   refine boxes1 ?_;intro w6 e6 hsz6 B9;refine wpList_store_blk' rfl 43 _ _ rfl (by rfl) (by rfl) B9 info_pt HCP.out (Eq.trans ((by rfl:Array.size _=12)) (Eq.symm (HCP.out))) hco ?_;try simp only [nr]
   intro w7 B9' U7;obtain⟨gD,hgD⟩:∃ gD,gD=w5.heap.size:=⟨_,rfl⟩
   rw [←hgD] at B9' U7 hsz6 ⊢;have C7:=U7.chg (NoU.mk (hgD ▸ B9) (by decide));have E47:Ext w4 w7:=e5.trans (C7.ext e6 (by omega));have hs4b:=E47.size;obtain⟨d,hd⟩:=hid_eq (sp3 (x*G.st) (y*G.st) z);rw [←hd.out] at hpt;have HPT:Hid (PtV N w7 cs 0 d):=hpt.ext (C7.ext e6 (by omega));have hgDl:gD < w7.heap.size:=blk_lt B9';replace hE9:=hE9.trans E47;replace B0:=E47.block B0;replace B1:=E47.block B1;replace BM:=E47.block BM;replace HGV:=Lib.hid (HGV.out.ext E47);clear B9 U7 C7 e6 hgD E47 e5 B2 hpt;refine wpList_nil ?_;go_upto_region 17 with (fail);refine boxes1 ?_;intro w8 e8 hsz8 BN;obtain⟨gN,hgN⟩:∃ gN,gN=w7.heap.size:=⟨_,rfl⟩
   have BN':w8.heap[gN]?=some (.cells #[.bool false,.slice none 0 0,.bool false,.slice none 0 0,.bool false,.slice none 0 0,.bool false,.slice none 0 0,.bool false,.slice none 0 0,.bool false,.slice none 0 0,.bool false,.slice none 0 0,.bool false,.slice none 0 0,.bool false,.slice none 0 0,.bool false,.slice none 0 0,.bool false,.slice none 0 0,.bool false,.slice none 0 0] 44 (0,0)):=by rw [hgN]; exact BN
   rw [←hgN];obtain⟨p,hp⟩:=hid_eq (mvP a b d);have hU:EnUp N w8 gN 0 p:=⟨_,BN',rfl,rfl,fun j hj=>absurd hj (by omega)⟩
   replace hE9:=hE9.trans e8;replace B0:=e8.block B0;replace B1:=e8.block B1;replace BM:=e8.block BM;replace B9':=e8.block B9';replace HPT:=Lib.hid (HPT.out.ext e8);have HE8:=Lib.hid e8;have hg7:w7.heap.size≤gN:=by omega
   have HB0:=Lib.hid B0;have HB1:=Lib.hid B1;have HBM:=Lib.hid BM;have HBD:=Lib.hid B9';have hgNw:w.heap.size+3≤gN:=by have:=hE9.size; omega
   have hgDN:gD < gN:=by omega
   have hgLN:gL < gN:=by omega
   have hs8:=e8.size;clear BN BN' hgN hsz8 e8 B0 B1 BM B9';go_wp2
   go_loopw [108] (fun iv wr=>∃ k:Nat,k≤2∧iv=.int .i64 k∧EnUp N wr gN (k*3) p∧Chg gN (gN+1) w8 wr) (fun iv _=>2 - (intOf iv).toNat)
   case atStart=>exact⟨0,by omega,rfl,hU,Chg.refl _ _ _⟩
   case round =>
    clear hU;obtain⟨k,hk,rfl,hU,hC⟩:=hrel
    by_cases hk2:k < 2
    case neg =>
     obtain rfl:k=2:=by omega
     have hq2:decide (((2:Nat):Int) < 2)=false:=by decide
     have hEr:Ext w wr:=hC.ext hE9 (by omega);have E7r:Ext w7 wr:=hC.ext HE8.out hg7;obtain⟨da,db,BD,hda,hdb⟩:=EnUp.split (show EnUp N wr gN 6 p from hU);have ZDA:=Lib.hid hda.size;have ZDB:=Lib.hid hdb.size;have HDA:=Lib.hid hda;have HDB:=Lib.hid hdb;have B0:=hC.blk HB0.out (.inl (by omega));have B1:=hC.blk HB1.out (.inl (by omega));have BM:=hC.blk HBM.out (.inl (by omega));have BD3:=hC.blk HBD.out (.inl (by omega));have HGR:=Lib.hid (HGV.out.ext E7r);have HPD:=Lib.hid (fun i (hi:i < 3)=>(HPT.out i hi).chg hC (by omega));have HSP:Hid (SOk (shG G x y z) 60 p (fun i=>p (i+3))):=mv_sok (x:=x*G.st) (y:=y*G.st) (z:=z) HHC.out HSO.out HFA.out HFB.out hxs hys (by omega) (by rw [hp.out,hd.out]);have hp0:∀ i,i < 3→p i=a i+d i:=fun i hi=>by rw [hp.out]; exact mvP_l hi
     have hp3:∀ i,i < 3→p (i+3)=b i+d i:=fun i hi=>by rw [hp.out]; exact mvP_r hi
     have hd0:d 0=((x*G.st:Int):Rat):=by rw [hd.out]; rfl
     have hd1:d 1=((y*G.st:Int):Rat):=by rw [hd.out]; rfl
     have hd2:d 2=((z:Int):Rat):=by rw [hd.out]; rfl
     have HSH:Hid (ShG G (shG G x y z) x y z):=sh_sh (grd_ok HGC.out) hz;have HSC:Hid (clrF (shG G x y z) p (fun i=>p (i+3))↔clrF G a b):=sh_clr HSH.out HG9.out.2.2 (by rw [hp0 0 (by omega),hd0]) (by rw [hp0 1 (by omega),hd1]) (by rw [hp0 2 (by omega),hd2]) (by rw [hp3 0 (by omega),hd0]) (by rw [hp3 1 (by omega),hd1]) (by rw [hp3 2 (by omega),hd2])
     have HHG:Hid (hgtF (shG G x y z) (p 0) (p 1)=(hgtF G (a 0) (a 1)).map (fun q=>q+(z:Rat))):=by
      rw [Hid,hp0 0 (by omega),hp0 1 (by omega),hd0,hd1];exact sh_hgt HSH.out HG9.out.2.2 _ _
     have HD2:=Lib.hid hd2;have hNr:N≤wr.heap.size:=by have:=hEr.size; omega
     clear hC hU hda hdb hp0 hp3 hd0 hd1 hd2 HB0 HB1 HBM HBD HGV HPT HE8 HSH E7r;go_upto_region 26 with (fail);obtain⟨a0,a1,a2,a3,a4,a5⟩:=cells_g B0;refine wp_region_lit ?_;refine wpList_plain rfl (fun K hK=>?_);go_simp;refine hK _ _ ?_;clear hK K;try simp only [nr]
     refine wpList_plain rfl (fun K hK=>?_);go_simp;refine hK _ _ ?_;clear hK K;try simp only [nr]
     refine wpList_load_part rfl 43 _ rfl _ 0 (by rfl) ca (part_l B1) _ Tryz.underlying43 rfl (by rw [ZA.out]; exact info_pt) ?_;try simp only [nr]
     refine wpList_plain rfl (fun K hK=>?_);go_simp;refine hK _ _ ?_;clear hK K;try simp only [nr]
     refine wpList_load_part rfl 43 _ rfl _ 12 (by rfl) cb (part_r B1 ZA.out) _ Tryz.underlying43 rfl (by rw [ZB.out]; exact info_pt) ?_;try simp only [nr]
     go_wp2_with (go_at_call 20; refine Hid.out ?_);refine (o_Clear (K:=17) (HG.out.ext hEr) HGC.out HSO.out (by omega) hNr (HA'.out.ext hEr) (HB'.out.ext hEr)).mono ?_;rintro e w11 ⟨is,v,t',rfl,hv,-,h1,h2,e11⟩;have HIS:Hid (is=true↔clrF G a b):=clr_blk h1 h2;obtain⟨bz,Az,kz,cz2,Az',kz',cz2',rfl,-,-,-⟩:=hv.parts
     rename_i K9 hK9
     refine hK9 _ _ ?_;clear hK9 K9;try simp only [nr]
     clear a0 a1 a2 a3 a4 a5;refine wpList_plain rfl (fun K hK=>?_);go_simp;refine hK _ _ ?_;clear hK K;try simp only [nr]
     refine wpList_plain rfl (fun K hK=>?_);go_simp;refine hK _ _ ?_;clear hK K;try simp only [nr]
     refine wpList_plain rfl (fun K hK=>?_);go_simp;refine hK _ _ ?_;clear hK K;try simp only [nr]
     refine wpList_plain rfl (fun K hK=>?_);go_simp;refine hK _ _ ?_;clear hK K;try simp only [nr]
     refine wpList_plain rfl (fun K hK=>?_);go_simp;refine hK _ _ ?_;clear hK K;try simp only [nr]
     refine boxes1 ?_;intro w12 e12 hszC BH;obtain⟨q0,q1,q2,q3,-⟩:=cells4 BH;refine wpList_plain rfl (fun K hK=>?_);go_simp;refine hK _ _ ?_;clear hK K;try simp only [nr]
     refine wpList_store_blk' rfl 29 _ _ rfl (by rfl) (by rfl) BH info_rat4 (by rfl:Array.size _=4) (Eq.trans ((by rfl:Array.size _=4)) (Eq.symm ((by rfl:Array.size _=4)))) (by rfl) ?_;try simp only [nr]
     intro w13 BX1 UC;refine wpList_plain rfl (fun K hK=>?_);go_simp;refine hK _ _ ?_;clear hK K;try simp only [nr]
     refine wpList_nil ?_;have E13:Ext w11 w13:=(UC.chg (NoU.mk BH (by decide))).ext e12 (by omega);clear q0 q1 q2 q3 BH UC e12 hszC;replace E13:=e11.trans E13;replace hEr:=hEr.trans E13;replace B0:=E13.block B0;replace B1:=E13.block B1;replace BM:=E13.block BM;replace BD:=E13.block BD;replace BD3:=E13.block BD3;replace HGR:=Lib.hid (HGR.out.ext E13);replace HDA:=Lib.hid (HDA.out.ext E13);replace HDB:=Lib.hid (HDB.out.ext E13);replace HPD:=Lib.hid (fun i (hi:i < 3)=>(HPD.out i hi).ext E13);have hNr13:N≤w13.heap.size:=by have:=hEr.size; omega
     clear E13 e11 hv h1 h2 BX1;go_upto_region 27 with (fail);obtain⟨a0,a1,a2,a3,a4,a5⟩:=cells_g BM;refine wp_region_lit ?_;refine wpList_plain rfl (fun K hK=>?_);go_simp;refine hK _ _ ?_;clear hK K;try simp only [nr]
     refine wpList_plain rfl (fun K hK=>?_);go_simp;refine hK _ _ ?_;clear hK K;try simp only [nr]
     refine wpList_load_part rfl 43 _ rfl _ 0 (by rfl) da (part_l BD) _ Tryz.underlying43 rfl (by rw [ZDA.out]; exact info_pt) ?_;try simp only [nr]
     refine wpList_plain rfl (fun K hK=>?_);go_simp;refine hK _ _ ?_;clear hK K;try simp only [nr]
     refine wpList_load_part rfl 43 _ rfl _ 12 (by rfl) db (part_r BD ZDA.out) _ Tryz.underlying43 rfl (by rw [ZDB.out]; exact info_pt) ?_;try simp only [nr]
     go_wp2_with (go_at_call 20; refine Hid.out ?_);refine (o_Clear (K:=60) (b:=fun i=>p (i+3)) HGR.out HHC.out HSP.out (by omega) hNr13 HDA.out HDB.out).mono ?_;rintro e w21 ⟨is2,v,t',rfl,hv,-,h1,h2,e21⟩;have HI2:Hid (is2=is):=bool_iff ((clr_blk h1 h2).trans (HSC.out.trans HIS.out.symm));obtain⟨bz,Az,kz,cz2,Az',kz',cz2',rfl,-,-,-⟩:=hv.parts
     rename_i K9 hK9
     refine hK9 _ _ ?_;clear hK9 K9;try simp only [nr]
     clear a0 a1 a2 a3 a4 a5;refine wpList_plain rfl (fun K hK=>?_);go_simp;refine hK _ _ ?_;clear hK K;try simp only [nr]
     refine wpList_plain rfl (fun K hK=>?_);go_simp;refine hK _ _ ?_;clear hK K;try simp only [nr]
     refine wpList_plain rfl (fun K hK=>?_);go_simp;refine hK _ _ ?_;clear hK K;try simp only [nr]
     refine wpList_plain rfl (fun K hK=>?_);go_simp;refine hK _ _ ?_;clear hK K;try simp only [nr]
     refine wpList_plain rfl (fun K hK=>?_);go_simp;refine hK _ _ ?_;clear hK K;try simp only [nr]
     refine boxes1 ?_;intro w22 e22 hszC BH;obtain⟨q0,q1,q2,q3,-⟩:=cells4 BH;refine wpList_plain rfl (fun K hK=>?_);go_simp;refine hK _ _ ?_;clear hK K;try simp only [nr]
     refine wpList_store_blk' rfl 29 _ _ rfl (by rfl) (by rfl) BH info_rat4 (by rfl:Array.size _=4) (Eq.trans ((by rfl:Array.size _=4)) (Eq.symm ((by rfl:Array.size _=4)))) (by rfl) ?_;try simp only [nr]
     intro w23 BX2 UC;refine wpList_plain rfl (fun K hK=>?_);go_simp;refine hK _ _ ?_;clear hK K;try simp only [nr]
     refine wpList_nil ?_;have E23:Ext w21 w23:=(UC.chg (NoU.mk BH (by decide))).ext e22 (by omega);clear q0 q1 q2 q3 BH UC e22 hszC;replace E23:=e21.trans E23;replace hEr:=hEr.trans E23;replace B0:=E23.block B0;replace B1:=E23.block B1;replace BM:=E23.block BM;replace BD:=E23.block BD;replace BD3:=E23.block BD3;replace HGR:=Lib.hid (HGR.out.ext E23);replace HDA:=Lib.hid (HDA.out.ext E23);replace HPD:=Lib.hid (fun i (hi:i < 3)=>(HPD.out i hi).ext E23);have hNr23:N≤w23.heap.size:=by have:=hEr.size; omega
     clear E23 e21 hv h1 h2 BX2 HDB HSC HIS;obtain rfl:is2=is:=HI2.out
     have hPa0:ArV N w23 (ca ++ cb) 0 (raw (a 0)):=by
      have h:=ar6 (HA'.out.ext hEr) (HB'.out.ext hEr) 0 (by omega);rw [r6_l (by omega)] at h;exact h
     have hPa1:ArV N w23 (ca ++ cb) 4 (raw (a 1)):=by
      have h:=ar6 (HA'.out.ext hEr) (HB'.out.ext hEr) 1 (by omega);rw [r6_l (by omega)] at h;exact h
     obtain⟨Ap,np,cp,A'p,n'p,c'p,p0,p1,p2,p3,hRp⟩:=(hPa0.at4 B1).val;obtain⟨Aq,nq,cq,A'q,n'q,c'q,q0,q1,q2,q3,hRq⟩:=(hPa1.at4 B1).val;go_upto_region 28 with (fail);obtain⟨a0,a1,a2,a3,a4,a5⟩:=cells_g B0;obtain⟨o,ho⟩:=hid_eq (hgtF G (a 0) (a 1));have HHT:=Lib.hid (o_Height (K:=17) (HG.out.ext hEr) HGC.out (pl_of hRp hRq) hNr23 (HSO.out.ka 0 (by omega)) (HSO.out.ka 1 (by omega)) (by omega) (HSO.out.ba 0 (by omega)) (HSO.out.ba 1 (by omega)));rw [←ho.out] at HHT;rw [←ho.out] at HHG;have HOH:Hid (∀ q,o=some q→Ht 400 q):=fun q e=>(hgt_ht (grd_ok HGC.out) (HSO.out.ka 0 (by omega)) (HSO.out.ka 1 (by omega)) (by rw [←ho.out,e])).mono (by omega)
     clear hPa0 hPa1;go_wp2_with (go_at_call 12; refine Hid.out ?_);refine (HHT.out).mono ?_;rintro e w31 hh;clear HHT a0 a1 a2 a3 a4 a5 p0 p1 p2 p3 q0 q1 q2 q3;have hbb:(is2 != is2)=false:=by cases is2 <;> rfl
     cases o with
     | none =>
      obtain⟨rfl,e31⟩:=hh;unfold nilRat;go_upto_region 29 with (fail);refine boxes1 ?_;intro w32 e32 hsz32 BH;have E32:=e31.trans e32;replace hEr:=hEr.trans E32;replace BM:=(E32).block BM;replace BD:=(E32).block BD
      have hPb0:ArV N w32 (da ++ db) 0 (raw (p 0)):=by
       have h:=(HDA.out.ext E32).pt 0 (by omega);exact h.shift (cs':=da ++ db) (o:=0) (i:=0) (by omega) (fun k hk=>by rw [Nat.zero_add,Array.getElem?_append_left (by rw [ZDA.out]; exact hk)])
      have hPb1:ArV N w32 (da ++ db) 4 (raw (p 1)):=by
       have h:=(HDA.out.ext E32).pt 1 (by omega);exact h.shift (cs':=da ++ db) (o:=0) (i:=1) (by omega) (fun k hk=>by rw [Nat.zero_add,Array.getElem?_append_left (by rw [ZDA.out]; exact hk)])
      obtain⟨Ap,np,cp,A'p,n'p,c'p,p0,p1,p2,p3,hRp⟩:=(hPb0.at4 BD).val;obtain⟨Aq,nq,cq,A'q,n'q,c'q,q0,q1,q2,q3,hRq⟩:=(hPb1.at4 BD).val;obtain⟨a0,a1,a2,a3,a4,a5⟩:=cells_g BM;have HH2:=o_Height (K:=60) (HGR.out.ext E32) HHC.out (pl_of hRp hRq) (by have:=hEr.size; omega) (HSP.out.ka 0 (by omega)) (HSP.out.ka 1 (by omega)) (by omega) (HSP.out.ba 0 (by omega)) (HSP.out.ba 1 (by omega));clear hPb0 hPb1;rw [HHG.out] at HH2;have HH2':=Lib.hid HH2;clear HH2 BH hsz32;go_wp2_with (go_at_call 12; refine Hid.out ?_);refine (HH2'.out).mono ?_;rintro e w41 hh;clear HH2' a0 a1 a2 a3 a4 a5 p0 p1 p2 p3 q0 q1 q2 q3;obtain⟨rfl,e41⟩:=hh;unfold nilRat;go_upto_region 30 with (fail);refine boxes1 ?_;intro w42 e42 hsz42 BH;clear BH hsz42;replace hEr:=hEr.trans (e41.trans e42);go_upto_region 32 with (fail);refine regI [Mn.eq (.int .i64 15),Mn.eq (.bool true),Mn.eq (.bool true),Mn.eq undef,Mn.eq undef,Mn.eq undef,Mn.eq undef,Mn.eq undef,Mn.eq undef,Mn.eq (.bool true),Mn.eq (.bool true)] [some 189,some 190,some 191,some 192,some 193,some 194,some 195,some 196,some 197,some 198,some 6] [] [true,true,true,true,true,true,true,true,true,true,true] 0 (by kernel_rfl) ?_ ?_
      ·show ∀ i,i < 11→_
       iterate 11 refine fs ?_ ?_
       ·exact fz
       all_goals intro hl
       all_goals clear hl
       all_goals refine stp rfl ?_
       all_goals intro ac wi eI hB hA K hK
       have o21:=oOf (hB 21 (by kernel_rfl)) rfl
       rotate_left
       obtain⟨_,s189,rfl⟩:=hA 0 (by kernel_rfl) 189 rfl
       rotate_left
       obtain⟨_,s190,rfl⟩:=hA 1 (by kernel_rfl) 190 rfl
       rotate_left
       obtain⟨_,s191,rfl⟩:=hA 2 (by kernel_rfl) 191 rfl;clear hB hA;rw [if_neg (by simp [Region.wanted,yielded,s191,undef])];exact hK.out _ _ (Ext.refl _) rfl;obtain⟨_,s191,rfl⟩:=hA 2 (by kernel_rfl) 191 rfl;clear hB hA;rw [if_neg (by simp [Region.wanted,yielded,s191,undef])];exact hK.out _ _ (Ext.refl _) rfl;obtain⟨_,s191,rfl⟩:=hA 2 (by kernel_rfl) 191 rfl;clear hB hA;rw [if_neg (by simp [Region.wanted,yielded,s191,undef])];exact hK.out _ _ (Ext.refl _) rfl;obtain⟨_,s191,rfl⟩:=hA 2 (by kernel_rfl) 191 rfl;clear hB hA;rw [if_neg (by simp [Region.wanted,yielded,s191,undef])];exact hK.out _ _ (Ext.refl _) rfl;obtain⟨_,s191,rfl⟩:=hA 2 (by kernel_rfl) 191 rfl;clear hB hA;rw [if_neg (by simp [Region.wanted,yielded,s191,undef])];exact hK.out _ _ (Ext.refl _) rfl;obtain⟨_,s191,rfl⟩:=hA 2 (by kernel_rfl) 191 rfl;clear hB hA;rw [if_neg (by simp [Region.wanted,yielded,s191,undef])];exact hK.out _ _ (Ext.refl _) rfl;obtain⟨_,s191,rfl⟩:=hA 2 (by kernel_rfl) 191 rfl;obtain⟨_,s197,rfl⟩:=hA 8 (by kernel_rfl) 197 rfl
       rotate_left
       obtain⟨_,s198,rfl⟩:=hA 9 (by kernel_rfl) 198 rfl
       rotate_left
       all_goals clear hB hA
       all_goals go_simp
       all_goals exact hK.out _ _ (Ext.refl _) rfl
      intro vals wz eZ hJ;have J6:vals 10=_:=hJ 10 (by decide) (by decide);clear hJ;simp only [pr,Nat.reduceAdd,J6];clear J6;refine stepL_done (by kernel_rfl) ?_ _;go_wp2;go_ret;exact⟨rfl,hEr.trans eZ⟩
     | some q =>
      obtain⟨v,rfl,hv,e31⟩:=hh;obtain⟨bu,Au,ku,cu,Au',ku',cu',rfl,-,-,-⟩:=hv.parts;go_upto_region 29 with (fail);refine boxes1 ?_;intro w32 e32 hsz32 BH;obtain⟨gU,hgU⟩:∃ gU,gU=w31.heap.size:=⟨_,rfl⟩
      have BU:w32.heap[gU]?=some (.cells #[.bool bu,.slice Au ku cu,.bool false,.slice Au' ku' cu'] 29 (0,0)):=by rw [hgU]; exact BH
      rw [←hgU];have E32:=e31.trans e32;replace hv:=hv.ext e32;replace hEr:=hEr.trans E32;replace BM:=(E32).block BM;replace BD:=(E32).block BD
      have hPb0:ArV N w32 (da ++ db) 0 (raw (p 0)):=by
       have h:=(HDA.out.ext E32).pt 0 (by omega);exact h.shift (cs':=da ++ db) (o:=0) (i:=0) (by omega) (fun k hk=>by rw [Nat.zero_add,Array.getElem?_append_left (by rw [ZDA.out]; exact hk)])
      have hPb1:ArV N w32 (da ++ db) 4 (raw (p 1)):=by
       have h:=(HDA.out.ext E32).pt 1 (by omega);exact h.shift (cs':=da ++ db) (o:=0) (i:=1) (by omega) (fun k hk=>by rw [Nat.zero_add,Array.getElem?_append_left (by rw [ZDA.out]; exact hk)])
      obtain⟨Ap,np,cp,A'p,n'p,c'p,p0,p1,p2,p3,hRp⟩:=(hPb0.at4 BD).val;obtain⟨Aq,nq,cq,A'q,n'q,c'q,q0,q1,q2,q3,hRq⟩:=(hPb1.at4 BD).val;obtain⟨a0,a1,a2,a3,a4,a5⟩:=cells_g BM;have HH2:=o_Height (K:=60) (HGR.out.ext E32) HHC.out (pl_of hRp hRq) (by have:=hEr.size; omega) (HSP.out.ka 0 (by omega)) (HSP.out.ka 1 (by omega)) (by omega) (HSP.out.ba 0 (by omega)) (HSP.out.ba 1 (by omega));clear hPb0 hPb1;rw [HHG.out] at HH2;have HH2':=Lib.hid HH2;clear HH2 BH hsz32 hgU;go_wp2_with (go_at_call 12; refine Hid.out ?_);refine (HH2'.out).mono ?_;rintro e w41 hh;clear HH2' a0 a1 a2 a3 a4 a5 p0 p1 p2 p3 q0 q1 q2 q3;obtain⟨v',rfl,hv',e41⟩:=hh;obtain⟨by',Ay,ky,cy,Ay',ky',cy',rfl,-,-,-⟩:=hv'.parts;go_upto_region 30 with (fail);refine boxes1 ?_;intro w42 e42 hsz42 BH;obtain⟨gY,hgY⟩:∃ gY,gY=w41.heap.size:=⟨_,rfl⟩
      have BY:w42.heap[gY]?=some (.cells #[.bool by',.slice Ay ky cy,.bool false,.slice Ay' ky' cy'] 29 (0,0)):=by rw [hgY]; exact BH
      rw [←hgY];have E42:=e41.trans e42;replace hEr:=hEr.trans E42;have hRp:=hv.ext E42;have hRr:=hv'.ext e42;have hPz:=HPD.out 2 (by omega);rw [HD2.out] at hPz;obtain⟨As,ns,cs9,A's,n's,c's,s0,s1,s2,s3,hRs⟩:=((hPz.ext (E32.trans E42)).at4 ((E32.trans E42).block BD3)).val;obtain⟨p0,p1,p2,p3,-⟩:=cells4 (E42.block BU);obtain⟨r0,r1,r2,r3,-⟩:=cells4 BY;have HQ:=Lib.hid (HOH.out q rfl);have HSQ:Hid (Sz q):=HQ.out.sz (by omega);have HSZ:Hid (Sz ((z:Int):Rat)):=(ht_small (by omega)).sz (by omega);have HSS:Hid (Sz (q+((z:Int):Rat))):=(HQ.out.add (ht_small (n:=z) (by omega))).sz (by omega);clear BH hsz42 hgY hPz BU BY;go_upto_region 32 with (fail);refine regI [Mn.eq (.int .i64 0),Mn.eq (.bool false),Mn.eq (.bool false),Mn.rat N (q),Mn.eq (.pointer (some ⟨gD,8,none⟩)),Mn.rat N (((z:Int):Rat)),Mn.rat N (q+((z:Int):Rat)),Mn.rat N (q+((z:Int):Rat)),Mn.eq (.bool true),Mn.eq (.bool true),Mn.eq (.bool true)] [some 189,some 190,some 191,some 192,some 193,some 194,some 195,some 196,some 197,some 198,some 6] [] [true,true,true,true,true,true,true,true,true,true,true] 0 (by kernel_rfl) ?_ ?_
      ·show ∀ i,i < 11→_
       iterate 11 refine fs ?_ ?_
       ·exact fz
       all_goals intro hl
       all_goals clear hl
       all_goals refine stp rfl ?_
       all_goals intro ac wi eI hB hA K hK
       have o21:=oOf (hB 21 (by kernel_rfl)) rfl
       rotate_left
       obtain⟨_,s189,rfl⟩:=hA 0 (by kernel_rfl) 189 rfl
       rotate_left
       obtain⟨_,s190,rfl⟩:=hA 1 (by kernel_rfl) 190 rfl
       rotate_left
       obtain⟨_,s191,rfl⟩:=hA 2 (by kernel_rfl) 191 rfl;have o20:=oOf (hB 20 (by kernel_rfl)) rfl;clear hB hA;rw [if_pos (by simp [Region.wanted,yielded,s191])];have cc0:=eI.cell p0;have cc1:=eI.cell p1;have cc2:=eI.cell p2;have cc3:=eI.cell p3
       ·go_simp;exact hK.out _ _ (Ext.refl _) (hRp.ext eI)
       obtain⟨_,s191,rfl⟩:=hA 2 (by kernel_rfl) 191 rfl;have o10:=oOf (hB 10 (by kernel_rfl)) rfl;rw [if_pos (by simp [Region.wanted,yielded,s191])]
       rotate_left
       obtain⟨_,s191,rfl⟩:=hA 2 (by kernel_rfl) 191 rfl;obtain⟨_,s193,rfl⟩:=hA 4 (by kernel_rfl) 193 rfl;clear hB hA;rw [if_pos (by simp [Region.wanted,yielded,s191])];have cc0:=eI.cell s0;have cc1:=eI.cell s1;have cc2:=eI.cell s2;have cc3:=eI.cell s3
       ·go_simp;exact hK.out _ _ (Ext.refl _) (hRs.ext eI)
       obtain⟨_,s191,rfl⟩:=hA 2 (by kernel_rfl) 191 rfl;obtain⟨x192,s192,j192⟩:=hA 3 (by kernel_rfl) 192 rfl;replace j192:Mn.p (Mn.rat N (q)) x192 wi:=j192;obtain⟨x194,s194,j194⟩:=hA 5 (by kernel_rfl) 194 rfl;replace j194:Mn.p (Mn.rat N (((z:Int):Rat))) x194 wi:=j194;clear hB hA;rw [if_pos (by simp [Region.wanted,yielded,s191])]
       ·go_simp;refine (r2_add j192 j194 HSQ.out HSZ.out).mono ?_;rintro e wj ⟨vj,rfl,hj,ej⟩;go_wp2_with fail;exact hK.out _ _ ej hj
       obtain⟨_,s191,rfl⟩:=hA 2 (by kernel_rfl) 191 rfl;have o22:=oOf (hB 22 (by kernel_rfl)) rfl;clear hB hA;rw [if_pos (by simp [Region.wanted,yielded,s191])];have cc0:=eI.cell r0;have cc1:=eI.cell r1;have cc2:=eI.cell r2;have cc3:=eI.cell r3
       ·go_simp;exact hK.out _ _ (Ext.refl _) (hRr.ext eI)
       obtain⟨_,s191,rfl⟩:=hA 2 (by kernel_rfl) 191 rfl;obtain⟨x195,s195,j195⟩:=hA 6 (by kernel_rfl) 195 rfl;replace j195:Mn.p (Mn.rat N (q+((z:Int):Rat))) x195 wi:=j195;obtain⟨x196,s196,j196⟩:=hA 7 (by kernel_rfl) 196 rfl;replace j196:Mn.p (Mn.rat N (q+((z:Int):Rat))) x196 wi:=j196;clear hB hA;rw [if_pos (by simp [Region.wanted,yielded,s191])]
       ·go_simp;refine (r2_same j195 j196 HSS.out rfl).mono ?_;rintro e wj ⟨rfl,ej⟩;go_wp2_with fail;exact hK.out _ _ ej rfl
       obtain⟨_,s191,rfl⟩:=hA 2 (by kernel_rfl) 191 rfl;obtain⟨_,s197,rfl⟩:=hA 8 (by kernel_rfl) 197 rfl
       rotate_left
       obtain⟨_,s198,rfl⟩:=hA 9 (by kernel_rfl) 198 rfl
       rotate_left
       all_goals clear hB hA
       all_goals go_simp
       all_goals exact hK.out _ _ (Ext.refl _) rfl
      intro vals wz eZ hJ;have J6:vals 10=_:=hJ 10 (by decide) (by decide);clear hJ;simp only [pr,Nat.reduceAdd,J6];clear J6;refine stepL_done (by kernel_rfl) ?_ _;go_wp2;go_ret;exact⟨rfl,hEr.trans eZ⟩
    have hk2':(k:Int) < 2:=by omega
    obtain⟨wq,hwq⟩:∃ wq,wq=wr:=⟨wr,rfl⟩
    subst hwq;go_wp2
    go_loopw [111] (fun iv wr=>∃ i:Nat,i≤3∧iv=.int .i64 i∧EnUp N wr gN (k*3+i) p∧Chg gN (gN+1) w8 wr) (fun iv _=>3 - (intOf iv).toNat)
    case atStart=>exact⟨0,by omega,rfl,hU,hC⟩
    case round =>
     clear hU hC;obtain⟨i,hi,rfl,hU,hC⟩:=hrel
     by_cases hi3:i < 3
     case neg =>
      obtain rfl:i=3:=by omega
      have hq2:decide (((3:Nat):Int) < 3)=false:=by decide
      go_wp2;go_roundw
      case rel=>exact⟨k+1,by omega,by go_num,by rw [show (k+1)*3=k*3+3 by omega]; exact hU,hC⟩
      case measure=>simp [intOf]; omega
     have hi3':(i:Int) < 3:=by omega
     have hk2':(k:Int) < 2:=by omega
     have hEr:Ext w wr:=hC.ext hE9 (by omega);have hgr:=hU.lt;have hj:k*3+i < 6:=by omega
     obtain⟨u,hu⟩:=hid_eq (if k*3+i < 3 then a (k*3+i) else b (k*3+i - 3));have hPu:=ar6 (HA'.out.ext hEr) (HB'.out.ext hEr) (k*3+i) hj;rw [r6_raw,←hu.out,show (k*3+i)*4=k*12+i*4 by omega] at hPu;obtain⟨Ap,np,cp,A'p,n'p,c'p,p0,p1,p2,p3,hRp⟩:=(hPu.at4 (hC.blk HB1.out (.inl (by omega)))).val;have hPd:=HPT.out i hi3;rw [Nat.zero_add] at hPd;obtain⟨v,hv⟩:=hid_eq (d i);rw [←hv.out] at hPd;obtain⟨Aq,nq,cq,A'q,n'q,c'q,q0,q1,q2,q3,hRq⟩:=((hPd.chg hC (by omega)).at4 (hC.blk HBD.out (.inl (by omega)))).val
     have HPI:Hid (p (k*3+i)=u+v):=by
      rw [Hid,hp.out,hu.out,hv.out]
      show (if _ then _ else _)+d ((k*3+i) % 3)=_
      rw [show (k*3+i) % 3=i by omega]
     have HSU:Hid (Sz u):=by
      rw [Hid,hu.out]
      split
      ·exact (HSO.out.ka _ (by omega)).sz (by omega)
      ·exact (HSO.out.kb _ (by omega)).sz (by omega)
     have HSV:Hid (Sz v):=by
      rw [Hid,hv.out,hd.out];exact sp3_all (P:=Sz) ((ht_small hxs).sz (by omega)) ((ht_small hys).sz (by omega)) ((ht_small (by omega)).sz (by omega)) i
     clear hPu hPd hu hv;go_upto_region 23 with (fail);refine regI [Mn.eq (.int .i64 (k:Int)),Mn.eq (.int .i64 (i:Int)),Mn.eq (.int .i64 (k:Int)),Mn.eq (.int .i64 (i:Int)),Mn.eq (.pointer (some ⟨w.heap.size+1,k*12,none⟩)),Mn.eq (.pointer (some ⟨w.heap.size+1,k*12+i*4,none⟩)),Mn.rat N (u),Mn.eq (.int .i64 (i:Int)),Mn.eq (.pointer (some ⟨gD,i*4,none⟩)),Mn.rat N (v),Mn.rat N (u+v),Mn.eq (.pointer (some ⟨gN,k*12,none⟩)),Mn.eq (.pointer (some ⟨gN,k*12+i*4,none⟩)),Mn.any] [some 114,some 115,some 116,some 117,some 118,some 119,some 120,some 121,some 122,some 123,some 124,some 125,some 126,none] [13] [true,true,true,true,true,true,true,true,true,true,true,true,true,false] 1 (by kernel_rfl) ?_ ?_
     ·show ∀ i,i < 14→_
      iterate 14 refine fs ?_ ?_
      ·exact fz
      all_goals intro hl
      all_goals first | exact absurd hl (by decide) | skip
      all_goals clear hl
      all_goals refine stp rfl ?_
      all_goals intro ac wi eI hB hA K hK
      have o12:=oOf (hB 12 (by kernel_rfl)) rfl
      rotate_left
      have o13:=oOf (hB 13 (by kernel_rfl)) rfl
      rotate_left
      have o12:=oOf (hB 12 (by kernel_rfl)) rfl
      rotate_left
      have o13:=oOf (hB 13 (by kernel_rfl)) rfl
      rotate_left
      have o4:=oOf (hB 4 (by kernel_rfl)) rfl;obtain⟨_,s116,rfl⟩:=hA 2 (by kernel_rfl) 116 rfl
      rotate_left
      obtain⟨_,s118,rfl⟩:=hA 4 (by kernel_rfl) 118 rfl;obtain⟨_,s117,rfl⟩:=hA 3 (by kernel_rfl) 117 rfl
      rotate_left
      obtain⟨_,s119,rfl⟩:=hA 5 (by kernel_rfl) 119 rfl;clear hB hA;have cc0:=eI.cell p0;have cc1:=eI.cell p1;have cc2:=eI.cell p2;have cc3:=eI.cell p3
      ·go_simp;exact hK.out _ _ (Ext.refl _) (hRp.ext eI)
      have o13:=oOf (hB 13 (by kernel_rfl)) rfl
      rotate_left
      have o10:=oOf (hB 10 (by kernel_rfl)) rfl;obtain⟨_,s121,rfl⟩:=hA 7 (by kernel_rfl) 121 rfl
      rotate_left
      obtain⟨_,s122,rfl⟩:=hA 8 (by kernel_rfl) 122 rfl;clear hB hA;have cc0:=eI.cell q0;have cc1:=eI.cell q1;have cc2:=eI.cell q2;have cc3:=eI.cell q3
      ·go_simp;exact hK.out _ _ (Ext.refl _) (hRq.ext eI)
      obtain⟨x120,s120,j120⟩:=hA 6 (by kernel_rfl) 120 rfl;replace j120:Mn.p (Mn.rat N (u)) x120 wi:=j120;obtain⟨x123,s123,j123⟩:=hA 9 (by kernel_rfl) 123 rfl;replace j123:Mn.p (Mn.rat N (v)) x123 wi:=j123;clear hB hA
      ·go_simp;refine (r2_add j120 j123 HSU.out HSV.out).mono ?_;rintro e wj ⟨vj,rfl,hj,ej⟩;go_wp2_with fail;exact hK.out _ _ ej hj
      have o11:=oOf (hB 11 (by kernel_rfl)) rfl;obtain⟨_,s114,rfl⟩:=hA 0 (by kernel_rfl) 114 rfl
      rotate_left
      obtain⟨_,s125,rfl⟩:=hA 11 (by kernel_rfl) 125 rfl;obtain⟨_,s115,rfl⟩:=hA 1 (by kernel_rfl) 115 rfl
      rotate_left
      all_goals clear hB hA
      all_goals go_simp
      all_goals exact hK.out _ _ (Ext.refl _) rfl
     intro vals wz eZ hJ;have J124:Mn.p (Mn.rat N (u+v)) (vals 10) wz:=hJ 10 (by decide) (by decide);have J126:vals 12=_:=hJ 12 (by decide) (by decide);clear hJ;simp only [pr,Nat.reduceAdd,J126];clear J126
     generalize vals 10=z124 at J124 ⊢
     obtain⟨bz,Az,kz,cz2,Az',kz',cz2',rfl,hbz,gz1,gz2⟩:=RatV.parts J124;replace hU:=hU.ext eZ;obtain⟨u0,v0⟩:=hU.there (o:=k*12+i*4) (by omega);obtain⟨u1,v1⟩:=hU.there (o:=k*12+i*4+1) (by omega);obtain⟨u2,v2⟩:=hU.there (o:=k*12+i*4+2) (by omega);obtain⟨u3,v3⟩:=hU.there (o:=k*12+i*4+3) (by omega);have f0:=hU.frozen (k*12+i*4);have f1:=hU.frozen (k*12+i*4+1);have f2:=hU.frozen (k*12+i*4+2);have f3:=hU.frozen (k*12+i*4+3);refine stepL_late (i:=13) rfl (by kernel_rfl) (by kernel_rfl) (fun K hK=>?_);go_simp;refine hK.out _ _ ?_;clear hK K;try simp only [nr]
     refine stepL_done (by kernel_rfl) ?_ _;rw [←HPI.out] at hbz gz1 gz2;obtain⟨w9,E9,C9,S9,hU9⟩:=hU.set (o:=k*12+i*4) hj (by omega) (by omega) hbz gz1 gz2;rw [E9];go_wp2;go_roundw
     case rel=>exact⟨i+1,by omega,by go_num,hU9,(hC.trans (eZ.chg _ _)).trans C9⟩
     case measure=>simp [intOf]; omega
  have hin':(i:Int) < G.n:=by omega
  have l5':=hC.cell l5 (.inl (by show gL < gz; omega));have b2':=hC.cell b2 (.inl (by show w.heap.size+1+1 < gz; omega));have hz0':=hB.cell hin;rw [show mixI f G.z i i=G.z i from if_neg (by omega)] at hz0';obtain⟨zi,hzi⟩:=hid_eq (G.z i);rw [←hzi.out] at hz0';have hfi:Hid (f i=upZ zi z):=by rw [Hid,hf.out,hzi.out]
  have hzr:=HZR.out i hin;rw [←hzi.out] at hzr;have HBZ:=Lib.hid hB;have HC9:=Lib.hid hC;clear hB hC
  by_cases h1:zi=noneZ
  ·have t1:(zi != -2147483648)=false:=by unfold noneZ at h1; simpa using h1
   have HS:Hid (IzB wr gz cz G.n (mixI f G.z (i+1))):=HBZ.out.congr (fun j _=>mix_step (z':=mixI f G.z i) (fun _ _=>rfl) (by
    show (if i < i then f i else G.z i)=f i
    rw [if_neg (Nat.lt_irrefl _),←hzi.out,hfi.out];unfold upZ
    rw [if_pos h1,h1]) j)
   clear h1 hzr;go_upto_region 12 with (fail);clear t1 hz0' l5' b2';go_wp2;go_roundw
   case rel=>exact⟨i+1,by omega,by go_num,HS.out,HC9.out⟩
   case measure=>simp [intOf]; omega
  ·have t1:(zi != -2147483648)=true:=by unfold noneZ at h1; simpa using h1
   have hzb : -1048576≤zi∧zi≤1048576:=by rcases hzr with h | h; exact absurd h h1; exact h
   have hw7:IntKind.i64.wrap (zi+z)=zi+z:=w64 (by omega) (by omega);have hfz:=HBZ.out.frozen i
   have HV:Hid (zi+z=f i):=by
    rw [Hid,hfi.out];unfold upZ;rw [if_neg h1]
   clear h1 hzr;go_upto_region 12 with (fail);obtain⟨w18,E18,U18,hB18⟩:=HBZ.out.set hin (zi+z);rw [E18];have C18:=HC9.out.trans (U18.chg HBZ.out.noU);clear l5' hz0' b2' hfz t1 E18 U18;go_wp2;go_roundw
   case rel=>exact⟨i+1,by omega,by go_num,hB18.congr (fun j _=>mix_set (y:=mixI f G.z i) (fun _ _=>rfl) HV.out j),C18⟩
   case measure=>simp [intOf]; omega
end Go.Proofs.YtphpkhoeplcedaaGreat
set_option maxRecDepth 100000
namespace Go.Proofs.YtphpkhoeplcedaaGreat
open Go.ChangeShapes Go.WideShapes Go.ChangeAt Go.RowKit Go.Joins
theorem cells_pt3:Tryz.prog.cellsOf 43=12:=by kernel_rfl
theorem cells_ends:Tryz.prog.cellsOf 44=24:=by kernel_rfl
theorem und_pt3:Tryz.prog.underlying 43=some (.array 3 29):=by kernel_rfl
theorem und_ends:Tryz.prog.underlying 44=some (.array 2 43):=by kernel_rfl
theorem mapM_each {α β:Type} {f:α→Option β}:∀ {l:List α} {ys:List β},l.mapM f=some ys→∀ x,x∈l→∃ y,f x=some y
 | [],_,_,_,hx=>by cases hx
 | a :: l,ys,h,x,hx=>by
  rw [List.mapM_cons] at h;simp only [bind,Option.bind_eq_some_iff,pure,Option.some.injEq] at h;obtain⟨y,h0,ys',h1,-⟩:=h
  rcases List.mem_cons.1 hx with rfl | hx
  ·exact⟨y,h0⟩
  ·exact mapM_each h1 x hx
section
variable {H:Type} {enc:TypeId×Value→H} {w:World} {spare:Nat→Bool} {held:Bool}
theorem trod_array {base:Nat} {n fuel:Nat} {k e:TypeId} {cs:List Value} {x:DataW H×List MemPlace} (hu:Tryz.prog.underlying k=some (.array n e)) (h:DataW.trod enc Tryz.prog w base spare held fuel k cs=some x) :
  cs.length=Tryz.prog.cellsOf k∧∃ f,∀ i,i < n→∃ y,DataW.trod enc Tryz.prog w base spare held f e ((cs.drop (i*Tryz.prog.cellsOf e)).take (Tryz.prog.cellsOf e))=some y:=by
 cases fuel with
 | zero=>simp [DataW.trod] at h
 | succ f =>
  rw [DataW.trod_step] at h;unfold DataW.trodStep at h;simp only [hu] at h
  split at h
  ·rename_i hl
   simp only [Option.map_eq_some_iff] at h;obtain⟨xs,hx,-⟩:=h;exact⟨hl,f,fun i hi=>mapM_each hx i (List.mem_range.2 hi)⟩
  ·cases h
theorem four_of {l:List Value} (h:l.length=12) {i:Nat} (hi:i < 3):∃ c0 c1 c2 c3,(l.drop (i*4)).take 4=[c0,c1,c2,c3]∧l[i*4]?=some c0∧l[i*4+1]?=some c1∧l[i*4+2]?=some c2∧l[i*4+3]?=some c3:=by
 match l,h with
 | [x0,x1,x2,x3,x4,x5,x6,x7,x8,x9,xa,xb],_ =>
  have hi':i=0∨i=1∨i=2:=by omega
  rcases hi' with rfl | rfl | rfl
  ·exact⟨_,_,_,_,rfl,rfl,rfl,rfl,rfl⟩
  ·exact⟨_,_,_,_,rfl,rfl,rfl,rfl,rfl⟩
  ·exact⟨_,_,_,_,rfl,rfl,rfl,rfl,rfl⟩
theorem pts_of_trod {fuel:Nat} {cs:List Value} {x:DataW H×List MemPlace} (h:DataW.trod enc Tryz.prog w 0 spare held fuel 43 cs=some x):∃ R:Nat→Raw,PtA w.heap.size w cs.toArray R:=by
 obtain⟨hl,f,hx⟩:=trod_array und_pt3 h;rw [cells_pt3] at hl
 have each:∀ i,i < 3→∃ R,ArV w.heap.size w cs.toArray (0+i*4) R:=by
  intro i hi;obtain⟨y,hy⟩:=hx i hi;obtain⟨c0,c1,c2,c3,e,k0,k1,k2,k3⟩:=four_of hl hi;rw [cells_rat,e] at hy;obtain⟨R,rfl,rfl,g1,g2⟩:=rat_of_trod hy;rw [Nat.zero_add];exact⟨R,c1,c3,by rw [List.getElem?_toArray]; exact k0,by rw [List.getElem?_toArray]; exact k1,by rw [List.getElem?_toArray]; exact k2,by rw [List.getElem?_toArray]; exact k3,g1,g2⟩
 obtain⟨R,hR⟩:=Go.Deep.choose_lt (α:=Raw) each;refine⟨R,hR,by simpa using hl,one_get.2 fun k v hv=>?_⟩
 have hk:k < 12:=by
  rcases Nat.lt_or_ge k 12 with h9 | h9
  ·exact h9
  ·rw [Array.getElem?_eq_none (by simpa [hl] using h9)] at hv; cases hv
 obtain⟨s,t,h1,h2,h3,h4,h5,h6⟩:=hR (k / 4) (by omega);rw [Nat.zero_add] at h1 h2 h3 h4;have hk4:k=k / 4*4∨k=k / 4*4+1∨k=k / 4*4+2∨k=k / 4*4+3:=by omega
 rcases hk4 with e | e | e | e
 ·rw [e,h1] at hv; injection hv with hv; rw [←hv]; rfl
 ·rw [e,h2] at hv; injection hv with hv; rw [←hv]; exact ar_one h5
 ·rw [e,h3] at hv; injection hv with hv; rw [←hv]; rfl
 ·rw [e,h4] at hv; injection hv with hv; rw [←hv]; exact ar_one h6
theorem ends_open {r:Reach} {b0:Nat} {v:Value} {d:DataW H} {p:List MemPlace} (hv:Value.okWide Tryz.prog w r b0 44 v) (h:DataW.Trod enc Tryz.prog w 0 spare held 44 v d p):∃ ca cb Ra Rb,v=.agg (ca ++ cb)∧PtA w.heap.size w ca Ra∧PtA w.heap.size w cb Rb:=by
 simp only [Value.okWide,und_ends] at hv;obtain⟨cs,rfl,hsz,-⟩:=hv;obtain⟨fuel,hf⟩:=h;obtain⟨hl,f,hx⟩:=trod_array und_ends hf;rw [cells_ends] at hl;rw [cells_pt3] at hx;simp only [Value.cells] at hl hx;obtain⟨y0,h0⟩:=hx 0 (by omega);obtain⟨y1,h1⟩:=hx 1 (by omega);obtain⟨Ra,ha⟩:=pts_of_trod h0;obtain⟨Rb,hb⟩:=pts_of_trod h1;refine⟨_,_,Ra,Rb,?_,ha,hb⟩
 congr 1
 rw [List.append_toArray]
 have e:(cs.toList.drop (0*12)).take 12 ++ (cs.toList.drop (1*12)).take 12=cs.toList:=by
  rw [Nat.zero_mul,List.drop_zero,Nat.one_mul,List.take_of_length_le (l:=cs.toList.drop 12) (by rw [List.length_drop]; omega),List.take_append_drop]
 rw [e,Array.toArray_toList]
end
end Go.Proofs.YtphpkhoeplcedaaGreat
set_option maxRecDepth 100000
namespace Go.Proofs.YtphpkhoeplcedaaGreat
open Go.ChangeShapes Go.WideShapes Go.ChangeAt Go.RowKit Go.Joins
theorem lit_i8 {z:Int} (h:(Lit.int .i8 z).wf=true) : -128≤z∧z≤127:=by
 simp only [Lit.wf,Bool.and_eq_true,decide_eq_true_eq] at h;exact h
theorem cells_i8:Tryz.prog.cellsOf 56=1:=by kernel_rfl
theorem cells_i8s:Tryz.prog.cellsOf 57=3:=by kernel_rfl
theorem und_i8s:Tryz.prog.underlying 57=some (.array 3 56):=by kernel_rfl
section
variable {H:Type} {enc:TypeId×Value→H} {w:World} {spare:Nat→Bool} {held:Bool}
theorem i8_open {r:Reach} {b0:Nat} {v:Value} {d:DataW H} {p:List MemPlace} (hv:Value.okWide Tryz.prog w r b0 57 v) (h:DataW.Trod enc Tryz.prog w 0 spare held 57 v d p):∃ x y z:Int,v=.agg #[.int .i8 x,.int .i8 y,.int .i8 z]∧(-128≤x∧x≤127)∧(-128≤y∧y≤127)∧(-128≤z∧z≤127):=by
 simp only [Value.okWide,und_i8s] at hv;obtain⟨cs,rfl,hsz,-⟩:=hv;obtain⟨fuel,hf⟩:=h;obtain⟨hl,f,hx⟩:=trod_array und_i8s hf;rw [cells_i8s] at hsz;rw [cells_i8] at hx;obtain⟨l⟩:=cs
 match l,hsz with
 | [c0,c1,c2],_ =>
  obtain⟨y0,h0⟩:=hx 0 (by omega);obtain⟨y1,h1⟩:=hx 1 (by omega);obtain⟨y2,h2⟩:=hx 2 (by omega);obtain⟨x,e0,-,k0⟩:=DataW.trod_int Tryz.underlying56 (cs:=[c0]) h0;obtain⟨y,e1,-,k1⟩:=DataW.trod_int Tryz.underlying56 (cs:=[c1]) h1;obtain⟨z,e2,-,k2⟩:=DataW.trod_int Tryz.underlying56 (cs:=[c2]) h2;simp only [List.cons.injEq,and_true] at e0 e1 e2;subst e0 e1 e2;exact⟨x,y,z,rfl,lit_i8 k0,lit_i8 k1,lit_i8 k2⟩
end
end Go.Proofs.YtphpkhoeplcedaaGreat
