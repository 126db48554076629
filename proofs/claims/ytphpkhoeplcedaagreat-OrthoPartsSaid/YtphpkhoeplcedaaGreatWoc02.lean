import Derived.Test.YtphpkhoeplcedaaGreatWoc01
set_option linter.all false
set_option maxHeartbeats 8000000
namespace Go.Proofs.YtphpkhoeplcedaaGreat
open Go.RowKit
theorem k_part {N lo hi:Nat} {w:World} {vg:Value} {ca cb:Array Value} {G:Grd} {a b:Nat→Rat} {K:Nat} (h:GrdV N lo hi w vg G) (hg:grdCode G=0) (hok:SOk G K a b) (hcl:clrF G a b) (hN:N≤w.heap.size) (ha:PtA N w ca (fun i=>raw (a i))) (hb:PtA N w cb (fun i=>raw (b i))) (hK:K≤150:=by omega) :
  Calls Tryz.prog 20 #[vg,.agg ca,.agg cb] w (fun e w'=>∃ u,e=.returned (.tuple #[.bool true,u,.int .i64 0])∧RatV N w' u 0∧Ext w w'):=by
 refine (o_Clear h hg hok hK hN ha hb).mono ?_;rintro e w' ⟨is,v,t,rfl,hv,hk,h1,h2,e'⟩;cases is with
 | true =>
  have:=(h1 rfl).2;subst this;exact⟨v,rfl,hv,e'⟩
 | false=>exact absurd hcl (blk_not (h2 rfl))
set_option maxRecDepth 100000 in
theorem l49_parts {N lo hi k:Nat} {w:World} {vg vc:Value} {ca cb:Array Value} {G:Grd} {Ra Rb:Nat→Raw} {ch:Nat→Int} (h:GrdV N lo hi w vg G) (ha:PtA N w ca Ra) (hb:PtA N w cb Rb) (hch:U8V w vc k ch) (hN:N≤w.heap.size) :
  Calls Tryz.prog 5 #[vg,.agg (ca ++ cb),vc] w (RetV w (.bool true)):=by
 obtain⟨A,c,rfl,hnc,hcm,hz⟩:=h.parts;obtain⟨⟨Ac,cc,rfl,hkc,hcc,hcz⟩,hcr⟩:=hch;have HG:=Lib.hid h;have HIZ:=Lib.hid hz;have HA:=Lib.hid ha;have HB:=Lib.hid hb;have HZ:=Lib.hid hcz;have HR:=Lib.hid hcr;have ZA:=Lib.hid ha.size;have ZB:=Lib.hid hb.size;have OA:=Lib.hid ha.one;have OB:=Lib.hid hb.one;clear h ha hb hz hnc hcm hcz hcr hkc hcc;go_enter Tryz.func5,Tryz.ntmps5;go_upto_region 1 with (fail);refine boxes2 ?_;intro W hE hsz B0 B1;go_wp2_with (go_at_call 10; refine Hid.out ?_);refine (l49_known).mono ?_;rintro e w1 ⟨rfl,e1⟩;replace hE:=hE.trans e1;replace B0:=e1.block B0;replace B1:=e1.block B1;have hs1:=e1.size;have hN1:N≤w1.heap.size:=by have:=hE.size; omega
 clear e1;go_upto_region 3 with (fail);obtain⟨a0,a1,a2,a3,a4,a5⟩:=cells_g B0;have HB1:=Lib.hid B1;clear B1;obtain⟨fw,hfw⟩:=hid_eq (few49 G 6 (r6 Ra Rb));cases fw with
 | false =>
  refine regI [Mn.eq (.agg #[.int .i64 G.x0,.int .i64 G.y0,.int .i64 G.st,.int .i64 G.wd,.int .i64 G.ht,.slice A G.n c]),Mn.eq (.pointer (some ⟨w.heap.size+1,0,none⟩)),Mn.eq (.agg ca),Mn.eq (.pointer (some ⟨w.heap.size+1,12,none⟩)),Mn.eq (.agg cb),Mn.gc w1.heap.size 6 (ca ++ cb).toList,Mn.eq (.bool false),Mn.eq (.bool true),Mn.eq (.bool true),Mn.eq undef,Mn.eq undef,Mn.eq undef,Mn.eq undef,Mn.eq undef,Mn.eq undef,Mn.eq undef,Mn.eq undef,Mn.eq (.bool true),Mn.eq (.bool true),Mn.eq undef,Mn.eq undef,Mn.eq undef,Mn.eq (.bool true),Mn.eq (.bool true),Mn.eq undef,Mn.eq undef,Mn.eq undef,Mn.eq (.bool true),Mn.eq (.bool true),Mn.eq undef,Mn.eq undef,Mn.eq undef,Mn.eq undef,Mn.eq (.bool true)] [some 20,some 21,some 22,some 23,some 24,some 25,some 26,some 27,some 28,some 29,some 30,some 31,some 32,some 33,some 34,some 35,some 36,some 37,some 38,some 39,some 40,some 41,some 42,some 43,some 44,some 45,some 46,some 47,some 48,some 49,some 50,some 51,some 52,some 53] [] [true,true,true,true,true,true,true,true,true,true,true,true,true,true,true,true,true,true,true,true,true,true,true,true,true,true,true,true,true,true,true,true,true,true] 0 (by kernel_rfl) ?_ ?_
  ·show ∀ i,i < 34→_
   iterate 34 refine fs ?_ ?_
   ·exact fz
   all_goals intro hl
   all_goals clear hl
   all_goals refine stp rfl ?_
   all_goals intro ac wi eI hB hA K hK
   have o3:=oOf (hB 3 (by kernel_rfl)) rfl;have cc0:=eI.cell a0;have cc1:=eI.cell a1;have cc2:=eI.cell a2;have cc3:=eI.cell a3;have cc4:=eI.cell a4;have cc5:=eI.cell a5
   rotate_left
   have o4:=oOf (hB 4 (by kernel_rfl)) rfl
   rotate_left
   obtain⟨_,s21,rfl⟩:=hA 1 (by kernel_rfl) 21 rfl;clear hB hA;have cc0:=eI.cell a0;have cc1:=eI.cell a1;have cc2:=eI.cell a2;have cc3:=eI.cell a3;have cc4:=eI.cell a4;have cc5:=eI.cell a5
   ·refine wp_load_part 43 _ rfl _ 0 (by simp [Act.eval,s21]) ca (part_l (eI.block HB1.out)) _ Tryz.underlying43 rfl (by rw [ZA.out]; exact info_pt) ?_;exact hK.out _ _ (Ext.refl _) rfl
   have o4:=oOf (hB 4 (by kernel_rfl)) rfl
   rotate_left
   obtain⟨_,s23,rfl⟩:=hA 3 (by kernel_rfl) 23 rfl;clear hB hA;have cc0:=eI.cell a0;have cc1:=eI.cell a1;have cc2:=eI.cell a2;have cc3:=eI.cell a3;have cc4:=eI.cell a4;have cc5:=eI.cell a5
   ·refine wp_load_part 43 _ rfl _ 12 (by simp [Act.eval,s23]) cb (part_r (eI.block HB1.out) ZA.out) _ Tryz.underlying43 rfl (by rw [ZB.out]; exact info_pt) ?_;exact hK.out _ _ (Ext.refl _) rfl
   obtain⟨_,s22,rfl⟩:=hA 2 (by kernel_rfl) 22 rfl;obtain⟨_,s24,rfl⟩:=hA 4 (by kernel_rfl) 24 rfl;clear hB hA
   ·go_simp;refine (l49_both ZA.out OA.out ZB.out OB.out).mono ?_;rintro e wj ⟨gj,cj,rfl,hj,ej⟩;go_wp2_with fail;exact hK.out _ _ ej ⟨gj,cj,rfl,by rw [Array.toList_append]; exact hj.mono eI.size⟩
   obtain⟨_,s20,rfl⟩:=hA 0 (by kernel_rfl) 20 rfl;obtain⟨x25,s25,j25⟩:=hA 5 (by kernel_rfl) 25 rfl;replace j25:Mn.p (Mn.gc w1.heap.size 6 (ca ++ cb).toList) x25 wi:=j25;clear hB hA
   ·go_simp;refine (l49_few (HG.out.ext (hE.trans eI)) (gc_ls j25 hN1 (ar6 (HA.out.ext (hE.trans eI)) (HB.out.ext (hE.trans eI))))).mono ?_;rw [←hfw.out];rintro e wj ⟨rfl,ej⟩;go_wp2_with fail;exact hK.out _ _ ej rfl
   obtain⟨_,s26,rfl⟩:=hA 6 (by kernel_rfl) 26 rfl
   rotate_left
   obtain⟨_,s27,rfl⟩:=hA 7 (by kernel_rfl) 27 rfl
   rotate_left
   obtain⟨_,s28,rfl⟩:=hA 8 (by kernel_rfl) 28 rfl;clear hB hA;rw [if_neg (by simp [Region.wanted,yielded,s28,undef])];exact hK.out _ _ (Ext.refl _) rfl;obtain⟨_,s28,rfl⟩:=hA 8 (by kernel_rfl) 28 rfl;clear hB hA;rw [if_neg (by simp [Region.wanted,yielded,s28,undef])];exact hK.out _ _ (Ext.refl _) rfl;obtain⟨_,s28,rfl⟩:=hA 8 (by kernel_rfl) 28 rfl;clear hB hA;rw [if_neg (by simp [Region.wanted,yielded,s28,undef])];exact hK.out _ _ (Ext.refl _) rfl;obtain⟨_,s28,rfl⟩:=hA 8 (by kernel_rfl) 28 rfl;clear hB hA;rw [if_neg (by simp [Region.wanted,yielded,s28,undef])];exact hK.out _ _ (Ext.refl _) rfl;obtain⟨_,s28,rfl⟩:=hA 8 (by kernel_rfl) 28 rfl;clear hB hA;rw [if_neg (by simp [Region.wanted,yielded,s28,undef])];exact hK.out _ _ (Ext.refl _) rfl;obtain⟨_,s28,rfl⟩:=hA 8 (by kernel_rfl) 28 rfl;clear hB hA;rw [if_neg (by simp [Region.wanted,yielded,s28,undef])];exact hK.out _ _ (Ext.refl _) rfl;obtain⟨_,s28,rfl⟩:=hA 8 (by kernel_rfl) 28 rfl;clear hB hA;rw [if_neg (by simp [Region.wanted,yielded,s28,undef])];exact hK.out _ _ (Ext.refl _) rfl;obtain⟨_,s28,rfl⟩:=hA 8 (by kernel_rfl) 28 rfl;clear hB hA;rw [if_neg (by simp [Region.wanted,yielded,s28,undef])];exact hK.out _ _ (Ext.refl _) rfl;obtain⟨_,s28,rfl⟩:=hA 8 (by kernel_rfl) 28 rfl;obtain⟨_,s36,rfl⟩:=hA 16 (by kernel_rfl) 36 rfl
   rotate_left
   obtain⟨_,s37,rfl⟩:=hA 17 (by kernel_rfl) 37 rfl
   rotate_left
   obtain⟨_,s38,rfl⟩:=hA 18 (by kernel_rfl) 38 rfl;clear hB hA;rw [if_neg (by simp [Region.wanted,yielded,s38,undef])];exact hK.out _ _ (Ext.refl _) rfl;obtain⟨_,s38,rfl⟩:=hA 18 (by kernel_rfl) 38 rfl;clear hB hA;rw [if_neg (by simp [Region.wanted,yielded,s38,undef])];exact hK.out _ _ (Ext.refl _) rfl;obtain⟨_,s38,rfl⟩:=hA 18 (by kernel_rfl) 38 rfl;clear hB hA;rw [if_neg (by simp [Region.wanted,yielded,s38,undef])];exact hK.out _ _ (Ext.refl _) rfl;obtain⟨_,s38,rfl⟩:=hA 18 (by kernel_rfl) 38 rfl;obtain⟨_,s41,rfl⟩:=hA 21 (by kernel_rfl) 41 rfl
   rotate_left
   obtain⟨_,s42,rfl⟩:=hA 22 (by kernel_rfl) 42 rfl
   rotate_left
   obtain⟨_,s43,rfl⟩:=hA 23 (by kernel_rfl) 43 rfl;clear hB hA;rw [if_neg (by simp [Region.wanted,yielded,s43,undef])];exact hK.out _ _ (Ext.refl _) rfl;obtain⟨_,s43,rfl⟩:=hA 23 (by kernel_rfl) 43 rfl;clear hB hA;rw [if_neg (by simp [Region.wanted,yielded,s43,undef])];exact hK.out _ _ (Ext.refl _) rfl;obtain⟨_,s43,rfl⟩:=hA 23 (by kernel_rfl) 43 rfl;clear hB hA;rw [if_neg (by simp [Region.wanted,yielded,s43,undef])];exact hK.out _ _ (Ext.refl _) rfl;obtain⟨_,s43,rfl⟩:=hA 23 (by kernel_rfl) 43 rfl;obtain⟨_,s46,rfl⟩:=hA 26 (by kernel_rfl) 46 rfl
   rotate_left
   obtain⟨_,s47,rfl⟩:=hA 27 (by kernel_rfl) 47 rfl
   rotate_left
   obtain⟨_,s48,rfl⟩:=hA 28 (by kernel_rfl) 48 rfl;clear hB hA;rw [if_neg (by simp [Region.wanted,yielded,s48,undef])];exact hK.out _ _ (Ext.refl _) rfl;obtain⟨_,s48,rfl⟩:=hA 28 (by kernel_rfl) 48 rfl;clear hB hA;rw [if_neg (by simp [Region.wanted,yielded,s48,undef])];exact hK.out _ _ (Ext.refl _) rfl;obtain⟨_,s48,rfl⟩:=hA 28 (by kernel_rfl) 48 rfl;clear hB hA;rw [if_neg (by simp [Region.wanted,yielded,s48,undef])];exact hK.out _ _ (Ext.refl _) rfl;obtain⟨_,s48,rfl⟩:=hA 28 (by kernel_rfl) 48 rfl;clear hB hA;rw [if_neg (by simp [Region.wanted,yielded,s48,undef])];exact hK.out _ _ (Ext.refl _) rfl;obtain⟨_,s48,rfl⟩:=hA 28 (by kernel_rfl) 48 rfl;obtain⟨_,s52,rfl⟩:=hA 32 (by kernel_rfl) 52 rfl
   rotate_left
   all_goals clear hB hA
   all_goals go_simp
   all_goals exact hK.out _ _ (Ext.refl _) rfl
  intro vals wz eZ hJ;have J53:vals 33=_:=hJ 33 (by decide) (by decide);clear hJ;simp only [pr,Nat.reduceAdd,J53];clear J53;refine stepL_done (by kernel_rfl) ?_ _;go_wp2;go_ret;exact⟨rfl,hE.trans eZ⟩
 | true =>
 obtain⟨fa,fb⟩:=r6_all (p:=fun r=>briefB r=true).1 (few49_all hfw.out.symm);have SA:Hid (∀ i,i < 3→RawSz (Ra i)):=fun i hi=>(brief_raw (fa i hi)).1
 have SB:Hid (∀ i,i < 3→RawSz (Rb i)):=fun i hi=>(brief_raw (fb i hi)).1
 have S6:Hid (∀ i,i < 6→RawSz (r6 Ra Rb i)):=r6_all.2 ⟨SA.out,SB.out⟩
 by_cases hc:chk G Ra Rb 0 Ra=0
 case neg =>
  obtain⟨r,hr⟩:=hid_eq (chk G Ra Rb 0 Ra);rw [←hr.out] at hc;have t0:(r != 0)=true:=by simpa using hc
  clear hc fa fb;refine regI [Mn.eq (.agg #[.int .i64 G.x0,.int .i64 G.y0,.int .i64 G.st,.int .i64 G.wd,.int .i64 G.ht,.slice A G.n c]),Mn.eq (.pointer (some ⟨w.heap.size+1,0,none⟩)),Mn.eq (.agg ca),Mn.eq (.pointer (some ⟨w.heap.size+1,12,none⟩)),Mn.eq (.agg cb),Mn.gc w1.heap.size 6 (ca ++ cb).toList,Mn.eq (.bool true),Mn.eq (.bool false),Mn.eq (.bool false),Mn.eq (.agg #[.int .i64 G.x0,.int .i64 G.y0,.int .i64 G.st,.int .i64 G.wd,.int .i64 G.ht,.slice A G.n c]),Mn.eq (.pointer (some ⟨w.heap.size+1,0,none⟩)),Mn.eq (.agg ca),Mn.eq (.pointer (some ⟨w.heap.size+1,12,none⟩)),Mn.eq (.agg cb),Mn.gc w1.heap.size 6 (ca ++ cb).toList,Mn.eq (.int .i64 r),Mn.eq (.bool true),Mn.eq (.bool true),Mn.eq (.bool true),Mn.eq undef,Mn.eq undef,Mn.eq undef,Mn.eq (.bool true),Mn.eq (.bool true),Mn.eq undef,Mn.eq undef,Mn.eq undef,Mn.eq (.bool true),Mn.eq (.bool true),Mn.eq undef,Mn.eq undef,Mn.eq undef,Mn.eq undef,Mn.eq (.bool true)] [some 20,some 21,some 22,some 23,some 24,some 25,some 26,some 27,some 28,some 29,some 30,some 31,some 32,some 33,some 34,some 35,some 36,some 37,some 38,some 39,some 40,some 41,some 42,some 43,some 44,some 45,some 46,some 47,some 48,some 49,some 50,some 51,some 52,some 53] [] [true,true,true,true,true,true,true,true,true,true,true,true,true,true,true,true,true,true,true,true,true,true,true,true,true,true,true,true,true,true,true,true,true,true] 0 (by kernel_rfl) ?_ ?_
  ·show ∀ i,i < 34→_
   iterate 34 refine fs ?_ ?_
   ·exact fz
   all_goals intro hl
   all_goals clear hl
   all_goals refine stp rfl ?_
   all_goals intro ac wi eI hB hA K hK
   have o3:=oOf (hB 3 (by kernel_rfl)) rfl;have cc0:=eI.cell a0;have cc1:=eI.cell a1;have cc2:=eI.cell a2;have cc3:=eI.cell a3;have cc4:=eI.cell a4;have cc5:=eI.cell a5
   rotate_left
   have o4:=oOf (hB 4 (by kernel_rfl)) rfl
   rotate_left
   obtain⟨_,s21,rfl⟩:=hA 1 (by kernel_rfl) 21 rfl;clear hB hA;have cc0:=eI.cell a0;have cc1:=eI.cell a1;have cc2:=eI.cell a2;have cc3:=eI.cell a3;have cc4:=eI.cell a4;have cc5:=eI.cell a5
   ·refine wp_load_part 43 _ rfl _ 0 (by simp [Act.eval,s21]) ca (part_l (eI.block HB1.out)) _ Tryz.underlying43 rfl (by rw [ZA.out]; exact info_pt) ?_;exact hK.out _ _ (Ext.refl _) rfl
   have o4:=oOf (hB 4 (by kernel_rfl)) rfl
   rotate_left
   obtain⟨_,s23,rfl⟩:=hA 3 (by kernel_rfl) 23 rfl;clear hB hA;have cc0:=eI.cell a0;have cc1:=eI.cell a1;have cc2:=eI.cell a2;have cc3:=eI.cell a3;have cc4:=eI.cell a4;have cc5:=eI.cell a5
   ·refine wp_load_part 43 _ rfl _ 12 (by simp [Act.eval,s23]) cb (part_r (eI.block HB1.out) ZA.out) _ Tryz.underlying43 rfl (by rw [ZB.out]; exact info_pt) ?_;exact hK.out _ _ (Ext.refl _) rfl
   obtain⟨_,s22,rfl⟩:=hA 2 (by kernel_rfl) 22 rfl;obtain⟨_,s24,rfl⟩:=hA 4 (by kernel_rfl) 24 rfl;clear hB hA
   ·go_simp;refine (l49_both ZA.out OA.out ZB.out OB.out).mono ?_;rintro e wj ⟨gj,cj,rfl,hj,ej⟩;go_wp2_with fail;exact hK.out _ _ ej ⟨gj,cj,rfl,by rw [Array.toList_append]; exact hj.mono eI.size⟩
   obtain⟨_,s20,rfl⟩:=hA 0 (by kernel_rfl) 20 rfl;obtain⟨x25,s25,j25⟩:=hA 5 (by kernel_rfl) 25 rfl;replace j25:Mn.p (Mn.gc w1.heap.size 6 (ca ++ cb).toList) x25 wi:=j25;clear hB hA
   ·go_simp;refine (l49_few (HG.out.ext (hE.trans eI)) (gc_ls j25 hN1 (ar6 (HA.out.ext (hE.trans eI)) (HB.out.ext (hE.trans eI))))).mono ?_;rw [←hfw.out];rintro e wj ⟨rfl,ej⟩;go_wp2_with fail;exact hK.out _ _ ej rfl
   obtain⟨_,s26,rfl⟩:=hA 6 (by kernel_rfl) 26 rfl
   rotate_left
   obtain⟨_,s27,rfl⟩:=hA 7 (by kernel_rfl) 27 rfl
   rotate_left
   obtain⟨_,s28,rfl⟩:=hA 8 (by kernel_rfl) 28 rfl;have o3:=oOf (hB 3 (by kernel_rfl)) rfl;rw [if_pos (by simp [Region.wanted,yielded,s28])];have cc0:=eI.cell a0;have cc1:=eI.cell a1;have cc2:=eI.cell a2;have cc3:=eI.cell a3;have cc4:=eI.cell a4;have cc5:=eI.cell a5
   rotate_left
   obtain⟨_,s28,rfl⟩:=hA 8 (by kernel_rfl) 28 rfl;have o4:=oOf (hB 4 (by kernel_rfl)) rfl;rw [if_pos (by simp [Region.wanted,yielded,s28])]
   rotate_left
   obtain⟨_,s28,rfl⟩:=hA 8 (by kernel_rfl) 28 rfl;obtain⟨_,s30,rfl⟩:=hA 10 (by kernel_rfl) 30 rfl;clear hB hA;rw [if_pos (by simp [Region.wanted,yielded,s28])];have cc0:=eI.cell a0;have cc1:=eI.cell a1;have cc2:=eI.cell a2;have cc3:=eI.cell a3;have cc4:=eI.cell a4;have cc5:=eI.cell a5
   ·refine wp_load_part 43 _ rfl _ 0 (by simp [Act.eval,s30]) ca (part_l (eI.block HB1.out)) _ Tryz.underlying43 rfl (by rw [ZA.out]; exact info_pt) ?_;exact hK.out _ _ (Ext.refl _) rfl
   obtain⟨_,s28,rfl⟩:=hA 8 (by kernel_rfl) 28 rfl;have o4:=oOf (hB 4 (by kernel_rfl)) rfl;rw [if_pos (by simp [Region.wanted,yielded,s28])]
   rotate_left
   obtain⟨_,s28,rfl⟩:=hA 8 (by kernel_rfl) 28 rfl;obtain⟨_,s32,rfl⟩:=hA 12 (by kernel_rfl) 32 rfl;clear hB hA;rw [if_pos (by simp [Region.wanted,yielded,s28])];have cc0:=eI.cell a0;have cc1:=eI.cell a1;have cc2:=eI.cell a2;have cc3:=eI.cell a3;have cc4:=eI.cell a4;have cc5:=eI.cell a5
   ·refine wp_load_part 43 _ rfl _ 12 (by simp [Act.eval,s32]) cb (part_r (eI.block HB1.out) ZA.out) _ Tryz.underlying43 rfl (by rw [ZB.out]; exact info_pt) ?_;exact hK.out _ _ (Ext.refl _) rfl
   obtain⟨_,s28,rfl⟩:=hA 8 (by kernel_rfl) 28 rfl;obtain⟨_,s31,rfl⟩:=hA 11 (by kernel_rfl) 31 rfl;obtain⟨_,s33,rfl⟩:=hA 13 (by kernel_rfl) 33 rfl;clear hB hA;rw [if_pos (by simp [Region.wanted,yielded,s28])]
   ·go_simp;refine (l49_both ZA.out OA.out ZB.out OB.out).mono ?_;rintro e wj ⟨gj,cj,rfl,hj,ej⟩;go_wp2_with fail;exact hK.out _ _ ej ⟨gj,cj,rfl,by rw [Array.toList_append]; exact hj.mono eI.size⟩
   obtain⟨_,s28,rfl⟩:=hA 8 (by kernel_rfl) 28 rfl;obtain⟨_,s29,rfl⟩:=hA 9 (by kernel_rfl) 29 rfl;obtain⟨x34,s34,j34⟩:=hA 14 (by kernel_rfl) 34 rfl;replace j34:Mn.p (Mn.gc w1.heap.size 6 (ca ++ cb).toList) x34 wi:=j34;clear hB hA;rw [if_pos (by simp [Region.wanted,yielded,s28])]
   ·go_simp;refine (l49_code (HG.out.ext (hE.trans eI)) (gc_ls j34 hN1 (ar6 (HA.out.ext (hE.trans eI)) (HB.out.ext (hE.trans eI)))) S6.out).mono ?_;rw [code_chk6 (R:=Ra),←hr.out];rintro e wj ⟨rfl,ej⟩;go_wp2_with fail;exact hK.out _ _ ej rfl
   obtain⟨_,s28,rfl⟩:=hA 8 (by kernel_rfl) 28 rfl;obtain⟨_,s35,rfl⟩:=hA 15 (by kernel_rfl) 35 rfl;rw [if_pos (by simp [Region.wanted,yielded,s28])]
   rotate_left
   obtain⟨_,s28,rfl⟩:=hA 8 (by kernel_rfl) 28 rfl;obtain⟨_,s36,rfl⟩:=hA 16 (by kernel_rfl) 36 rfl
   rotate_left
   obtain⟨_,s37,rfl⟩:=hA 17 (by kernel_rfl) 37 rfl
   rotate_left
   obtain⟨_,s38,rfl⟩:=hA 18 (by kernel_rfl) 38 rfl;clear hB hA;rw [if_neg (by simp [Region.wanted,yielded,s38,undef])];exact hK.out _ _ (Ext.refl _) rfl;obtain⟨_,s38,rfl⟩:=hA 18 (by kernel_rfl) 38 rfl;clear hB hA;rw [if_neg (by simp [Region.wanted,yielded,s38,undef])];exact hK.out _ _ (Ext.refl _) rfl;obtain⟨_,s38,rfl⟩:=hA 18 (by kernel_rfl) 38 rfl;clear hB hA;rw [if_neg (by simp [Region.wanted,yielded,s38,undef])];exact hK.out _ _ (Ext.refl _) rfl;obtain⟨_,s38,rfl⟩:=hA 18 (by kernel_rfl) 38 rfl;obtain⟨_,s41,rfl⟩:=hA 21 (by kernel_rfl) 41 rfl
   rotate_left
   obtain⟨_,s42,rfl⟩:=hA 22 (by kernel_rfl) 42 rfl
   rotate_left
   obtain⟨_,s43,rfl⟩:=hA 23 (by kernel_rfl) 43 rfl;clear hB hA;rw [if_neg (by simp [Region.wanted,yielded,s43,undef])];exact hK.out _ _ (Ext.refl _) rfl;obtain⟨_,s43,rfl⟩:=hA 23 (by kernel_rfl) 43 rfl;clear hB hA;rw [if_neg (by simp [Region.wanted,yielded,s43,undef])];exact hK.out _ _ (Ext.refl _) rfl;obtain⟨_,s43,rfl⟩:=hA 23 (by kernel_rfl) 43 rfl;clear hB hA;rw [if_neg (by simp [Region.wanted,yielded,s43,undef])];exact hK.out _ _ (Ext.refl _) rfl;obtain⟨_,s43,rfl⟩:=hA 23 (by kernel_rfl) 43 rfl;obtain⟨_,s46,rfl⟩:=hA 26 (by kernel_rfl) 46 rfl
   rotate_left
   obtain⟨_,s47,rfl⟩:=hA 27 (by kernel_rfl) 47 rfl
   rotate_left
   obtain⟨_,s48,rfl⟩:=hA 28 (by kernel_rfl) 48 rfl;clear hB hA;rw [if_neg (by simp [Region.wanted,yielded,s48,undef])];exact hK.out _ _ (Ext.refl _) rfl;obtain⟨_,s48,rfl⟩:=hA 28 (by kernel_rfl) 48 rfl;clear hB hA;rw [if_neg (by simp [Region.wanted,yielded,s48,undef])];exact hK.out _ _ (Ext.refl _) rfl;obtain⟨_,s48,rfl⟩:=hA 28 (by kernel_rfl) 48 rfl;clear hB hA;rw [if_neg (by simp [Region.wanted,yielded,s48,undef])];exact hK.out _ _ (Ext.refl _) rfl;obtain⟨_,s48,rfl⟩:=hA 28 (by kernel_rfl) 48 rfl;clear hB hA;rw [if_neg (by simp [Region.wanted,yielded,s48,undef])];exact hK.out _ _ (Ext.refl _) rfl;obtain⟨_,s48,rfl⟩:=hA 28 (by kernel_rfl) 48 rfl;obtain⟨_,s52,rfl⟩:=hA 32 (by kernel_rfl) 52 rfl
   rotate_left
   all_goals clear hB hA
   all_goals go_simp
   all_goals exact hK.out _ _ (Ext.refl _) rfl
  intro vals wz eZ hJ;have J53:vals 33=_:=hJ 33 (by decide) (by decide);clear hJ;simp only [pr,Nat.reduceAdd,J53];clear J53;refine stepL_done (by kernel_rfl) ?_ _;go_wp2;go_ret;exact⟨rfl,hE.trans eZ⟩
 have HC:=Lib.hid hc;obtain⟨hg,ka,kb,-⟩:=chk_parts hc;obtain⟨a,hra⟩:=raws_of ka;obtain⟨b,hrb⟩:=raws_of kb;have HA':Hid (PtA N w ca (fun i=>raw (a i))):=HA.out.congr hra;have HB':Hid (PtA N w cb (fun i=>raw (b i))):=HB.out.congr hrb;have HSO:Hid (SOk G 17 a b):=sok_of hg (fun i hi=>by rw [←hra i hi]; exact fa i hi) (fun i hi=>by rw [←hrb i hi]; exact fb i hi);have HGC:=Lib.hid hg;have HZR:Hid (∀ i,i < G.n→G.z i=noneZ∨(-1048576≤G.z i∧G.z i≤1048576)):=(grd_ok hg).z
 have HG9:Hid (0 < G.n∧G.n≤4096∧(G.n:Int)=G.wd*G.ht):=by
  have g9:=grd_ok hg;have h9:=g9.n;have h1:2*2≤G.wd*G.ht:=Int.mul_le_mul g9.w0 g9.h0 (by omega) (by have:=g9.w0; omega);have h2:G.wd*G.ht≤64*64:=Int.mul_le_mul g9.w1 g9.h1 (by have:=g9.h0; omega) (by omega);exact⟨by omega,by omega,h9⟩
 clear hg ka kb hra hrb fa fb hc SA SB
 by_cases hk1:k < 1
 case pos =>
  have t1:decide ((k:Int) < 1)=true:=decide_eq_true (by omega);refine regI [Mn.eq (.agg #[.int .i64 G.x0,.int .i64 G.y0,.int .i64 G.st,.int .i64 G.wd,.int .i64 G.ht,.slice A G.n c]),Mn.eq (.pointer (some ⟨w.heap.size+1,0,none⟩)),Mn.eq (.agg ca),Mn.eq (.pointer (some ⟨w.heap.size+1,12,none⟩)),Mn.eq (.agg cb),Mn.gc w1.heap.size 6 (ca ++ cb).toList,Mn.eq (.bool true),Mn.eq (.bool false),Mn.eq (.bool false),Mn.eq (.agg #[.int .i64 G.x0,.int .i64 G.y0,.int .i64 G.st,.int .i64 G.wd,.int .i64 G.ht,.slice A G.n c]),Mn.eq (.pointer (some ⟨w.heap.size+1,0,none⟩)),Mn.eq (.agg ca),Mn.eq (.pointer (some ⟨w.heap.size+1,12,none⟩)),Mn.eq (.agg cb),Mn.gc w1.heap.size 6 (ca ++ cb).toList,Mn.eq (.int .i64 0),Mn.eq (.bool false),Mn.eq (.bool false),Mn.eq (.bool false),Mn.eq (.slice Ac k cc),Mn.eq (.int .i64 (k:Int)),Mn.eq (.bool true),Mn.eq (.bool true),Mn.eq (.bool true),Mn.eq undef,Mn.eq undef,Mn.eq undef,Mn.eq (.bool true),Mn.eq (.bool true),Mn.eq undef,Mn.eq undef,Mn.eq undef,Mn.eq undef,Mn.eq (.bool true)] [some 20,some 21,some 22,some 23,some 24,some 25,some 26,some 27,some 28,some 29,some 30,some 31,some 32,some 33,some 34,some 35,some 36,some 37,some 38,some 39,some 40,some 41,some 42,some 43,some 44,some 45,some 46,some 47,some 48,some 49,some 50,some 51,some 52,some 53] [] [true,true,true,true,true,true,true,true,true,true,true,true,true,true,true,true,true,true,true,true,true,true,true,true,true,true,true,true,true,true,true,true,true,true] 0 (by kernel_rfl) ?_ ?_
  ·show ∀ i,i < 34→_
   iterate 34 refine fs ?_ ?_
   ·exact fz
   all_goals intro hl
   all_goals clear hl
   all_goals refine stp rfl ?_
   all_goals intro ac wi eI hB hA K hK
   have o3:=oOf (hB 3 (by kernel_rfl)) rfl;have cc0:=eI.cell a0;have cc1:=eI.cell a1;have cc2:=eI.cell a2;have cc3:=eI.cell a3;have cc4:=eI.cell a4;have cc5:=eI.cell a5
   rotate_left
   have o4:=oOf (hB 4 (by kernel_rfl)) rfl
   rotate_left
   obtain⟨_,s21,rfl⟩:=hA 1 (by kernel_rfl) 21 rfl;clear hB hA;have cc0:=eI.cell a0;have cc1:=eI.cell a1;have cc2:=eI.cell a2;have cc3:=eI.cell a3;have cc4:=eI.cell a4;have cc5:=eI.cell a5
   ·refine wp_load_part 43 _ rfl _ 0 (by simp [Act.eval,s21]) ca (part_l (eI.block HB1.out)) _ Tryz.underlying43 rfl (by rw [ZA.out]; exact info_pt) ?_;exact hK.out _ _ (Ext.refl _) rfl
   have o4:=oOf (hB 4 (by kernel_rfl)) rfl
   rotate_left
   obtain⟨_,s23,rfl⟩:=hA 3 (by kernel_rfl) 23 rfl;clear hB hA;have cc0:=eI.cell a0;have cc1:=eI.cell a1;have cc2:=eI.cell a2;have cc3:=eI.cell a3;have cc4:=eI.cell a4;have cc5:=eI.cell a5
   ·refine wp_load_part 43 _ rfl _ 12 (by simp [Act.eval,s23]) cb (part_r (eI.block HB1.out) ZA.out) _ Tryz.underlying43 rfl (by rw [ZB.out]; exact info_pt) ?_;exact hK.out _ _ (Ext.refl _) rfl
   obtain⟨_,s22,rfl⟩:=hA 2 (by kernel_rfl) 22 rfl;obtain⟨_,s24,rfl⟩:=hA 4 (by kernel_rfl) 24 rfl;clear hB hA
   ·go_simp;refine (l49_both ZA.out OA.out ZB.out OB.out).mono ?_;rintro e wj ⟨gj,cj,rfl,hj,ej⟩;go_wp2_with fail;exact hK.out _ _ ej ⟨gj,cj,rfl,by rw [Array.toList_append]; exact hj.mono eI.size⟩
   obtain⟨_,s20,rfl⟩:=hA 0 (by kernel_rfl) 20 rfl;obtain⟨x25,s25,j25⟩:=hA 5 (by kernel_rfl) 25 rfl;replace j25:Mn.p (Mn.gc w1.heap.size 6 (ca ++ cb).toList) x25 wi:=j25;clear hB hA
   ·go_simp;refine (l49_few (HG.out.ext (hE.trans eI)) (gc_ls j25 hN1 (ar6 (HA.out.ext (hE.trans eI)) (HB.out.ext (hE.trans eI))))).mono ?_;rw [←hfw.out];rintro e wj ⟨rfl,ej⟩;go_wp2_with fail;exact hK.out _ _ ej rfl
   obtain⟨_,s26,rfl⟩:=hA 6 (by kernel_rfl) 26 rfl
   rotate_left
   obtain⟨_,s27,rfl⟩:=hA 7 (by kernel_rfl) 27 rfl
   rotate_left
   obtain⟨_,s28,rfl⟩:=hA 8 (by kernel_rfl) 28 rfl;have o3:=oOf (hB 3 (by kernel_rfl)) rfl;rw [if_pos (by simp [Region.wanted,yielded,s28])];have cc0:=eI.cell a0;have cc1:=eI.cell a1;have cc2:=eI.cell a2;have cc3:=eI.cell a3;have cc4:=eI.cell a4;have cc5:=eI.cell a5
   rotate_left
   obtain⟨_,s28,rfl⟩:=hA 8 (by kernel_rfl) 28 rfl;have o4:=oOf (hB 4 (by kernel_rfl)) rfl;rw [if_pos (by simp [Region.wanted,yielded,s28])]
   rotate_left
   obtain⟨_,s28,rfl⟩:=hA 8 (by kernel_rfl) 28 rfl;obtain⟨_,s30,rfl⟩:=hA 10 (by kernel_rfl) 30 rfl;clear hB hA;rw [if_pos (by simp [Region.wanted,yielded,s28])];have cc0:=eI.cell a0;have cc1:=eI.cell a1;have cc2:=eI.cell a2;have cc3:=eI.cell a3;have cc4:=eI.cell a4;have cc5:=eI.cell a5
   ·refine wp_load_part 43 _ rfl _ 0 (by simp [Act.eval,s30]) ca (part_l (eI.block HB1.out)) _ Tryz.underlying43 rfl (by rw [ZA.out]; exact info_pt) ?_;exact hK.out _ _ (Ext.refl _) rfl
   obtain⟨_,s28,rfl⟩:=hA 8 (by kernel_rfl) 28 rfl;have o4:=oOf (hB 4 (by kernel_rfl)) rfl;rw [if_pos (by simp [Region.wanted,yielded,s28])]
   rotate_left
   obtain⟨_,s28,rfl⟩:=hA 8 (by kernel_rfl) 28 rfl;obtain⟨_,s32,rfl⟩:=hA 12 (by kernel_rfl) 32 rfl;clear hB hA;rw [if_pos (by simp [Region.wanted,yielded,s28])];have cc0:=eI.cell a0;have cc1:=eI.cell a1;have cc2:=eI.cell a2;have cc3:=eI.cell a3;have cc4:=eI.cell a4;have cc5:=eI.cell a5
   ·refine wp_load_part 43 _ rfl _ 12 (by simp [Act.eval,s32]) cb (part_r (eI.block HB1.out) ZA.out) _ Tryz.underlying43 rfl (by rw [ZB.out]; exact info_pt) ?_;exact hK.out _ _ (Ext.refl _) rfl
   obtain⟨_,s28,rfl⟩:=hA 8 (by kernel_rfl) 28 rfl;obtain⟨_,s31,rfl⟩:=hA 11 (by kernel_rfl) 31 rfl;obtain⟨_,s33,rfl⟩:=hA 13 (by kernel_rfl) 33 rfl;clear hB hA;rw [if_pos (by simp [Region.wanted,yielded,s28])]
   ·go_simp;refine (l49_both ZA.out OA.out ZB.out OB.out).mono ?_;rintro e wj ⟨gj,cj,rfl,hj,ej⟩;go_wp2_with fail;exact hK.out _ _ ej ⟨gj,cj,rfl,by rw [Array.toList_append]; exact hj.mono eI.size⟩
   obtain⟨_,s28,rfl⟩:=hA 8 (by kernel_rfl) 28 rfl;obtain⟨_,s29,rfl⟩:=hA 9 (by kernel_rfl) 29 rfl;obtain⟨x34,s34,j34⟩:=hA 14 (by kernel_rfl) 34 rfl;replace j34:Mn.p (Mn.gc w1.heap.size 6 (ca ++ cb).toList) x34 wi:=j34;clear hB hA;rw [if_pos (by simp [Region.wanted,yielded,s28])]
   ·go_simp;refine (l49_code (HG.out.ext (hE.trans eI)) (gc_ls j34 hN1 (ar6 (HA.out.ext (hE.trans eI)) (HB.out.ext (hE.trans eI)))) S6.out).mono ?_;rw [code_chk6 (R:=Ra),HC.out];rintro e wj ⟨rfl,ej⟩;go_wp2_with fail;exact hK.out _ _ ej rfl
   obtain⟨_,s28,rfl⟩:=hA 8 (by kernel_rfl) 28 rfl;obtain⟨_,s35,rfl⟩:=hA 15 (by kernel_rfl) 35 rfl;rw [if_pos (by simp [Region.wanted,yielded,s28])]
   rotate_left
   obtain⟨_,s28,rfl⟩:=hA 8 (by kernel_rfl) 28 rfl;obtain⟨_,s36,rfl⟩:=hA 16 (by kernel_rfl) 36 rfl
   rotate_left
   obtain⟨_,s37,rfl⟩:=hA 17 (by kernel_rfl) 37 rfl
   rotate_left
   obtain⟨_,s38,rfl⟩:=hA 18 (by kernel_rfl) 38 rfl;have o2:=oOf (hB 2 (by kernel_rfl)) rfl;rw [if_pos (by simp [Region.wanted,yielded,s38])]
   rotate_left
   obtain⟨_,s38,rfl⟩:=hA 18 (by kernel_rfl) 38 rfl;obtain⟨_,s39,rfl⟩:=hA 19 (by kernel_rfl) 39 rfl;rw [if_pos (by simp [Region.wanted,yielded,s38])]
   rotate_left
   obtain⟨_,s38,rfl⟩:=hA 18 (by kernel_rfl) 38 rfl;obtain⟨_,s40,rfl⟩:=hA 20 (by kernel_rfl) 40 rfl;rw [if_pos (by simp [Region.wanted,yielded,s38])]
   rotate_left
   obtain⟨_,s38,rfl⟩:=hA 18 (by kernel_rfl) 38 rfl;obtain⟨_,s41,rfl⟩:=hA 21 (by kernel_rfl) 41 rfl
   rotate_left
   obtain⟨_,s42,rfl⟩:=hA 22 (by kernel_rfl) 42 rfl
   rotate_left
   obtain⟨_,s43,rfl⟩:=hA 23 (by kernel_rfl) 43 rfl;clear hB hA;rw [if_neg (by simp [Region.wanted,yielded,s43,undef])];exact hK.out _ _ (Ext.refl _) rfl;obtain⟨_,s43,rfl⟩:=hA 23 (by kernel_rfl) 43 rfl;clear hB hA;rw [if_neg (by simp [Region.wanted,yielded,s43,undef])];exact hK.out _ _ (Ext.refl _) rfl;obtain⟨_,s43,rfl⟩:=hA 23 (by kernel_rfl) 43 rfl;clear hB hA;rw [if_neg (by simp [Region.wanted,yielded,s43,undef])];exact hK.out _ _ (Ext.refl _) rfl;obtain⟨_,s43,rfl⟩:=hA 23 (by kernel_rfl) 43 rfl;obtain⟨_,s46,rfl⟩:=hA 26 (by kernel_rfl) 46 rfl
   rotate_left
   obtain⟨_,s47,rfl⟩:=hA 27 (by kernel_rfl) 47 rfl
   rotate_left
   obtain⟨_,s48,rfl⟩:=hA 28 (by kernel_rfl) 48 rfl;clear hB hA;rw [if_neg (by simp [Region.wanted,yielded,s48,undef])];exact hK.out _ _ (Ext.refl _) rfl;obtain⟨_,s48,rfl⟩:=hA 28 (by kernel_rfl) 48 rfl;clear hB hA;rw [if_neg (by simp [Region.wanted,yielded,s48,undef])];exact hK.out _ _ (Ext.refl _) rfl;obtain⟨_,s48,rfl⟩:=hA 28 (by kernel_rfl) 48 rfl;clear hB hA;rw [if_neg (by simp [Region.wanted,yielded,s48,undef])];exact hK.out _ _ (Ext.refl _) rfl;obtain⟨_,s48,rfl⟩:=hA 28 (by kernel_rfl) 48 rfl;clear hB hA;rw [if_neg (by simp [Region.wanted,yielded,s48,undef])];exact hK.out _ _ (Ext.refl _) rfl;obtain⟨_,s48,rfl⟩:=hA 28 (by kernel_rfl) 48 rfl;obtain⟨_,s52,rfl⟩:=hA 32 (by kernel_rfl) 52 rfl
   rotate_left
   all_goals clear hB hA
   all_goals go_simp
   all_goals exact hK.out _ _ (Ext.refl _) rfl
  intro vals wz eZ hJ;have J53:vals 33=_:=hJ 33 (by decide) (by decide);clear hJ;simp only [pr,Nat.reduceAdd,J53];clear J53;refine stepL_done (by kernel_rfl) ?_ _;go_wp2;go_ret;exact⟨rfl,hE.trans eZ⟩
 have t1:decide ((k:Int) < 1)=false:=decide_eq_false (by omega)
 by_cases hk40:40 < k
 case pos =>
  have t2:decide (40 < (k:Int))=true:=decide_eq_true (by omega);refine regI [Mn.eq (.agg #[.int .i64 G.x0,.int .i64 G.y0,.int .i64 G.st,.int .i64 G.wd,.int .i64 G.ht,.slice A G.n c]),Mn.eq (.pointer (some ⟨w.heap.size+1,0,none⟩)),Mn.eq (.agg ca),Mn.eq (.pointer (some ⟨w.heap.size+1,12,none⟩)),Mn.eq (.agg cb),Mn.gc w1.heap.size 6 (ca ++ cb).toList,Mn.eq (.bool true),Mn.eq (.bool false),Mn.eq (.bool false),Mn.eq (.agg #[.int .i64 G.x0,.int .i64 G.y0,.int .i64 G.st,.int .i64 G.wd,.int .i64 G.ht,.slice A G.n c]),Mn.eq (.pointer (some ⟨w.heap.size+1,0,none⟩)),Mn.eq (.agg ca),Mn.eq (.pointer (some ⟨w.heap.size+1,12,none⟩)),Mn.eq (.agg cb),Mn.gc w1.heap.size 6 (ca ++ cb).toList,Mn.eq (.int .i64 0),Mn.eq (.bool false),Mn.eq (.bool false),Mn.eq (.bool false),Mn.eq (.slice Ac k cc),Mn.eq (.int .i64 (k:Int)),Mn.eq (.bool false),Mn.eq (.bool false),Mn.eq (.bool false),Mn.eq (.slice Ac k cc),Mn.eq (.int .i64 (k:Int)),Mn.eq (.bool true),Mn.eq (.bool true),Mn.eq (.bool true),Mn.eq undef,Mn.eq undef,Mn.eq undef,Mn.eq undef,Mn.eq (.bool true)] [some 20,some 21,some 22,some 23,some 24,some 25,some 26,some 27,some 28,some 29,some 30,some 31,some 32,some 33,some 34,some 35,some 36,some 37,some 38,some 39,some 40,some 41,some 42,some 43,some 44,some 45,some 46,some 47,some 48,some 49,some 50,some 51,some 52,some 53] [] [true,true,true,true,true,true,true,true,true,true,true,true,true,true,true,true,true,true,true,true,true,true,true,true,true,true,true,true,true,true,true,true,true,true] 0 (by kernel_rfl) ?_ ?_
  ·show ∀ i,i < 34→_
   iterate 34 refine fs ?_ ?_
   ·exact fz
   all_goals intro hl
   all_goals clear hl
   all_goals refine stp rfl ?_
   all_goals intro ac wi eI hB hA K hK
   have o3:=oOf (hB 3 (by kernel_rfl)) rfl;have cc0:=eI.cell a0;have cc1:=eI.cell a1;have cc2:=eI.cell a2;have cc3:=eI.cell a3;have cc4:=eI.cell a4;have cc5:=eI.cell a5
   rotate_left
   have o4:=oOf (hB 4 (by kernel_rfl)) rfl
   rotate_left
   obtain⟨_,s21,rfl⟩:=hA 1 (by kernel_rfl) 21 rfl;clear hB hA;have cc0:=eI.cell a0;have cc1:=eI.cell a1;have cc2:=eI.cell a2;have cc3:=eI.cell a3;have cc4:=eI.cell a4;have cc5:=eI.cell a5
   ·refine wp_load_part 43 _ rfl _ 0 (by simp [Act.eval,s21]) ca (part_l (eI.block HB1.out)) _ Tryz.underlying43 rfl (by rw [ZA.out]; exact info_pt) ?_;exact hK.out _ _ (Ext.refl _) rfl
   have o4:=oOf (hB 4 (by kernel_rfl)) rfl
   rotate_left
   obtain⟨_,s23,rfl⟩:=hA 3 (by kernel_rfl) 23 rfl;clear hB hA;have cc0:=eI.cell a0;have cc1:=eI.cell a1;have cc2:=eI.cell a2;have cc3:=eI.cell a3;have cc4:=eI.cell a4;have cc5:=eI.cell a5
   ·refine wp_load_part 43 _ rfl _ 12 (by simp [Act.eval,s23]) cb (part_r (eI.block HB1.out) ZA.out) _ Tryz.underlying43 rfl (by rw [ZB.out]; exact info_pt) ?_;exact hK.out _ _ (Ext.refl _) rfl
   obtain⟨_,s22,rfl⟩:=hA 2 (by kernel_rfl) 22 rfl;obtain⟨_,s24,rfl⟩:=hA 4 (by kernel_rfl) 24 rfl;clear hB hA
   ·go_simp;refine (l49_both ZA.out OA.out ZB.out OB.out).mono ?_;rintro e wj ⟨gj,cj,rfl,hj,ej⟩;go_wp2_with fail;exact hK.out _ _ ej ⟨gj,cj,rfl,by rw [Array.toList_append]; exact hj.mono eI.size⟩
   obtain⟨_,s20,rfl⟩:=hA 0 (by kernel_rfl) 20 rfl;obtain⟨x25,s25,j25⟩:=hA 5 (by kernel_rfl) 25 rfl;replace j25:Mn.p (Mn.gc w1.heap.size 6 (ca ++ cb).toList) x25 wi:=j25;clear hB hA
   ·go_simp;refine (l49_few (HG.out.ext (hE.trans eI)) (gc_ls j25 hN1 (ar6 (HA.out.ext (hE.trans eI)) (HB.out.ext (hE.trans eI))))).mono ?_;rw [←hfw.out];rintro e wj ⟨rfl,ej⟩;go_wp2_with fail;exact hK.out _ _ ej rfl
   obtain⟨_,s26,rfl⟩:=hA 6 (by kernel_rfl) 26 rfl
   rotate_left
   obtain⟨_,s27,rfl⟩:=hA 7 (by kernel_rfl) 27 rfl
   rotate_left
   obtain⟨_,s28,rfl⟩:=hA 8 (by kernel_rfl) 28 rfl;have o3:=oOf (hB 3 (by kernel_rfl)) rfl;rw [if_pos (by simp [Region.wanted,yielded,s28])];have cc0:=eI.cell a0;have cc1:=eI.cell a1;have cc2:=eI.cell a2;have cc3:=eI.cell a3;have cc4:=eI.cell a4;have cc5:=eI.cell a5
   rotate_left
   obtain⟨_,s28,rfl⟩:=hA 8 (by kernel_rfl) 28 rfl;have o4:=oOf (hB 4 (by kernel_rfl)) rfl;rw [if_pos (by simp [Region.wanted,yielded,s28])]
   rotate_left
   obtain⟨_,s28,rfl⟩:=hA 8 (by kernel_rfl) 28 rfl;obtain⟨_,s30,rfl⟩:=hA 10 (by kernel_rfl) 30 rfl;clear hB hA;rw [if_pos (by simp [Region.wanted,yielded,s28])];have cc0:=eI.cell a0;have cc1:=eI.cell a1;have cc2:=eI.cell a2;have cc3:=eI.cell a3;have cc4:=eI.cell a4;have cc5:=eI.cell a5
   ·refine wp_load_part 43 _ rfl _ 0 (by simp [Act.eval,s30]) ca (part_l (eI.block HB1.out)) _ Tryz.underlying43 rfl (by rw [ZA.out]; exact info_pt) ?_;exact hK.out _ _ (Ext.refl _) rfl
   obtain⟨_,s28,rfl⟩:=hA 8 (by kernel_rfl) 28 rfl;have o4:=oOf (hB 4 (by kernel_rfl)) rfl;rw [if_pos (by simp [Region.wanted,yielded,s28])]
   rotate_left
   obtain⟨_,s28,rfl⟩:=hA 8 (by kernel_rfl) 28 rfl;obtain⟨_,s32,rfl⟩:=hA 12 (by kernel_rfl) 32 rfl;clear hB hA;rw [if_pos (by simp [Region.wanted,yielded,s28])];have cc0:=eI.cell a0;have cc1:=eI.cell a1;have cc2:=eI.cell a2;have cc3:=eI.cell a3;have cc4:=eI.cell a4;have cc5:=eI.cell a5
   ·refine wp_load_part 43 _ rfl _ 12 (by simp [Act.eval,s32]) cb (part_r (eI.block HB1.out) ZA.out) _ Tryz.underlying43 rfl (by rw [ZB.out]; exact info_pt) ?_;exact hK.out _ _ (Ext.refl _) rfl
   obtain⟨_,s28,rfl⟩:=hA 8 (by kernel_rfl) 28 rfl;obtain⟨_,s31,rfl⟩:=hA 11 (by kernel_rfl) 31 rfl;obtain⟨_,s33,rfl⟩:=hA 13 (by kernel_rfl) 33 rfl;clear hB hA;rw [if_pos (by simp [Region.wanted,yielded,s28])]
   ·go_simp;refine (l49_both ZA.out OA.out ZB.out OB.out).mono ?_;rintro e wj ⟨gj,cj,rfl,hj,ej⟩;go_wp2_with fail;exact hK.out _ _ ej ⟨gj,cj,rfl,by rw [Array.toList_append]; exact hj.mono eI.size⟩
   obtain⟨_,s28,rfl⟩:=hA 8 (by kernel_rfl) 28 rfl;obtain⟨_,s29,rfl⟩:=hA 9 (by kernel_rfl) 29 rfl;obtain⟨x34,s34,j34⟩:=hA 14 (by kernel_rfl) 34 rfl;replace j34:Mn.p (Mn.gc w1.heap.size 6 (ca ++ cb).toList) x34 wi:=j34;clear hB hA;rw [if_pos (by simp [Region.wanted,yielded,s28])]
   ·go_simp;refine (l49_code (HG.out.ext (hE.trans eI)) (gc_ls j34 hN1 (ar6 (HA.out.ext (hE.trans eI)) (HB.out.ext (hE.trans eI)))) S6.out).mono ?_;rw [code_chk6 (R:=Ra),HC.out];rintro e wj ⟨rfl,ej⟩;go_wp2_with fail;exact hK.out _ _ ej rfl
   obtain⟨_,s28,rfl⟩:=hA 8 (by kernel_rfl) 28 rfl;obtain⟨_,s35,rfl⟩:=hA 15 (by kernel_rfl) 35 rfl;rw [if_pos (by simp [Region.wanted,yielded,s28])]
   rotate_left
   obtain⟨_,s28,rfl⟩:=hA 8 (by kernel_rfl) 28 rfl;obtain⟨_,s36,rfl⟩:=hA 16 (by kernel_rfl) 36 rfl
   rotate_left
   obtain⟨_,s37,rfl⟩:=hA 17 (by kernel_rfl) 37 rfl
   rotate_left
   obtain⟨_,s38,rfl⟩:=hA 18 (by kernel_rfl) 38 rfl;have o2:=oOf (hB 2 (by kernel_rfl)) rfl;rw [if_pos (by simp [Region.wanted,yielded,s38])]
   rotate_left
   obtain⟨_,s38,rfl⟩:=hA 18 (by kernel_rfl) 38 rfl;obtain⟨_,s39,rfl⟩:=hA 19 (by kernel_rfl) 39 rfl;rw [if_pos (by simp [Region.wanted,yielded,s38])]
   rotate_left
   obtain⟨_,s38,rfl⟩:=hA 18 (by kernel_rfl) 38 rfl;obtain⟨_,s40,rfl⟩:=hA 20 (by kernel_rfl) 40 rfl;rw [if_pos (by simp [Region.wanted,yielded,s38])]
   rotate_left
   obtain⟨_,s38,rfl⟩:=hA 18 (by kernel_rfl) 38 rfl;obtain⟨_,s41,rfl⟩:=hA 21 (by kernel_rfl) 41 rfl
   rotate_left
   obtain⟨_,s42,rfl⟩:=hA 22 (by kernel_rfl) 42 rfl
   rotate_left
   obtain⟨_,s43,rfl⟩:=hA 23 (by kernel_rfl) 43 rfl;have o2:=oOf (hB 2 (by kernel_rfl)) rfl;rw [if_pos (by simp [Region.wanted,yielded,s43])]
   rotate_left
   obtain⟨_,s43,rfl⟩:=hA 23 (by kernel_rfl) 43 rfl;obtain⟨_,s44,rfl⟩:=hA 24 (by kernel_rfl) 44 rfl;rw [if_pos (by simp [Region.wanted,yielded,s43])]
   rotate_left
   obtain⟨_,s43,rfl⟩:=hA 23 (by kernel_rfl) 43 rfl;obtain⟨_,s45,rfl⟩:=hA 25 (by kernel_rfl) 45 rfl;rw [if_pos (by simp [Region.wanted,yielded,s43])]
   rotate_left
   obtain⟨_,s43,rfl⟩:=hA 23 (by kernel_rfl) 43 rfl;obtain⟨_,s46,rfl⟩:=hA 26 (by kernel_rfl) 46 rfl
   rotate_left
   obtain⟨_,s47,rfl⟩:=hA 27 (by kernel_rfl) 47 rfl
   rotate_left
   obtain⟨_,s48,rfl⟩:=hA 28 (by kernel_rfl) 48 rfl;clear hB hA;rw [if_neg (by simp [Region.wanted,yielded,s48,undef])];exact hK.out _ _ (Ext.refl _) rfl;obtain⟨_,s48,rfl⟩:=hA 28 (by kernel_rfl) 48 rfl;clear hB hA;rw [if_neg (by simp [Region.wanted,yielded,s48,undef])];exact hK.out _ _ (Ext.refl _) rfl;obtain⟨_,s48,rfl⟩:=hA 28 (by kernel_rfl) 48 rfl;clear hB hA;rw [if_neg (by simp [Region.wanted,yielded,s48,undef])];exact hK.out _ _ (Ext.refl _) rfl;obtain⟨_,s48,rfl⟩:=hA 28 (by kernel_rfl) 48 rfl;clear hB hA;rw [if_neg (by simp [Region.wanted,yielded,s48,undef])];exact hK.out _ _ (Ext.refl _) rfl;obtain⟨_,s48,rfl⟩:=hA 28 (by kernel_rfl) 48 rfl;obtain⟨_,s52,rfl⟩:=hA 32 (by kernel_rfl) 52 rfl
   rotate_left
   all_goals clear hB hA
   all_goals go_simp
   all_goals exact hK.out _ _ (Ext.refl _) rfl
  intro vals wz eZ hJ;have J53:vals 33=_:=hJ 33 (by decide) (by decide);clear hJ;simp only [pr,Nat.reduceAdd,J53];clear J53;refine stepL_done (by kernel_rfl) ?_ _;go_wp2;go_ret;exact⟨rfl,hE.trans eZ⟩
 have t2:decide (40 < (k:Int))=false:=decide_eq_false (by omega);obtain⟨bc,oc,rfl,hcell⟩:=HZ.out (by omega);have m0:=hE.cell (hcell 0 (by omega));rw [Nat.add_zero] at m0;have hr0:=HR.out 0 (by omega);obtain⟨z0,hz0⟩:=hid_eq (ch 0);rw [←hz0.out] at m0 hr0;have HCE:=Lib.hid hcell;have hk0:0 < k:=by omega
 clear HZ hcell
 by_cases hz:z0=0
 case pos =>
  have t3:(z0 == 0)=true:=by simpa using hz
  clear hz;refine regI [Mn.eq (.agg #[.int .i64 G.x0,.int .i64 G.y0,.int .i64 G.st,.int .i64 G.wd,.int .i64 G.ht,.slice A G.n c]),Mn.eq (.pointer (some ⟨w.heap.size+1,0,none⟩)),Mn.eq (.agg ca),Mn.eq (.pointer (some ⟨w.heap.size+1,12,none⟩)),Mn.eq (.agg cb),Mn.gc w1.heap.size 6 (ca ++ cb).toList,Mn.eq (.bool true),Mn.eq (.bool false),Mn.eq (.bool false),Mn.eq (.agg #[.int .i64 G.x0,.int .i64 G.y0,.int .i64 G.st,.int .i64 G.wd,.int .i64 G.ht,.slice A G.n c]),Mn.eq (.pointer (some ⟨w.heap.size+1,0,none⟩)),Mn.eq (.agg ca),Mn.eq (.pointer (some ⟨w.heap.size+1,12,none⟩)),Mn.eq (.agg cb),Mn.gc w1.heap.size 6 (ca ++ cb).toList,Mn.eq (.int .i64 0),Mn.eq (.bool false),Mn.eq (.bool false),Mn.eq (.bool false),Mn.eq (.slice (some ⟨bc,oc,none⟩) k cc),Mn.eq (.int .i64 (k:Int)),Mn.eq (.bool false),Mn.eq (.bool false),Mn.eq (.bool false),Mn.eq (.slice (some ⟨bc,oc,none⟩) k cc),Mn.eq (.int .i64 (k:Int)),Mn.eq (.bool false),Mn.eq (.bool false),Mn.eq (.bool false),Mn.eq (.slice (some ⟨bc,oc,none⟩) k cc),Mn.eq (.pointer (some ⟨bc,oc,none⟩)),Mn.eq (.int .u8 z0),Mn.eq (.bool true),Mn.eq (.bool true)] [some 20,some 21,some 22,some 23,some 24,some 25,some 26,some 27,some 28,some 29,some 30,some 31,some 32,some 33,some 34,some 35,some 36,some 37,some 38,some 39,some 40,some 41,some 42,some 43,some 44,some 45,some 46,some 47,some 48,some 49,some 50,some 51,some 52,some 53] [] [true,true,true,true,true,true,true,true,true,true,true,true,true,true,true,true,true,true,true,true,true,true,true,true,true,true,true,true,true,true,true,true,true,true] 0 (by kernel_rfl) ?_ ?_
  ·show ∀ i,i < 34→_
   iterate 34 refine fs ?_ ?_
   ·exact fz
   all_goals intro hl
   all_goals clear hl
   all_goals refine stp rfl ?_
   all_goals intro ac wi eI hB hA K hK
   have o3:=oOf (hB 3 (by kernel_rfl)) rfl;have cc0:=eI.cell a0;have cc1:=eI.cell a1;have cc2:=eI.cell a2;have cc3:=eI.cell a3;have cc4:=eI.cell a4;have cc5:=eI.cell a5
   rotate_left
   have o4:=oOf (hB 4 (by kernel_rfl)) rfl
   rotate_left
   obtain⟨_,s21,rfl⟩:=hA 1 (by kernel_rfl) 21 rfl;clear hB hA;have cc0:=eI.cell a0;have cc1:=eI.cell a1;have cc2:=eI.cell a2;have cc3:=eI.cell a3;have cc4:=eI.cell a4;have cc5:=eI.cell a5;have cc6:=eI.cell m0
   ·refine wp_load_part 43 _ rfl _ 0 (by simp [Act.eval,s21]) ca (part_l (eI.block HB1.out)) _ Tryz.underlying43 rfl (by rw [ZA.out]; exact info_pt) ?_;exact hK.out _ _ (Ext.refl _) rfl
   have o4:=oOf (hB 4 (by kernel_rfl)) rfl
   rotate_left
   obtain⟨_,s23,rfl⟩:=hA 3 (by kernel_rfl) 23 rfl;clear hB hA;have cc0:=eI.cell a0;have cc1:=eI.cell a1;have cc2:=eI.cell a2;have cc3:=eI.cell a3;have cc4:=eI.cell a4;have cc5:=eI.cell a5;have cc6:=eI.cell m0
   ·refine wp_load_part 43 _ rfl _ 12 (by simp [Act.eval,s23]) cb (part_r (eI.block HB1.out) ZA.out) _ Tryz.underlying43 rfl (by rw [ZB.out]; exact info_pt) ?_;exact hK.out _ _ (Ext.refl _) rfl
   obtain⟨_,s22,rfl⟩:=hA 2 (by kernel_rfl) 22 rfl;obtain⟨_,s24,rfl⟩:=hA 4 (by kernel_rfl) 24 rfl;clear hB hA
   ·go_simp;refine (l49_both ZA.out OA.out ZB.out OB.out).mono ?_;rintro e wj ⟨gj,cj,rfl,hj,ej⟩;go_wp2_with fail;exact hK.out _ _ ej ⟨gj,cj,rfl,by rw [Array.toList_append]; exact hj.mono eI.size⟩
   obtain⟨_,s20,rfl⟩:=hA 0 (by kernel_rfl) 20 rfl;obtain⟨x25,s25,j25⟩:=hA 5 (by kernel_rfl) 25 rfl;replace j25:Mn.p (Mn.gc w1.heap.size 6 (ca ++ cb).toList) x25 wi:=j25;clear hB hA
   ·go_simp;refine (l49_few (HG.out.ext (hE.trans eI)) (gc_ls j25 hN1 (ar6 (HA.out.ext (hE.trans eI)) (HB.out.ext (hE.trans eI))))).mono ?_;rw [←hfw.out];rintro e wj ⟨rfl,ej⟩;go_wp2_with fail;exact hK.out _ _ ej rfl
   obtain⟨_,s26,rfl⟩:=hA 6 (by kernel_rfl) 26 rfl
   rotate_left
   obtain⟨_,s27,rfl⟩:=hA 7 (by kernel_rfl) 27 rfl
   rotate_left
   obtain⟨_,s28,rfl⟩:=hA 8 (by kernel_rfl) 28 rfl;have o3:=oOf (hB 3 (by kernel_rfl)) rfl;rw [if_pos (by simp [Region.wanted,yielded,s28])];have cc0:=eI.cell a0;have cc1:=eI.cell a1;have cc2:=eI.cell a2;have cc3:=eI.cell a3;have cc4:=eI.cell a4;have cc5:=eI.cell a5
   rotate_left
   obtain⟨_,s28,rfl⟩:=hA 8 (by kernel_rfl) 28 rfl;have o4:=oOf (hB 4 (by kernel_rfl)) rfl;rw [if_pos (by simp [Region.wanted,yielded,s28])]
   rotate_left
   obtain⟨_,s28,rfl⟩:=hA 8 (by kernel_rfl) 28 rfl;obtain⟨_,s30,rfl⟩:=hA 10 (by kernel_rfl) 30 rfl;clear hB hA;rw [if_pos (by simp [Region.wanted,yielded,s28])];have cc0:=eI.cell a0;have cc1:=eI.cell a1;have cc2:=eI.cell a2;have cc3:=eI.cell a3;have cc4:=eI.cell a4;have cc5:=eI.cell a5;have cc6:=eI.cell m0
   ·refine wp_load_part 43 _ rfl _ 0 (by simp [Act.eval,s30]) ca (part_l (eI.block HB1.out)) _ Tryz.underlying43 rfl (by rw [ZA.out]; exact info_pt) ?_;exact hK.out _ _ (Ext.refl _) rfl
   obtain⟨_,s28,rfl⟩:=hA 8 (by kernel_rfl) 28 rfl;have o4:=oOf (hB 4 (by kernel_rfl)) rfl;rw [if_pos (by simp [Region.wanted,yielded,s28])]
   rotate_left
   obtain⟨_,s28,rfl⟩:=hA 8 (by kernel_rfl) 28 rfl;obtain⟨_,s32,rfl⟩:=hA 12 (by kernel_rfl) 32 rfl;clear hB hA;rw [if_pos (by simp [Region.wanted,yielded,s28])];have cc0:=eI.cell a0;have cc1:=eI.cell a1;have cc2:=eI.cell a2;have cc3:=eI.cell a3;have cc4:=eI.cell a4;have cc5:=eI.cell a5;have cc6:=eI.cell m0
   ·refine wp_load_part 43 _ rfl _ 12 (by simp [Act.eval,s32]) cb (part_r (eI.block HB1.out) ZA.out) _ Tryz.underlying43 rfl (by rw [ZB.out]; exact info_pt) ?_;exact hK.out _ _ (Ext.refl _) rfl
   obtain⟨_,s28,rfl⟩:=hA 8 (by kernel_rfl) 28 rfl;obtain⟨_,s31,rfl⟩:=hA 11 (by kernel_rfl) 31 rfl;obtain⟨_,s33,rfl⟩:=hA 13 (by kernel_rfl) 33 rfl;clear hB hA;rw [if_pos (by simp [Region.wanted,yielded,s28])]
   ·go_simp;refine (l49_both ZA.out OA.out ZB.out OB.out).mono ?_;rintro e wj ⟨gj,cj,rfl,hj,ej⟩;go_wp2_with fail;exact hK.out _ _ ej ⟨gj,cj,rfl,by rw [Array.toList_append]; exact hj.mono eI.size⟩
   obtain⟨_,s28,rfl⟩:=hA 8 (by kernel_rfl) 28 rfl;obtain⟨_,s29,rfl⟩:=hA 9 (by kernel_rfl) 29 rfl;obtain⟨x34,s34,j34⟩:=hA 14 (by kernel_rfl) 34 rfl;replace j34:Mn.p (Mn.gc w1.heap.size 6 (ca ++ cb).toList) x34 wi:=j34;clear hB hA;rw [if_pos (by simp [Region.wanted,yielded,s28])]
   ·go_simp;refine (l49_code (HG.out.ext (hE.trans eI)) (gc_ls j34 hN1 (ar6 (HA.out.ext (hE.trans eI)) (HB.out.ext (hE.trans eI)))) S6.out).mono ?_;rw [code_chk6 (R:=Ra),HC.out];rintro e wj ⟨rfl,ej⟩;go_wp2_with fail;exact hK.out _ _ ej rfl
   obtain⟨_,s28,rfl⟩:=hA 8 (by kernel_rfl) 28 rfl;obtain⟨_,s35,rfl⟩:=hA 15 (by kernel_rfl) 35 rfl;rw [if_pos (by simp [Region.wanted,yielded,s28])]
   rotate_left
   obtain⟨_,s28,rfl⟩:=hA 8 (by kernel_rfl) 28 rfl;obtain⟨_,s36,rfl⟩:=hA 16 (by kernel_rfl) 36 rfl
   rotate_left
   obtain⟨_,s37,rfl⟩:=hA 17 (by kernel_rfl) 37 rfl
   rotate_left
   obtain⟨_,s38,rfl⟩:=hA 18 (by kernel_rfl) 38 rfl;have o2:=oOf (hB 2 (by kernel_rfl)) rfl;rw [if_pos (by simp [Region.wanted,yielded,s38])]
   rotate_left
   obtain⟨_,s38,rfl⟩:=hA 18 (by kernel_rfl) 38 rfl;obtain⟨_,s39,rfl⟩:=hA 19 (by kernel_rfl) 39 rfl;rw [if_pos (by simp [Region.wanted,yielded,s38])]
   rotate_left
   obtain⟨_,s38,rfl⟩:=hA 18 (by kernel_rfl) 38 rfl;obtain⟨_,s40,rfl⟩:=hA 20 (by kernel_rfl) 40 rfl;rw [if_pos (by simp [Region.wanted,yielded,s38])]
   rotate_left
   obtain⟨_,s38,rfl⟩:=hA 18 (by kernel_rfl) 38 rfl;obtain⟨_,s41,rfl⟩:=hA 21 (by kernel_rfl) 41 rfl
   rotate_left
   obtain⟨_,s42,rfl⟩:=hA 22 (by kernel_rfl) 42 rfl
   rotate_left
   obtain⟨_,s43,rfl⟩:=hA 23 (by kernel_rfl) 43 rfl;have o2:=oOf (hB 2 (by kernel_rfl)) rfl;rw [if_pos (by simp [Region.wanted,yielded,s43])]
   rotate_left
   obtain⟨_,s43,rfl⟩:=hA 23 (by kernel_rfl) 43 rfl;obtain⟨_,s44,rfl⟩:=hA 24 (by kernel_rfl) 44 rfl;rw [if_pos (by simp [Region.wanted,yielded,s43])]
   rotate_left
   obtain⟨_,s43,rfl⟩:=hA 23 (by kernel_rfl) 43 rfl;obtain⟨_,s45,rfl⟩:=hA 25 (by kernel_rfl) 45 rfl;rw [if_pos (by simp [Region.wanted,yielded,s43])]
   rotate_left
   obtain⟨_,s43,rfl⟩:=hA 23 (by kernel_rfl) 43 rfl;obtain⟨_,s46,rfl⟩:=hA 26 (by kernel_rfl) 46 rfl
   rotate_left
   obtain⟨_,s47,rfl⟩:=hA 27 (by kernel_rfl) 47 rfl
   rotate_left
   obtain⟨_,s48,rfl⟩:=hA 28 (by kernel_rfl) 48 rfl;have o2:=oOf (hB 2 (by kernel_rfl)) rfl;rw [if_pos (by simp [Region.wanted,yielded,s48])]
   rotate_left
   obtain⟨_,s48,rfl⟩:=hA 28 (by kernel_rfl) 48 rfl;obtain⟨_,s49,rfl⟩:=hA 29 (by kernel_rfl) 49 rfl;rw [if_pos (by simp [Region.wanted,yielded,s48])]
   rotate_left
   obtain⟨_,s48,rfl⟩:=hA 28 (by kernel_rfl) 48 rfl;obtain⟨_,s50,rfl⟩:=hA 30 (by kernel_rfl) 50 rfl;rw [if_pos (by simp [Region.wanted,yielded,s48])];have cc0:=eI.cell m0
   rotate_left
   obtain⟨_,s48,rfl⟩:=hA 28 (by kernel_rfl) 48 rfl;obtain⟨_,s51,rfl⟩:=hA 31 (by kernel_rfl) 51 rfl;rw [if_pos (by simp [Region.wanted,yielded,s48])]
   rotate_left
   obtain⟨_,s48,rfl⟩:=hA 28 (by kernel_rfl) 48 rfl;obtain⟨_,s52,rfl⟩:=hA 32 (by kernel_rfl) 52 rfl
   rotate_left
   all_goals clear hB hA
   all_goals go_simp
   all_goals exact hK.out _ _ (Ext.refl _) rfl
  intro vals wz eZ hJ;have J53:vals 33=_:=hJ 33 (by decide) (by decide);clear hJ;simp only [pr,Nat.reduceAdd,J53];clear J53;refine stepL_done (by kernel_rfl) ?_ _;go_wp2;go_ret;exact⟨rfl,hE.trans eZ⟩
 have t3:(z0 == 0)=false:=by simpa using hz
 refine regI [Mn.eq (.agg #[.int .i64 G.x0,.int .i64 G.y0,.int .i64 G.st,.int .i64 G.wd,.int .i64 G.ht,.slice A G.n c]),Mn.eq (.pointer (some ⟨w.heap.size+1,0,none⟩)),Mn.eq (.agg ca),Mn.eq (.pointer (some ⟨w.heap.size+1,12,none⟩)),Mn.eq (.agg cb),Mn.gc w1.heap.size 6 (ca ++ cb).toList,Mn.eq (.bool true),Mn.eq (.bool false),Mn.eq (.bool false),Mn.eq (.agg #[.int .i64 G.x0,.int .i64 G.y0,.int .i64 G.st,.int .i64 G.wd,.int .i64 G.ht,.slice A G.n c]),Mn.eq (.pointer (some ⟨w.heap.size+1,0,none⟩)),Mn.eq (.agg ca),Mn.eq (.pointer (some ⟨w.heap.size+1,12,none⟩)),Mn.eq (.agg cb),Mn.gc w1.heap.size 6 (ca ++ cb).toList,Mn.eq (.int .i64 0),Mn.eq (.bool false),Mn.eq (.bool false),Mn.eq (.bool false),Mn.eq (.slice (some ⟨bc,oc,none⟩) k cc),Mn.eq (.int .i64 (k:Int)),Mn.eq (.bool false),Mn.eq (.bool false),Mn.eq (.bool false),Mn.eq (.slice (some ⟨bc,oc,none⟩) k cc),Mn.eq (.int .i64 (k:Int)),Mn.eq (.bool false),Mn.eq (.bool false),Mn.eq (.bool false),Mn.eq (.slice (some ⟨bc,oc,none⟩) k cc),Mn.eq (.pointer (some ⟨bc,oc,none⟩)),Mn.eq (.int .u8 z0),Mn.eq (.bool false),Mn.eq (.bool false)] [some 20,some 21,some 22,some 23,some 24,some 25,some 26,some 27,some 28,some 29,some 30,some 31,some 32,some 33,some 34,some 35,some 36,some 37,some 38,some 39,some 40,some 41,some 42,some 43,some 44,some 45,some 46,some 47,some 48,some 49,some 50,some 51,some 52,some 53] [] [true,true,true,true,true,true,true,true,true,true,true,true,true,true,true,true,true,true,true,true,true,true,true,true,true,true,true,true,true,true,true,true,true,true] 0 (by kernel_rfl) ?_ ?_
 ·show ∀ i,i < 34→_
  iterate 34 refine fs ?_ ?_
  ·exact fz
  all_goals intro hl
  all_goals clear hl
  all_goals refine stp rfl ?_
  all_goals intro ac wi eI hB hA K hK
  have o3:=oOf (hB 3 (by kernel_rfl)) rfl;have cc0:=eI.cell a0;have cc1:=eI.cell a1;have cc2:=eI.cell a2;have cc3:=eI.cell a3;have cc4:=eI.cell a4;have cc5:=eI.cell a5
  rotate_left
  have o4:=oOf (hB 4 (by kernel_rfl)) rfl
  rotate_left
  obtain⟨_,s21,rfl⟩:=hA 1 (by kernel_rfl) 21 rfl;clear hB hA;have cc0:=eI.cell a0;have cc1:=eI.cell a1;have cc2:=eI.cell a2;have cc3:=eI.cell a3;have cc4:=eI.cell a4;have cc5:=eI.cell a5;have cc6:=eI.cell m0
  ·refine wp_load_part 43 _ rfl _ 0 (by simp [Act.eval,s21]) ca (part_l (eI.block HB1.out)) _ Tryz.underlying43 rfl (by rw [ZA.out]; exact info_pt) ?_;exact hK.out _ _ (Ext.refl _) rfl
  have o4:=oOf (hB 4 (by kernel_rfl)) rfl
  rotate_left
  obtain⟨_,s23,rfl⟩:=hA 3 (by kernel_rfl) 23 rfl;clear hB hA;have cc0:=eI.cell a0;have cc1:=eI.cell a1;have cc2:=eI.cell a2;have cc3:=eI.cell a3;have cc4:=eI.cell a4;have cc5:=eI.cell a5;have cc6:=eI.cell m0
  ·refine wp_load_part 43 _ rfl _ 12 (by simp [Act.eval,s23]) cb (part_r (eI.block HB1.out) ZA.out) _ Tryz.underlying43 rfl (by rw [ZB.out]; exact info_pt) ?_;exact hK.out _ _ (Ext.refl _) rfl
  obtain⟨_,s22,rfl⟩:=hA 2 (by kernel_rfl) 22 rfl;obtain⟨_,s24,rfl⟩:=hA 4 (by kernel_rfl) 24 rfl;clear hB hA
  ·go_simp;refine (l49_both ZA.out OA.out ZB.out OB.out).mono ?_;rintro e wj ⟨gj,cj,rfl,hj,ej⟩;go_wp2_with fail;exact hK.out _ _ ej ⟨gj,cj,rfl,by rw [Array.toList_append]; exact hj.mono eI.size⟩
  obtain⟨_,s20,rfl⟩:=hA 0 (by kernel_rfl) 20 rfl;obtain⟨x25,s25,j25⟩:=hA 5 (by kernel_rfl) 25 rfl;replace j25:Mn.p (Mn.gc w1.heap.size 6 (ca ++ cb).toList) x25 wi:=j25;clear hB hA
  ·go_simp;refine (l49_few (HG.out.ext (hE.trans eI)) (gc_ls j25 hN1 (ar6 (HA.out.ext (hE.trans eI)) (HB.out.ext (hE.trans eI))))).mono ?_;rw [←hfw.out];rintro e wj ⟨rfl,ej⟩;go_wp2_with fail;exact hK.out _ _ ej rfl
  obtain⟨_,s26,rfl⟩:=hA 6 (by kernel_rfl) 26 rfl
  rotate_left
  obtain⟨_,s27,rfl⟩:=hA 7 (by kernel_rfl) 27 rfl
  rotate_left
  obtain⟨_,s28,rfl⟩:=hA 8 (by kernel_rfl) 28 rfl;have o3:=oOf (hB 3 (by kernel_rfl)) rfl;rw [if_pos (by simp [Region.wanted,yielded,s28])];have cc0:=eI.cell a0;have cc1:=eI.cell a1;have cc2:=eI.cell a2;have cc3:=eI.cell a3;have cc4:=eI.cell a4;have cc5:=eI.cell a5
  rotate_left
  obtain⟨_,s28,rfl⟩:=hA 8 (by kernel_rfl) 28 rfl;have o4:=oOf (hB 4 (by kernel_rfl)) rfl;rw [if_pos (by simp [Region.wanted,yielded,s28])]
  rotate_left
  obtain⟨_,s28,rfl⟩:=hA 8 (by kernel_rfl) 28 rfl;obtain⟨_,s30,rfl⟩:=hA 10 (by kernel_rfl) 30 rfl;clear hB hA;rw [if_pos (by simp [Region.wanted,yielded,s28])];have cc0:=eI.cell a0;have cc1:=eI.cell a1;have cc2:=eI.cell a2;have cc3:=eI.cell a3;have cc4:=eI.cell a4;have cc5:=eI.cell a5;have cc6:=eI.cell m0
  ·refine wp_load_part 43 _ rfl _ 0 (by simp [Act.eval,s30]) ca (part_l (eI.block HB1.out)) _ Tryz.underlying43 rfl (by rw [ZA.out]; exact info_pt) ?_;exact hK.out _ _ (Ext.refl _) rfl
  obtain⟨_,s28,rfl⟩:=hA 8 (by kernel_rfl) 28 rfl;have o4:=oOf (hB 4 (by kernel_rfl)) rfl;rw [if_pos (by simp [Region.wanted,yielded,s28])]
  rotate_left
  obtain⟨_,s28,rfl⟩:=hA 8 (by kernel_rfl) 28 rfl;obtain⟨_,s32,rfl⟩:=hA 12 (by kernel_rfl) 32 rfl;clear hB hA;rw [if_pos (by simp [Region.wanted,yielded,s28])];have cc0:=eI.cell a0;have cc1:=eI.cell a1;have cc2:=eI.cell a2;have cc3:=eI.cell a3;have cc4:=eI.cell a4;have cc5:=eI.cell a5;have cc6:=eI.cell m0
  ·refine wp_load_part 43 _ rfl _ 12 (by simp [Act.eval,s32]) cb (part_r (eI.block HB1.out) ZA.out) _ Tryz.underlying43 rfl (by rw [ZB.out]; exact info_pt) ?_;exact hK.out _ _ (Ext.refl _) rfl
  obtain⟨_,s28,rfl⟩:=hA 8 (by kernel_rfl) 28 rfl;obtain⟨_,s31,rfl⟩:=hA 11 (by kernel_rfl) 31 rfl;obtain⟨_,s33,rfl⟩:=hA 13 (by kernel_rfl) 33 rfl;clear hB hA;rw [if_pos (by simp [Region.wanted,yielded,s28])]
  ·go_simp;refine (l49_both ZA.out OA.out ZB.out OB.out).mono ?_;rintro e wj ⟨gj,cj,rfl,hj,ej⟩;go_wp2_with fail;exact hK.out _ _ ej ⟨gj,cj,rfl,by rw [Array.toList_append]; exact hj.mono eI.size⟩
  obtain⟨_,s28,rfl⟩:=hA 8 (by kernel_rfl) 28 rfl;obtain⟨_,s29,rfl⟩:=hA 9 (by kernel_rfl) 29 rfl;obtain⟨x34,s34,j34⟩:=hA 14 (by kernel_rfl) 34 rfl;replace j34:Mn.p (Mn.gc w1.heap.size 6 (ca ++ cb).toList) x34 wi:=j34;clear hB hA;rw [if_pos (by simp [Region.wanted,yielded,s28])]
  ·go_simp;refine (l49_code (HG.out.ext (hE.trans eI)) (gc_ls j34 hN1 (ar6 (HA.out.ext (hE.trans eI)) (HB.out.ext (hE.trans eI)))) S6.out).mono ?_;rw [code_chk6 (R:=Ra),HC.out];rintro e wj ⟨rfl,ej⟩;go_wp2_with fail;exact hK.out _ _ ej rfl
  obtain⟨_,s28,rfl⟩:=hA 8 (by kernel_rfl) 28 rfl;obtain⟨_,s35,rfl⟩:=hA 15 (by kernel_rfl) 35 rfl;rw [if_pos (by simp [Region.wanted,yielded,s28])]
  rotate_left
  obtain⟨_,s28,rfl⟩:=hA 8 (by kernel_rfl) 28 rfl;obtain⟨_,s36,rfl⟩:=hA 16 (by kernel_rfl) 36 rfl
  rotate_left
  obtain⟨_,s37,rfl⟩:=hA 17 (by kernel_rfl) 37 rfl
  rotate_left
  obtain⟨_,s38,rfl⟩:=hA 18 (by kernel_rfl) 38 rfl;have o2:=oOf (hB 2 (by kernel_rfl)) rfl;rw [if_pos (by simp [Region.wanted,yielded,s38])]
  rotate_left
  obtain⟨_,s38,rfl⟩:=hA 18 (by kernel_rfl) 38 rfl;obtain⟨_,s39,rfl⟩:=hA 19 (by kernel_rfl) 39 rfl;rw [if_pos (by simp [Region.wanted,yielded,s38])]
  rotate_left
  obtain⟨_,s38,rfl⟩:=hA 18 (by kernel_rfl) 38 rfl;obtain⟨_,s40,rfl⟩:=hA 20 (by kernel_rfl) 40 rfl;rw [if_pos (by simp [Region.wanted,yielded,s38])]
  rotate_left
  obtain⟨_,s38,rfl⟩:=hA 18 (by kernel_rfl) 38 rfl;obtain⟨_,s41,rfl⟩:=hA 21 (by kernel_rfl) 41 rfl
  rotate_left
  obtain⟨_,s42,rfl⟩:=hA 22 (by kernel_rfl) 42 rfl
  rotate_left
  obtain⟨_,s43,rfl⟩:=hA 23 (by kernel_rfl) 43 rfl;have o2:=oOf (hB 2 (by kernel_rfl)) rfl;rw [if_pos (by simp [Region.wanted,yielded,s43])]
  rotate_left
  obtain⟨_,s43,rfl⟩:=hA 23 (by kernel_rfl) 43 rfl;obtain⟨_,s44,rfl⟩:=hA 24 (by kernel_rfl) 44 rfl;rw [if_pos (by simp [Region.wanted,yielded,s43])]
  rotate_left
  obtain⟨_,s43,rfl⟩:=hA 23 (by kernel_rfl) 43 rfl;obtain⟨_,s45,rfl⟩:=hA 25 (by kernel_rfl) 45 rfl;rw [if_pos (by simp [Region.wanted,yielded,s43])]
  rotate_left
  obtain⟨_,s43,rfl⟩:=hA 23 (by kernel_rfl) 43 rfl;obtain⟨_,s46,rfl⟩:=hA 26 (by kernel_rfl) 46 rfl
  rotate_left
  obtain⟨_,s47,rfl⟩:=hA 27 (by kernel_rfl) 47 rfl
  rotate_left
  obtain⟨_,s48,rfl⟩:=hA 28 (by kernel_rfl) 48 rfl;have o2:=oOf (hB 2 (by kernel_rfl)) rfl;rw [if_pos (by simp [Region.wanted,yielded,s48])]
  rotate_left
  obtain⟨_,s48,rfl⟩:=hA 28 (by kernel_rfl) 48 rfl;obtain⟨_,s49,rfl⟩:=hA 29 (by kernel_rfl) 49 rfl;rw [if_pos (by simp [Region.wanted,yielded,s48])]
  rotate_left
  obtain⟨_,s48,rfl⟩:=hA 28 (by kernel_rfl) 48 rfl;obtain⟨_,s50,rfl⟩:=hA 30 (by kernel_rfl) 50 rfl;rw [if_pos (by simp [Region.wanted,yielded,s48])];have cc0:=eI.cell m0
  rotate_left
  obtain⟨_,s48,rfl⟩:=hA 28 (by kernel_rfl) 48 rfl;obtain⟨_,s51,rfl⟩:=hA 31 (by kernel_rfl) 51 rfl;rw [if_pos (by simp [Region.wanted,yielded,s48])]
  rotate_left
  obtain⟨_,s48,rfl⟩:=hA 28 (by kernel_rfl) 48 rfl;obtain⟨_,s52,rfl⟩:=hA 32 (by kernel_rfl) 52 rfl
  rotate_left
  all_goals clear hB hA
  all_goals go_simp
  all_goals exact hK.out _ _ (Ext.refl _) rfl
 intro vals wz eZ hJ;have J53:vals 33=_:=hJ 33 (by decide) (by decide);clear hJ;simp only [pr,Nat.reduceAdd,J53];clear J53;refine stepL_done (by kernel_rfl) ?_ _;replace hE:=hE.trans eZ;replace B0:=eZ.block B0;have B1:=eZ.block HB1.out;replace m0:=eZ.cell m0;have hs2:=eZ.size;clear a0 a1 a2 a3 a4 a5 HB1 eZ S6 HC hfw HA HB;go_upto_region 5 with (fail);obtain⟨a0,a1,a2,a3,a4,a5⟩:=cells_g B0;refine wp_region_lit ?_;refine wpList_plain rfl (fun K hK=>?_);go_simp;refine hK _ _ ?_;clear hK K;try simp only [nr]
 refine wpList_plain rfl (fun K hK=>?_);go_simp;refine hK _ _ ?_;clear hK K;try simp only [nr]
 refine wpList_load_part rfl 43 _ rfl _ 0 (by rfl) ca (part_l B1) _ Tryz.underlying43 rfl (by rw [ZA.out]; exact info_pt) ?_;try simp only [nr]
 refine wpList_plain rfl (fun K hK=>?_);go_simp;refine hK _ _ ?_;clear hK K;try simp only [nr]
 refine wpList_load_part rfl 43 _ rfl _ 12 (by rfl) cb (part_r B1 ZA.out) _ Tryz.underlying43 rfl (by rw [ZB.out]; exact info_pt) ?_;try simp only [nr]
 go_wp2_with (go_at_call 20; refine Hid.out ?_);refine (o_Clear (K:=17) (HG.out.ext hE) HGC.out HSO.out (by omega) (by have:=hE.size; omega) (HA'.out.ext hE) (HB'.out.ext hE)).mono ?_;rintro e w12 ⟨is,v,t',rfl,hv,-,h1,-,e12⟩;obtain⟨bz,Az,kz,cz,Az',kz',cz',rfl,-,-,-⟩:=hv.parts
 rename_i K9 hK9
 refine hK9 _ _ ?_;clear hK9 K9;try simp only [nr]
 clear a0 a1 a2 a3 a4 a5;refine wpList_plain rfl (fun K hK=>?_);go_simp;refine hK _ _ ?_;clear hK K;try simp only [nr]
 refine wpList_plain rfl (fun K hK=>?_);go_simp;refine hK _ _ ?_;clear hK K;try simp only [nr]
 refine wpList_plain rfl (fun K hK=>?_);go_simp;refine hK _ _ ?_;clear hK K;try simp only [nr]
 refine wpList_plain rfl (fun K hK=>?_);go_simp;refine hK _ _ ?_;clear hK K;try simp only [nr]
 refine wpList_plain rfl (fun K hK=>?_);go_simp;refine hK _ _ ?_;clear hK K;try simp only [nr]
 refine boxes1 ?_;intro w13 e13 hsz13 BH;obtain⟨q0,q1,q2,q3,-⟩:=cells4 BH;refine wpList_plain rfl (fun K hK=>?_);go_simp;refine hK _ _ ?_;clear hK K;try simp only [nr]
 refine wpList_store_blk' rfl 29 _ _ rfl (by rfl) (by rfl) BH info_rat4 (by rfl:Array.size _=4) (Eq.trans ((by rfl:Array.size _=4)) (Eq.symm ((by rfl:Array.size _=4)))) (by rfl) ?_;try simp only [nr]
 intro w14 BH' U14;refine wpList_plain rfl (fun K hK=>?_);go_simp;refine hK _ _ ?_;clear hK K;try simp only [nr]
 refine wpList_nil ?_;have E14:Ext w12 w14:=(U14.chg (NoU.mk BH (by decide))).ext e13 (by omega);have E24:=e12.trans E14;have hs3:=E24.size;replace hE:=hE.trans E24;replace B0:=E24.block B0;replace B1:=E24.block B1;replace m0:=E24.cell m0;clear q0 q1 q2 q3 BH BH' U14 E14 E24 e13 e12 hv;cases is with
 | false =>
  go_wp2;go_ret;exact⟨rfl,hE⟩
 | true =>
 have HCL:Hid (clrF G a b):=(h1 rfl).1;clear h1;go_upto_region 10 with (fail);obtain⟨a0,a1,a2,a3,a4,a5⟩:=cells_g B0;go_upto_region 11 with (fail);refine boxes1 ?_;intro w15 e15 hsz15 BL;obtain⟨gL,hgL⟩:∃ gL,gL=w14.heap.size:=⟨_,rfl⟩
 have BL':w15.heap[gL]?=some (.cells #[.int .i64 G.x0,.int .i64 G.y0,.int .i64 G.st,.int .i64 G.wd,.int .i64 G.ht,.slice A G.n c] 24 (0,0)):=by rw [hgL]; exact BL
 rw [←hgL];have hgE:w.heap.size+2≤gL:=by have:=hE.size; omega
 clear BL a0 a1 a2 a3 a4 a5;replace hE:=hE.trans e15;replace B0:=e15.block B0;replace B1:=e15.block B1;replace m0:=e15.cell m0;have hs4:=e15.size;have hgl:gL < w15.heap.size:=blk_lt BL';have hU1:NoU w15 gL:=NoU.mk BL' (by decide);clear hgL hsz15 e15;obtain⟨l0,l1,l2,l3,l4,l5⟩:=cells_g BL';obtain⟨a0,a1,a2,a3,a4,a5⟩:=cells_g B0;have hnG:=HG9.out.1;have hnG2:=HG9.out.2.1;go_wp2_with (go_at_call 21; refine Hid.out ?_);refine (sl_cloneI (HIZ.out.ext hE) (by omega) (by omega)).mono ?_;rintro e w16 ⟨gz,cz,rfl,hgz,hB,e16⟩;clear l0 l1 l2 l3 l4 l5 a0 a1 a2 a3 a4 a5;replace BL':=e16.block BL';obtain⟨l0,l1,l2,l3,l4,l5⟩:=cells_g BL';have hfr:=blk_free BL' 5;go_upto_region 12 with (fail);obtain⟨w17,E17,BM,U17⟩:=set6 BL' (.slice (some ⟨gz,0,none⟩) G.n cz);rw [E17];have hzl:=hB.lt;have C17:=U17.chg (NoU.mk BL' (by decide));have hs5:=e16.size;replace hB:=hB.chg C17 (.inr (by omega));replace B1:=C17.blk (e16.block B1) (.inl (by omega));replace hE:=C17.ext (hE.trans e16) (by omega);have hs6:=C17.size;clear l0 l1 l2 l3 l4 l5 hfr B0 C17 E17 U17 e16 BL' m0 hU1;obtain⟨l0,l1,l2,l3,l4,l5⟩:=cells_g BM;obtain⟨f,hf⟩:=hid_eq (fun j=>lowZ (G.z j) (ch (j % k)));have HBM:=Lib.hid BM;have HB1:=Lib.hid B1;clear BM B1;go_wp2
 go_loopw [76] (fun iv wr=>∃ i:Nat,i≤G.n∧iv=.int .i64 i∧IzB wr gz cz G.n (mixI f G.z i)∧Chg gz (gz+1) w17 wr) (fun iv _=>G.n - (intOf iv).toNat)
 case atStart=>exact⟨0,by omega,rfl,hB.congr (fun j _=>by unfold mixI; rw [if_neg (by omega)]),Chg.refl _ _ _⟩
 case round =>
  clear hB;obtain⟨i,hi,rfl,hB,hC⟩:=hrel
  by_cases hin:i < G.n
  case neg =>
   obtain rfl:i=G.n:=by omega
   have hq1:decide ((G.n:Int) < (G.n:Int))=false:=decide_eq_false (by omega);have hE9:Ext w wr:=hC.ext hE (by omega);have hN9:N≤wr.heap.size:=by have:=hE9.size; omega
   have hs9:=hC.size;have HLZ:Hid (IzB wr gz cz G.n (lowG G (fun j=>ch (j % k))).z):=hB.congr (fun j hj=>by unfold mixI; rw [if_pos hj,hf.out]; rfl);have B1:=hC.blk HB1.out (.inl (by omega));have BM:=hC.blk HBM.out (.inl (by omega));have m0:=hE9.cell (HCE.out 0 hk0);rw [←hz0.out,Nat.add_zero] at m0;have hzp:0 < z0:=by omega
   obtain⟨q0,q1,q2⟩:=part_q hzp hr0.2;obtain⟨q,hq⟩:=hid_eq (Rat.divInt z0 255);rw [←hq.out] at q0 q1 q2;have HQ:=Lib.hid q2;have hcn:∀ j,0≤ch (j % k):=fun j=>(HR.out _ (Nat.mod_lt _ hk0)).1
   have HHC:Hid (grdCode (lowG G (fun j=>ch (j % k)))=0):=low_code HGC.out hcn;obtain⟨p,hp⟩:=hid_eq (fun i=>lin (a i) (b i) q);have HSP:Hid (SOk (lowG G (fun j=>ch (j % k))) 74 a p):=part_sok HSO.out HHC.out HQ.out (by grind) q1 hp.out;have HPC:Hid (clrF (lowG G (fun j=>ch (j % k))) a p):=part_clr (low_le G _ hcn) HG9.out.2.2 q0 q1 (fun i _=>by rw [hp.out]) HCL.out;have HGV:Hid (GrdV N 0 0 wr (.agg #[.int .i64 G.x0,.int .i64 G.y0,.int .i64 G.st,.int .i64 G.wd,.int .i64 G.ht,.slice (some ⟨gz,0,none⟩) G.n cz]) (lowG G (fun j=>ch (j % k)))):=⟨_,rfl,HLZ.out.iz⟩
   clear hB hC q0 q1 q2 hcn l0 l1 l2 l3 l4 l5 HBM HB1 HLZ;go_wp2_with (go_at_call 22; refine Hid.out ?_);refine (r2_of hN9 z0 255 (by omega) (by omega) (by omega) (by omega) (by omega)).mono ?_;rw [←hq.out];rintro e w20 ⟨v,rfl,hv,e20⟩;obtain⟨nt,At,kt,ct,At',kt',ct',rfl,hbt,gt1,gt2⟩:=RatV.parts hv;go_upto_region 22 with (fail);refine boxes1 ?_;intro w21 e21 hsz21 BT;obtain⟨gT,hgT⟩:∃ gT,gT=w20.heap.size:=⟨_,rfl⟩
   have BT':w21.heap[gT]?=some (.cells #[.bool nt,.slice At kt ct,.bool false,.slice At' kt' ct'] 29 (0,0)):=by rw [hgT]; exact BT
   rw [←hgT];have E21:=e20.trans e21;have hRq:RatV N w21 (.agg #[.bool nt,.slice At kt ct,.bool false,.slice At' kt' ct']) q:=hv.ext e21;replace hE9:=hE9.trans E21;have HB1:=Lib.hid (E21.block B1);have HGW:=Lib.hid (HGV.out.ext E21);replace BM:=E21.block BM;obtain⟨l0,l1,l2,l3,l4,l5⟩:=cells_g BM;obtain⟨x0,x1,x2,x3,-⟩:=cells4 BT';have hN21:N≤w21.heap.size:=by have:=hE9.size; omega
   clear BT BT' hgT hsz21 e21 e20 E21 B1 BM m0 HGV hv hbt gt1 gt2;refine regS [Mn.eq (.agg #[.int .i64 G.x0,.int .i64 G.y0,.int .i64 G.st,.int .i64 G.wd,.int .i64 G.ht,.slice (some ⟨gz,0,none⟩) G.n cz]),Mn.eq (.pointer (some ⟨w.heap.size+1,0,none⟩)),Mn.eq (.agg ca),Mn.eq (.pointer (some ⟨w.heap.size+1,0,none⟩)),Mn.eq (.agg ca),Mn.eq (.pointer (some ⟨w.heap.size+1,12,none⟩)),Mn.eq (.agg cb),Mn.rat N (q),Mn.pt N p,Mn.cl N,Mn.cl N,Mn.eq (.bool true),Mn.rat N 0,Mn.eq (.int .i64 0),Mn.blk w21.heap.size (.cells #[.bool false,.slice none 0 0,.bool false,.slice none 0 0] 29 (0,0)),Mn.eq (.bool true),Mn.any,Mn.any] [some 122,some 123,some 124,some 125,some 126,some 127,some 128,some 129,some 130,some 131,some 121,some 132,some 133,some 134,some 17,some 16,none,some 9] [16,17] [13] [true,true,true,true,true,true,true,true,true,true,true,true,true,true,true,true,false,false] 2 (by kernel_rfl) ?_ ?_ ?_
   ·show ∀ i,i < 18→_
    iterate 18 refine fs ?_ ?_
    ·exact fz
    all_goals intro hl hs
    all_goals first | exact absurd hl (by decide) | exact absurd hs (by decide) | skip
    all_goals clear hl hs
    all_goals refine stp rfl ?_
    all_goals intro ac wi eI hB hA K hK
    have o10:=oOf (hB 10 (by kernel_rfl)) rfl;have cc0:=eI.cell l0;have cc1:=eI.cell l1;have cc2:=eI.cell l2;have cc3:=eI.cell l3;have cc4:=eI.cell l4;have cc5:=eI.cell l5
    rotate_left
    have o4:=oOf (hB 4 (by kernel_rfl)) rfl
    rotate_left
    obtain⟨_,s123,rfl⟩:=hA 1 (by kernel_rfl) 123 rfl;clear hB hA;have cc0:=eI.cell l0;have cc1:=eI.cell l1;have cc2:=eI.cell l2;have cc3:=eI.cell l3;have cc4:=eI.cell l4;have cc5:=eI.cell l5;have cc6:=eI.cell x0;have cc7:=eI.cell x1;have cc8:=eI.cell x2;have cc9:=eI.cell x3
    ·refine wp_load_part 43 _ rfl _ 0 (by simp [Act.eval,s123]) ca (part_l (eI.block HB1.out)) _ Tryz.underlying43 rfl (by rw [ZA.out]; exact info_pt) ?_;exact hK.out _ _ (Ext.refl _) rfl
    have o4:=oOf (hB 4 (by kernel_rfl)) rfl
    rotate_left
    obtain⟨_,s125,rfl⟩:=hA 3 (by kernel_rfl) 125 rfl;clear hB hA;have cc0:=eI.cell l0;have cc1:=eI.cell l1;have cc2:=eI.cell l2;have cc3:=eI.cell l3;have cc4:=eI.cell l4;have cc5:=eI.cell l5;have cc6:=eI.cell x0;have cc7:=eI.cell x1;have cc8:=eI.cell x2;have cc9:=eI.cell x3
    ·refine wp_load_part 43 _ rfl _ 0 (by simp [Act.eval,s125]) ca (part_l (eI.block HB1.out)) _ Tryz.underlying43 rfl (by rw [ZA.out]; exact info_pt) ?_;exact hK.out _ _ (Ext.refl _) rfl
    have o4:=oOf (hB 4 (by kernel_rfl)) rfl
    rotate_left
    obtain⟨_,s127,rfl⟩:=hA 5 (by kernel_rfl) 127 rfl;clear hB hA;have cc0:=eI.cell l0;have cc1:=eI.cell l1;have cc2:=eI.cell l2;have cc3:=eI.cell l3;have cc4:=eI.cell l4;have cc5:=eI.cell l5;have cc6:=eI.cell x0;have cc7:=eI.cell x1;have cc8:=eI.cell x2;have cc9:=eI.cell x3
    ·refine wp_load_part 43 _ rfl _ 12 (by simp [Act.eval,s127]) cb (part_r (eI.block HB1.out) ZA.out) _ Tryz.underlying43 rfl (by rw [ZB.out]; exact info_pt) ?_;exact hK.out _ _ (Ext.refl _) rfl
    have o14:=oOf (hB 14 (by kernel_rfl)) rfl;clear hB hA;have cc0:=eI.cell x0;have cc1:=eI.cell x1;have cc2:=eI.cell x2;have cc3:=eI.cell x3
    ·go_simp;exact hK.out _ _ (Ext.refl _) (hRq.ext eI)
    obtain⟨_,s126,rfl⟩:=hA 4 (by kernel_rfl) 126 rfl;obtain⟨_,s128,rfl⟩:=hA 6 (by kernel_rfl) 128 rfl;obtain⟨x129,s129,j129⟩:=hA 7 (by kernel_rfl) 129 rfl;replace j129:Mn.p (Mn.rat N (q)) x129 wi:=j129;clear hB hA
    ·go_simp;refine (l49_at (K:=18) ZA.out ((show PtV N w ca 0 a from HA'.out.pt).ext (hE9.trans eI)) ZB.out ((show PtV N w cb 0 b from HB'.out.pt).ext (hE9.trans eI)) j129 (fun i hi=>(HSO.out.ka i hi).mono (by omega)) (fun i hi=>(HSO.out.kb i hi).mono (by omega)) HQ.out (by omega)).mono ?_;rw [←hp.out];rintro e wj ⟨cs,rfl,h1,h2,h3,ej⟩;go_wp2_with fail;exact hK.out _ _ ej ⟨cs,rfl,h1,h2,h3⟩
    obtain⟨_,s122,rfl⟩:=hA 0 (by kernel_rfl) 122 rfl;obtain⟨_,s124,rfl⟩:=hA 2 (by kernel_rfl) 124 rfl;obtain⟨x130,s130,j130⟩:=hA 8 (by kernel_rfl) 130 rfl;replace j130:Mn.p (Mn.pt N p) x130 wi:=j130;clear hB hA
    ·obtain⟨cs,rfl,k1,k2,k3⟩:=j130;go_simp;refine (k_part (HGW.out.ext eI) HHC.out HSP.out HPC.out (Nat.le_trans hN21 eI.size) (HA'.out.ext (hE9.trans eI)) ⟨k3,k1,k2⟩).mono ?_;rintro e wj ⟨vj,rfl,hj,ej⟩;go_wp2_with fail;exact hK.out _ _ ej ⟨vj,rfl,hj⟩
    obtain⟨x131,s131,j131⟩:=hA 9 (by kernel_rfl) 131 rfl;replace j131:Mn.p (Mn.cl N) x131 wi:=j131;clear hB hA
    ·go_simp;exact hK.out _ _ (Ext.refl _) j131
    obtain⟨x121,s121,j121⟩:=hA 10 (by kernel_rfl) 121 rfl;replace j121:Mn.p (Mn.cl N) x121 wi:=j121;clear hB hA
    ·obtain⟨vj,rfl,-⟩:=j121;go_simp;exact hK.out _ _ (Ext.refl _) rfl
    obtain⟨x121,s121,j121⟩:=hA 10 (by kernel_rfl) 121 rfl;replace j121:Mn.p (Mn.cl N) x121 wi:=j121;clear hB hA
    ·obtain⟨vj,rfl,hj⟩:=j121;go_simp;exact hK.out _ _ (Ext.refl _) hj
    clear hB hA
    ·go_simp;refine boxes1 ?_;intro wj ej hszj BJ;exact hK.out _ _ ej ⟨_,rfl,eI.size,BJ⟩
    obtain⟨_,s132,rfl⟩:=hA 11 (by kernel_rfl) 132 rfl
    rotate_left
    all_goals clear hB hA
    all_goals go_simp
    all_goals exact hK.out _ _ (Ext.refl _) rfl
   ·intro i hs;have hi':i=13:=by simpa using hs
    clear hs
    rcases hi' with rfl
    ·refine sft rfl (fun _ _ _ _ h=>h) ?_;intro ac wi eI hB hA;obtain⟨x121,s121,j121⟩:=hA 10 (by kernel_rfl) 121 rfl;replace j121:Mn.p (Mn.cl N) x121 wi:=j121;clear hB hA;obtain⟨vj,rfl,-⟩:=j121;refine⟨(.int .i64 0),.inl ⟨rfl,fun w9 _=>?_⟩,rfl⟩;go_simp
   intro vals wz eZ hJ;have J133:Mn.p (Mn.rat N 0) (vals 12) wz:=hJ 12 (by decide) (by decide);have J134:vals 13=_:=hJ 13 (by decide) (by decide);have J17:Mn.p (Mn.blk w21.heap.size (.cells #[.bool false,.slice none 0 0,.bool false,.slice none 0 0] 29 (0,0))) (vals 14) wz:=hJ 14 (by decide) (by decide);have J16:vals 15=_:=hJ 15 (by decide) (by decide);clear hJ;simp only [pr,Nat.reduceAdd,J134,J16];clear J134 J16
   generalize vals 12=z133 at J133 ⊢
   generalize vals 14=z17 at J17 ⊢
   obtain⟨gB,rfl,hgB,BB⟩:=J17;obtain⟨bz,Az,kz,cz2,Az',kz',cz2',rfl,hbz,gz1,gz2⟩:=RatV.parts J133;obtain⟨y0,y1,y2,y3,y4,y5,y6,y7⟩:=cells4 BB;refine stepL_late (i:=16) rfl (by kernel_rfl) (by kernel_rfl) (fun K hK=>?_);go_simp;refine hK.out _ _ ?_;clear hK K;try simp only [nr]
   refine stepL_late (i:=17) rfl (by kernel_rfl) (by kernel_rfl) (fun K hK=>?_);go_simp;refine hK.out _ _ ?_;clear hK K;try simp only [nr]
   refine stepL_done (by kernel_rfl) ?_ _;obtain⟨w22,E22,hB22,K22,hs22⟩:=boxSet (q:=(0:Rat)) BB (by omega) hbz gz1 gz2;rw [E22];have hE22:Ext w w22:=hE9.trans (K22.ext eZ hgB);clear y0 y1 y2 y3 y4 y5 y6 y7 E22 K22 BB hs22 hbz gz1 gz2 eZ x0 x1 x2 x3 l0 l1 l2 l3 l4 l5;go_wp2;go_ret;exact⟨rfl,hE22⟩
  have hin':(i:Int) < G.n:=by omega
  have l5':=hC.cell l5 (.inl (by show gL < gz; omega));have hz0':=hB.cell hin;rw [show mixI f G.z i i=G.z i from if_neg (by omega)] at hz0';obtain⟨zi,hzi⟩:=hid_eq (G.z i);rw [←hzi.out] at hz0';have hmk:i % k < k:=Nat.mod_lt _ (by omega);obtain⟨ci,hci⟩:=hid_eq (ch (i % k));have hbw:bc < w.heap.size:=cell_lt (HCE.out (i % k) hmk);have mi:=hC.cell (hE.cell (HCE.out (i % k) hmk)) (.inl (by show bc < gz; omega));rw [←hci.out] at mi;have hcr:=HR.out _ hmk;rw [←hci.out] at hcr;have hk9:(k:Int)≠0:=by omega
  have hfi:Hid (f i=lowZ zi ci):=by rw [Hid,hf.out,hzi.out,hci.out]
  have hzr:=HZR.out i hin;rw [←hzi.out] at hzr;obtain⟨m8,hm8⟩:∃ m8,Int.tmod ci 8=m8:=⟨_,rfl⟩
  have hm9:m8=ci % 8:=by rw [←hm8]; exact Int.tmod_eq_emod_of_nonneg hcr.1
  have hm0:0≤m8∧m8≤7:=by omega
  have HM9:=Lib.hid hm9;have HBZ:=Lib.hid hB;have HC9:=Lib.hid hC;clear hm9 hB hC
  by_cases hst:zi≠noneZ∧-1048576≤zi - m8
  case pos =>
   have t1:(zi != -2147483648)=true:=by have:=hst.1; unfold noneZ at this; simpa using this
   have t2:decide (-1048576≤zi - m8)=true:=decide_eq_true hst.2;have hzb : -1048576≤zi∧zi≤1048576:=by rcases hzr with h | h; exact absurd h hst.1; exact h
   have hfz:=HBZ.out.frozen i
   have HV:Hid (¬ 250 < ci→zi - m8=f i):=fun h=>by
    rw [hfi.out];unfold lowZ;rw [if_neg h,←HM9.out,if_pos hst]
   clear hst hzr;go_upto_region 18 with (fail);obtain⟨w18,E18,U18,hB18⟩:=HBZ.out.set hin (zi - m8);rw [E18];have C18:=HC9.out.trans (U18.chg HBZ.out.noU);clear l5' hz0' mi hfz t1 t2 E18 U18;have l5':=C18.cell l5 (.inl (by show gL < gz; omega))
   by_cases h250:250 < ci
   case pos =>
    have t4:decide (250 < ci)=true:=decide_eq_true h250;have hf2:=hB18.frozen i;have hc2:=hB18.cell hin;have hf0:Hid (noneZ=f i):=by rw [Hid,hfi.out]; unfold lowZ; rw [if_pos h250]
    clear h250;go_upto_region 20 with (fail);obtain⟨w19,E19,U19,hB19⟩:=hB18.set hin (-2147483648);rw [E19];have C19:=C18.trans (U19.chg hB18.noU);clear E19 hf2 hc2 t4 l5' U19;go_wp2;go_roundw
    case rel=>exact⟨i+1,by omega,by go_num,hB19.congr (fun j _=>mix_set (y:=(fun j=>if j=i then zi - m8 else mixI f G.z i j)) (fun j hj=>if_neg hj) hf0.out j),C19⟩
    case measure=>simp [intOf]; omega
   case neg =>
    have t4:decide (250 < ci)=false:=decide_eq_false h250;have HS:Hid (IzB w18 gz cz G.n (mixI f G.z (i+1))):=hB18.congr (fun j _=>mix_set (y:=mixI f G.z i) (fun _ _=>rfl) (HV.out h250) j);clear h250;go_upto_region 20 with (fail);clear t4;go_wp2;go_roundw
    case rel=>exact⟨i+1,by omega,by go_num,HS.out,C18⟩
    case measure=>simp [intOf]; omega
  case neg =>
   have HV:Hid (¬ 250 < ci→zi=f i):=fun h=>by
    rw [hfi.out];unfold lowZ;rw [if_neg h,←HM9.out,if_neg hst]
   have hB18:=HBZ.out;have C18:=HC9.out
   by_cases h1:zi=noneZ
   ·have t1:(zi != -2147483648)=false:=by unfold noneZ at h1; simpa using h1
    clear h1 hst hzr;go_upto_region 18 with (fail);clear t1 mi
    by_cases h250:250 < ci
    case pos =>
     have t4:decide (250 < ci)=true:=decide_eq_true h250;have hf2:=hB18.frozen i;have hc2:=hB18.cell hin;have hf0:Hid (noneZ=f i):=by rw [Hid,hfi.out]; unfold lowZ; rw [if_pos h250]
     clear h250;go_upto_region 20 with (fail);obtain⟨w19,E19,U19,hB19⟩:=hB18.set hin (-2147483648);rw [E19];have C19:=C18.trans (U19.chg hB18.noU);clear E19 hf2 hc2 t4 l5' U19;go_wp2;go_roundw
     case rel=>exact⟨i+1,by omega,by go_num,hB19.congr (fun j _=>mix_set (y:=(mixI f G.z i)) (fun _ _=>rfl) hf0.out j),C19⟩
     case measure=>simp [intOf]; omega
    case neg =>
     have t4:decide (250 < ci)=false:=decide_eq_false h250;have HS:Hid (IzB wr gz cz G.n (mixI f G.z (i+1))):=hB18.congr (fun j _=>mix_step (z':=mixI f G.z i) (fun _ _=>rfl) (by show (if i < i then f i else G.z i)=f i; rw [if_neg (Nat.lt_irrefl _),←hzi.out]; exact HV.out h250) j);clear h250;go_upto_region 20 with (fail);clear t4;go_wp2;go_roundw
     case rel=>exact⟨i+1,by omega,by go_num,HS.out,C18⟩
     case measure=>simp [intOf]; omega
   ·have t1:(zi != -2147483648)=true:=by unfold noneZ at h1; simpa using h1
    have t2:decide (-1048576≤zi - m8)=false:=decide_eq_false (fun h=>hst ⟨h1,h⟩);have hzb : -1048576≤zi∧zi≤1048576:=by rcases hzr with h | h; exact absurd h h1; exact h
    clear h1 hst hzr;go_upto_region 18 with (fail);clear t1 t2 mi
    by_cases h250:250 < ci
    case pos =>
     have t4:decide (250 < ci)=true:=decide_eq_true h250;have hf2:=hB18.frozen i;have hc2:=hB18.cell hin;have hf0:Hid (noneZ=f i):=by rw [Hid,hfi.out]; unfold lowZ; rw [if_pos h250]
     clear h250;go_upto_region 20 with (fail);obtain⟨w19,E19,U19,hB19⟩:=hB18.set hin (-2147483648);rw [E19];have C19:=C18.trans (U19.chg hB18.noU);clear E19 hf2 hc2 t4 l5' U19;go_wp2;go_roundw
     case rel=>exact⟨i+1,by omega,by go_num,hB19.congr (fun j _=>mix_set (y:=(mixI f G.z i)) (fun _ _=>rfl) hf0.out j),C19⟩
     case measure=>simp [intOf]; omega
    case neg =>
     have t4:decide (250 < ci)=false:=decide_eq_false h250;have HS:Hid (IzB wr gz cz G.n (mixI f G.z (i+1))):=hB18.congr (fun j _=>mix_step (z':=mixI f G.z i) (fun _ _=>rfl) (by show (if i < i then f i else G.z i)=f i; rw [if_neg (Nat.lt_irrefl _),←hzi.out]; exact HV.out h250) j);clear h250;go_upto_region 20 with (fail);clear t4;go_wp2;go_roundw
     case rel=>exact⟨i+1,by omega,by go_num,HS.out,C18⟩
     case measure=>simp [intOf]; omega
end Go.Proofs.YtphpkhoeplcedaaGreat
set_option maxRecDepth 100000
namespace Go.Proofs.YtphpkhoeplcedaaGreat
open Go.ChangeShapes Go.WideShapes Go.ChangeAt Go.RowKit Go.Joins
theorem cells_pt3:Tryz.prog.cellsOf 43=12:=by kernel_rfl
theorem cells_ends:Tryz.prog.cellsOf 44=24:=by kernel_rfl
theorem und_pt3:Tryz.prog.underlying 43=some (.array 3 29):=by kernel_rfl
theorem und_ends:Tryz.prog.underlying 44=some (.array 2 43):=by kernel_rfl
theorem mapM_each {α β:Type} {f:α→Option β}:∀ {l:List α} {ys:List β},l.mapM f=some ys→∀ x,x∈l→∃ y,f x=some y
 | [],_,_,_,hx=>by cases hx
 | a :: l,ys,h,x,hx=>by
  rw [List.mapM_cons] at h;simp only [bind,Option.bind_eq_some_iff,pure,Option.some.injEq] at h;obtain⟨y,h0,ys',h1,-⟩:=h
  rcases List.mem_cons.1 hx with rfl | hx
  ·exact⟨y,h0⟩
  ·exact mapM_each h1 x hx
section
variable {H:Type} {enc:TypeId×Value→H} {w:World} {spare:Nat→Bool} {held:Bool}
theorem trod_array {base:Nat} {n fuel:Nat} {k e:TypeId} {cs:List Value} {x:DataW H×List MemPlace} (hu:Tryz.prog.underlying k=some (.array n e)) (h:DataW.trod enc Tryz.prog w base spare held fuel k cs=some x) :
  cs.length=Tryz.prog.cellsOf k∧∃ f,∀ i,i < n→∃ y,DataW.trod enc Tryz.prog w base spare held f e ((cs.drop (i*Tryz.prog.cellsOf e)).take (Tryz.prog.cellsOf e))=some y:=by
 cases fuel with
 | zero=>simp [DataW.trod] at h
 | succ f =>
  rw [DataW.trod_step] at h;unfold DataW.trodStep at h;simp only [hu] at h
  split at h
  ·rename_i hl
   simp only [Option.map_eq_some_iff] at h;obtain⟨xs,hx,-⟩:=h;exact⟨hl,f,fun i hi=>mapM_each hx i (List.mem_range.2 hi)⟩
  ·cases h
theorem four_of {l:List Value} (h:l.length=12) {i:Nat} (hi:i < 3):∃ c0 c1 c2 c3,(l.drop (i*4)).take 4=[c0,c1,c2,c3]∧l[i*4]?=some c0∧l[i*4+1]?=some c1∧l[i*4+2]?=some c2∧l[i*4+3]?=some c3:=by
 match l,h with
 | [x0,x1,x2,x3,x4,x5,x6,x7,x8,x9,xa,xb],_ =>
  have hi':i=0∨i=1∨i=2:=by omega
  rcases hi' with rfl | rfl | rfl
  ·exact⟨_,_,_,_,rfl,rfl,rfl,rfl,rfl⟩
  ·exact⟨_,_,_,_,rfl,rfl,rfl,rfl,rfl⟩
  ·exact⟨_,_,_,_,rfl,rfl,rfl,rfl,rfl⟩
theorem pts_of_trod {fuel:Nat} {cs:List Value} {x:DataW H×List MemPlace} (h:DataW.trod enc Tryz.prog w 0 spare held fuel 43 cs=some x):∃ R:Nat→Raw,PtA w.heap.size w cs.toArray R:=by
 obtain⟨hl,f,hx⟩:=trod_array und_pt3 h;rw [cells_pt3] at hl
 have each:∀ i,i < 3→∃ R,ArV w.heap.size w cs.toArray (0+i*4) R:=by
  intro i hi;obtain⟨y,hy⟩:=hx i hi;obtain⟨c0,c1,c2,c3,e,k0,k1,k2,k3⟩:=four_of hl hi;rw [cells_rat,e] at hy;obtain⟨R,rfl,rfl,g1,g2⟩:=rat_of_trod hy;rw [Nat.zero_add];exact⟨R,c1,c3,by rw [List.getElem?_toArray]; exact k0,by rw [List.getElem?_toArray]; exact k1,by rw [List.getElem?_toArray]; exact k2,by rw [List.getElem?_toArray]; exact k3,g1,g2⟩
 obtain⟨R,hR⟩:=Go.Deep.choose_lt (α:=Raw) each;refine⟨R,hR,by simpa using hl,one_get.2 fun k v hv=>?_⟩
 have hk:k < 12:=by
  rcases Nat.lt_or_ge k 12 with h9 | h9
  ·exact h9
  ·rw [Array.getElem?_eq_none (by simpa [hl] using h9)] at hv; cases hv
 obtain⟨s,t,h1,h2,h3,h4,h5,h6⟩:=hR (k / 4) (by omega);rw [Nat.zero_add] at h1 h2 h3 h4;have hk4:k=k / 4*4∨k=k / 4*4+1∨k=k / 4*4+2∨k=k / 4*4+3:=by omega
 rcases hk4 with e | e | e | e
 ·rw [e,h1] at hv; injection hv with hv; rw [←hv]; rfl
 ·rw [e,h2] at hv; injection hv with hv; rw [←hv]; exact ar_one h5
 ·rw [e,h3] at hv; injection hv with hv; rw [←hv]; rfl
 ·rw [e,h4] at hv; injection hv with hv; rw [←hv]; exact ar_one h6
theorem ends_open {r:Reach} {b0:Nat} {v:Value} {d:DataW H} {p:List MemPlace} (hv:Value.okWide Tryz.prog w r b0 44 v) (h:DataW.Trod enc Tryz.prog w 0 spare held 44 v d p):∃ ca cb Ra Rb,v=.agg (ca ++ cb)∧PtA w.heap.size w ca Ra∧PtA w.heap.size w cb Rb:=by
 simp only [Value.okWide,und_ends] at hv;obtain⟨cs,rfl,hsz,-⟩:=hv;obtain⟨fuel,hf⟩:=h;obtain⟨hl,f,hx⟩:=trod_array und_ends hf;rw [cells_ends] at hl;rw [cells_pt3] at hx;simp only [Value.cells] at hl hx;obtain⟨y0,h0⟩:=hx 0 (by omega);obtain⟨y1,h1⟩:=hx 1 (by omega);obtain⟨Ra,ha⟩:=pts_of_trod h0;obtain⟨Rb,hb⟩:=pts_of_trod h1;refine⟨_,_,Ra,Rb,?_,ha,hb⟩
 congr 1
 rw [List.append_toArray]
 have e:(cs.toList.drop (0*12)).take 12 ++ (cs.toList.drop (1*12)).take 12=cs.toList:=by
  rw [Nat.zero_mul,List.drop_zero,Nat.one_mul,List.take_of_length_le (l:=cs.toList.drop 12) (by rw [List.length_drop]; omega),List.take_append_drop]
 rw [e,Array.toArray_toList]
end
end Go.Proofs.YtphpkhoeplcedaaGreat
set_option maxRecDepth 100000
namespace Go.Proofs.YtphpkhoeplcedaaGreat
open Go.ChangeShapes Go.WideShapes Go.ChangeAt Go.RowKit Go.Joins
theorem lit_u8 {z:Int} (h:(Lit.int .u8 z).wf=true):0≤z∧z≤255:=by
 simp only [Lit.wf,Bool.and_eq_true,decide_eq_true_eq] at h;exact h
theorem cells_u8:Tryz.prog.cellsOf 5=1:=by kernel_rfl
section
variable {H:Type} {enc:TypeId×Value→H} {w:World} {spare:Nat→Bool} {held:Bool}
theorem u8_open {v:Value} {d:DataW H} {p:List MemPlace} (h:DataW.Trod enc Tryz.prog w 0 spare held 51 v d p) (hv:∃ A k c,v=.slice A k c):∃ k z,U8V w v k z:=by
 obtain⟨A0,k0,c0,rfl⟩:=hv;obtain⟨fuel,hf⟩:=h;simp only [Value.cells] at hf
 rcases Go.Deep.open_slice1 Tryz.underlying51 cells_u8 hf with ⟨hcs,-⟩ | ⟨a,len,cap,m,n',V,D,Pl,hcs,-,hl,hm,hmm,-,hx⟩
 ·simp only [List.cons.injEq,and_true] at hcs;rw [hcs];exact⟨0,fun _=>0,⟨_,_,rfl,Nat.le_refl _,Nat.zero_le _,fun h0=>absurd h0 (by omega)⟩,fun i hi=>absurd hi (by omega)⟩
 ·simp only [List.cons.injEq,and_true] at hcs;rw [hcs];have hlm:len≤m:=by rw [hmm]; split <;> omega
  have hv:∀ i,i < len→∃ z:Int,V i=.int .u8 z∧0≤z∧z≤255:=fun i hi=>by
   obtain⟨-,h2⟩:=hx i (by omega);obtain⟨z,hz,h3,h4⟩:=DataW.trod_int Tryz.underlying5 h2;simp only [List.cons.injEq,and_true] at hz;exact⟨z,hz,lit_u8 h4⟩
  obtain⟨f,hf⟩:=Go.Deep.choose_lt (α:=Int) hv;refine⟨len,f,⟨_,cap,rfl,hl,hm,fun h0=>?_⟩,fun i hi=>(hf i hi).2⟩;have h1:=(hx 0 (by omega)).1;have ha:=spot_none a h1;refine⟨a.block,a.off,by rw [←ha],fun i hi=>?_⟩;have h2:=(hx i (by omega)).1;rw [ha,add_none,(hf i hi).1] at h2;exact h2
end
end Go.Proofs.YtphpkhoeplcedaaGreat
