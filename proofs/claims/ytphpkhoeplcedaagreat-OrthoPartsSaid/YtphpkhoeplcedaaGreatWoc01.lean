import Derived.Test.YtphpkhoeplcedaaGreatWb35
import Derived.Deep.MidRow
set_option linter.all false
set_option maxHeartbeats 8000000
set_option maxRecDepth 100000
namespace Go.Proofs.YtphpkhoeplcedaaGreat
open Go.RowKit
theorem okR_spec {R:Raw} (h:okR R=true):∃ q:Rat,R=raw q:=by
 obtain⟨b1,l1,b2,l2⟩:=R;unfold okR at h;simp only [Bool.and_eq_true,decide_eq_true_eq] at h;obtain⟨⟨⟨h1,h2⟩,h3⟩,h4⟩:=h;obtain⟨e1,e2,e3⟩:=okB_spec h1;obtain⟨f1,f2,f3⟩:=okB_spec h2;have hb2:b2=false:=by rw [f2]; simp; omega
 subst hb2;have hz:zval false l2=(val l2:Int):=by unfold zval; simp
 rw [hz] at h3 h4;refine⟨⟨zval b1 l1,val l2,by omega,?_⟩,?_⟩
 ·exact h4
 ·unfold raw;simp only [Raw.mk.injEq];exact⟨e2,by rw [←e3]; exact e1,trivial,f1⟩
theorem boxesD1 {F:World→Prop} {w:World} {o0:Obj} (h:∀ w1,Ext w w1→w.heap.size+1≤w1.heap.size→w1.heap[w.heap.size]?=some o0→F w1):F (w.alloc o0).drew:=by
 refine h _ ((Ext.refl w).alloc _).drew ?_ (heap_alloc_new w o0);have:=(boxes1 (F:=fun W=>w.heap.size+1≤W.heap.size) (w:=w) (o0:=o0) (fun _ _ h _=>h))
 exact this
section
variable {ET:TypeId} {base:Nat} {w w':World} {v:Value} {xs:List Value}
theorem GrowO.empty {g:Nat} (hb:base≤g) (h:w.heap[g]?=some (.cells #[] ET (0,0))):GrowO ET base w (.slice (some ⟨g,0,none⟩) 0 0) [] :=
 ⟨by have:=blk_lt h; omega,by simp,.inr ⟨g,0,#[],rfl,hb,h,Nat.le_refl _,Nat.zero_le _,rfl,rfl⟩⟩
end
end Go.Proofs.YtphpkhoeplcedaaGreat
namespace Go.Proofs.YtphpkhoeplcedaaGreat
theorem blk_not {G:Grd} {a b:Nat→Rat} {t:Rat} (h:blkF G a b t):¬ clrF G a b:=by
 obtain⟨h0,h1,x,hx,h2⟩:=h;intro hc;have:=hc t h0 h1 x hx
 grind
structure LowG (G H:Grd):Prop where
 x0:H.x0=G.x0
 y0:H.y0=G.y0
 st:H.st=G.st
 wd:H.wd=G.wd
 ht:H.ht=G.ht
 z:∀ k,k < G.n→H.z k=noneZ∨(G.z k≠noneZ∧H.z k≤G.z k)
theorem LowG.at {G H:Grd} (h:LowG G H) (hn:(G.n:Int)=G.wd*G.ht) {i j:Int} (i0:0≤i) (i1:i < G.wd) (j0:0≤j) (j1:j < G.ht) (hz:zAt H i j≠noneZ):zAt G i j≠noneZ∧zAt H i j≤zAt G i j:=by
 have hk:=(zidx i0 i1 j0 j1 hn).2.1;unfold zAt at hz ⊢;rw [h.wd] at hz ⊢
 rcases h.z _ hk with h0 | h0
 ·exact absurd h0 hz
 ·exact h0
theorem mix_le {z0 z1 z2 y0 y1 y2 f s:Rat} (h0:z0≤y0) (h1:z1≤y1) (h2:z2≤y2) (hf:f≤1) (hs:0≤s) (hfs:s≤f):z0+f*(z1 - z0)+s*(z2 - z1)≤y0+f*(y1 - y0)+s*(y2 - y1):=by
 have e0:=nn_mul (show 0≤1 - f by grind) (show 0≤y0 - z0 by grind);have e1:=nn_mul (show 0≤f - s by grind) (show 0≤y1 - z1 by grind);have e2:=nn_mul hs (show 0≤y2 - z2 by grind)
 grind
theorem le_cast {a b:Int} (h:a≤b):(a:Rat)≤(b:Rat):=Rat.intCast_le_intCast.2 h
theorem low_in {G H:Grd} (h:LowG G H) (hn:(G.n:Int)=G.wd*G.ht) {X Y:Rat} {i j:Int} {r:Nat} (hr:r < 2) (hT:InT H X Y i j r):InT G X Y i j r∧plT H X Y i j r≤plT G X Y i j r:=by
 obtain⟨i0,i1,j0,j1,a0,a1,b0,b1,d0,d1,z0,z1,z2⟩:=hT;rw [h.wd] at i1;rw [h.ht] at j1;obtain⟨g0,l0⟩:=h.at hn i0 (by omega) j0 (by omega) z0;obtain⟨g2,l2⟩:=h.at hn (by omega) (by omega) (by omega) (by omega) z2;have hr':r=0∨r=1:=by omega
 rcases hr' with rfl | rfl
 ·obtain⟨g1,l1⟩:=h.at hn (i:=i+1) (j:=j) (by omega) (by omega) (by omega) (by omega) z1;refine⟨⟨i0,i1,j0,j1,a0,a1,b0,b1,d0,d1,g0,g1,g2⟩,?_⟩;rw [pl0,pl0];have:=d0 rfl;exact mix_le (le_cast l0) (le_cast l1) (le_cast l2) (by grind) (by grind) (by grind)
 ·obtain⟨g1,l1⟩:=h.at hn (i:=i) (j:=j+1) (by omega) (by omega) (by omega) (by omega) z1;refine⟨⟨i0,i1,j0,j1,a0,a1,b0,b1,d0,d1,g0,g1,g2⟩,?_⟩;rw [pl1,pl1];have:=d1 rfl;exact mix_le (le_cast l0) (le_cast l1) (le_cast l2) (by grind) (by grind) (by grind)
theorem low_hgt {G H:Grd} (h:LowG G H) (hn:(G.n:Int)=G.wd*G.ht) {x y q:Rat} (hq:hgtF H x y=some q):∃ p,hgtF G x y=some p∧q≤p:=by
 obtain⟨i,j,r,hr,hT,rfl⟩:=hgt_surf hq;rw [h.x0,h.y0,h.st] at hT ⊢;obtain⟨hT',hle⟩:=low_in h hn hr hT;exact⟨_,surf_hgt ⟨i,j,r,hr,hT',rfl⟩,hle⟩
theorem lin_lin (p q t s:Rat):lin p (lin p q t) s=lin p q (s*t):=by unfold lin; grind
theorem part_clr {G H:Grd} (h:LowG G H) (hn:(G.n:Int)=G.wd*G.ht) {a b c:Nat→Rat} {t:Rat} (ht0:0 < t) (ht1:t≤1) (hc:∀ i,i < 3→c i=lin (a i) (b i) t) (hk:clrF G a b):clrF H a c:=by
 intro s hs0 hs1 x hx;have e0:0 < s*t:=pos_mul hs0 ht0
 have e1:s*t < 1:=by
  have:=nn_mul (show 0≤s by grind) (show 0≤1 - t by grind)
  grind
 unfold exF at hx;rw [hc 0 (by omega),hc 1 (by omega),hc 2 (by omega),lin_lin,lin_lin,lin_lin] at hx;cases hq:hgtF H (lin (a 0) (b 0) (s*t)) (lin (a 1) (b 1) (s*t)) with
 | none=>rw [hq] at hx; cases hx
 | some q =>
  rw [hq] at hx;injection hx with hx
  obtain⟨p,hp,hle⟩:=low_hgt h hn hq;have:=hk (s*t) e0 e1 (p - lin (a 2) (b 2) (s*t)) (by unfold exF; rw [hp]; rfl);rw [←hx]
  grind
structure ShG (G H:Grd) (bx bY bz:Int):Prop where
 x0:H.x0=G.x0+bx*G.st
 y0:H.y0=G.y0+bY*G.st
 st:H.st=G.st
 wd:H.wd=G.wd
 ht:H.ht=G.ht
 z:∀ k,k < G.n→(G.z k=noneZ∧H.z k=noneZ)∨(G.z k≠noneZ∧H.z k≠noneZ∧H.z k=G.z k+bz)
theorem ShG.at {G H:Grd} {bx bY bz:Int} (h:ShG G H bx bY bz) (hn:(G.n:Int)=G.wd*G.ht) {i j:Int} (i0:0≤i) (i1:i < G.wd) (j0:0≤j) (j1:j < G.ht):(zAt H i j≠noneZ↔zAt G i j≠noneZ)∧(zAt G i j≠noneZ→zAt H i j=zAt G i j+bz):=by
 have hk:=(zidx i0 i1 j0 j1 hn).2.1;unfold zAt;rw [h.wd]
 rcases h.z _ hk with ⟨h0,h1⟩ | ⟨h0,h1,h2⟩
 ·exact⟨⟨fun k=>absurd h1 k,fun k=>absurd h0 k⟩,fun k=>absurd h0 k⟩
 ·exact⟨⟨fun _=>h0,fun _=>h1⟩,fun _=>h2⟩
end Go.Proofs.YtphpkhoeplcedaaGreat
namespace Go.Proofs.YtphpkhoeplcedaaGreat
open Go.RowKit
theorem r2_of {N:Nat} {w:World} (hN:N≤w.heap.size) (n d:Int) (h1 : -9223372036854775808≤n) (h2:n≤9223372036854775807) (h3 : -9223372036854775808≤d) (h4:d≤9223372036854775807) (hd:d≠0) :
  Calls Tryz.prog 22 #[.int .i64 n,.int .i64 d] w (RetRC N w (Rat.divInt n d)):=by
 obtain⟨q,hq⟩:=hid_eq (Rat.divInt n d);rw [←hq.out];have HD:=Lib.hid hd;clear hd;go_enter Tryz.func22,Tryz.ntmps22;go_wp2_with (go_at_call 65; refine Hid.out ?_);refine boxesC1 ?_;intro W hE hsz B0;refine (r2_whole (N:=N) (by omega) n h1 h2).mono ?_;rintro e w1 ⟨v1,rfl,i1,e1⟩;obtain⟨b5,A5,k5,c5,rfl,hb5,g5,-⟩:=i1.parts;go_wp2_with (go_at_call 65; refine Hid.out ?_);refine (r2_whole (N:=N) (by have:=e1.size; omega) d h3 h4).mono ?_;rintro e w2 ⟨v2,rfl,i2,e2⟩;obtain⟨b6,A6,k6,c6,rfl,hb6,g6,-⟩:=i2.parts;go_wp2_with (go_at_call 64; refine Hid.out ?_);refine (r2_new (i1.ext e2) i2 HD.out (ln_i64 h1 h2) (ln_i64 h3 h4)).mono ?_;rw [←hq.out];rintro e w3 ⟨v3,rfl,hv3,e3⟩;obtain⟨n3,A3,k3,c3,A4,k4,c4,rfl,hb3,g3,g4⟩:=RatV.parts hv3;replace hE:=((hE.trans e1).trans e2).trans e3;have B2:=e3.block (e2.block (e1.block B0));obtain⟨r0,r1,r2,r3,r4,r5,r6,r7⟩:=cells4 B2;go_wp2;obtain⟨w12,E12,F2,U⟩:=ex4 B2 (.bool n3) (.slice A3 k3 c3) (.bool false) (.slice A4 k4 c4);rw [E12];obtain⟨z0,z1,z2,z3,-⟩:=cells4 F2;refine bodyPost_ret (v:=.tuple #[.agg #[.bool n3,.slice A3 k3 c3,.bool false,.slice A4 k4 c4],.int .i64 0]) ?_ rfl ⟨_,rfl,RatV.mk hb3 (g3.upd U (by omega) (NoU.mk B2 (by decide))) (g4.upd U (by omega) (NoU.mk B2 (by decide))),U.ext hE (by omega)⟩;simp [results,Tryz.results22,z0,z1,z2,z3,go_sem]
theorem l49_at {N:Nat} {w:World} {ca cb:Array Value} {vt:Value} {a b:Nat→Rat} {t:Rat} (a2:ca.size=12) (a4:PtV N w ca 0 a) (b2:cb.size=12) (b4:PtV N w cb 0 b) (ht:RatV N w vt t) {K:Nat} (hka:∀ i,i < 3→Ht K (a i)) (hkb:∀ i,i < 3→Ht K (b i)) (hkt:Ht K t) (hK:K≤10000000) :
  Calls Tryz.prog 23 #[.agg ca,.agg cb,vt] w (RetPt N w (fun i=>lin (a i) (b i) t)):=by
 have hN:=ht.le;have HPA:=Lib.hid a4;have HPB:=Lib.hid b4;have SA:=Lib.hid a2;have SB:=Lib.hid b2;have HT:=Lib.hid ht;obtain⟨m1,X1,i1,d1,X2,i2,d2,rfl,hm1,gx1,gx2⟩:=ht.parts;obtain⟨p,hp⟩:=hid_eq (fun i=>lin (a i) (b i) t);rw [←hp.out];clear ht gx1 gx2;have HA:=Lib.hid hka;have HB:=Lib.hid hkb;have HKT:=Lib.hid hkt;clear hka hkb hkt a2 b2 a4 b4;go_enter Tryz.func23,Tryz.ntmps23;go_upto_region 2 with (fail);refine boxes5 ?_;intro W hE hsz B0 B1 B2 B3 B4;have hU:PtUp N W (w.heap.size+1+1+1+1) 0 p:=⟨_,B4,rfl,rfl,fun j hj=>absurd hj (by omega)⟩
 clear B4;have HC:=Lib.hid B0;have HD:=Lib.hid B1;have HE:=Lib.hid B2;have HF:=Lib.hid B3;clear B0 B1 B2 B3;go_wp2
 go_loopw [9] (fun iv wr=>∃ i:Nat,i≤3∧iv=.int .i64 i∧PtUp N wr (w.heap.size+1+1+1+1) i p∧Chg (w.heap.size+1+1+1+1) (w.heap.size+1+1+1+1+1) W wr) (fun iv _=>3 - (intOf iv).toNat)
 case atStart=>exact⟨0,by omega,rfl,hU,Chg.refl _ _ _⟩
 case round =>
  clear hU;obtain⟨i,hi,rfl,hU,hC⟩:=hrel;have hEr:Ext w wr:=hC.ext hE (by omega);have hlt:w.heap.size+1+1+1+1 < wr.heap.size:=hU.lt
  by_cases hi3:i < 3
  case neg =>
   obtain rfl:i=3:=by omega
   obtain⟨c0,k1,k2,k3,k4⟩:=hU;have HK4:=Lib.hid k4;have K2:=Lib.hid k2;have hq1:decide (((3:Nat):Int) < 3)=false:=by decide
   clear k4 k2;go_upto_region 7 with (fail);refine wp_region_lit ?_;refine wpList_load_row rfl 43 _ rfl _ (by rfl) _ c0 _ _ k1 Tryz.underlying43 rfl (by rw [K2.out]; exact info_pt) ?_;try simp only [nr]
   have B3:=hC.blk HF.out (.inl (by omega));refine wpList_store_blk' rfl 43 _ _ rfl (by rfl) (by rfl) B3 info_pt K2.out (Eq.trans ((by rfl:Array.size _=12)) (Eq.symm (K2.out))) k3 ?_;try simp only [nr]
   intro w9 B9 U9;go_wp2;refine bodyPost_ret (results_cell_row rfl _ _ _ _ _ _ _ rfl B9 Tryz.underlying43 rfl (by rw [K2.out]; exact info_pt)) rfl ?_;exact⟨c0,rfl,K2.out,k3,fun j hj=>by rw [Nat.zero_add]; exact (HK4.out j hj).chg (U9.chg (NoU.mk B3 (by decide))) (by omega),U9.ext hEr (by omega)⟩
  have B0:=hC.blk HC.out (.inl (by omega));have B1:=hC.blk HD.out (.inl (by omega));have B2:=hC.blk HE.out (.inl (by omega));have hi3':(i:Int) < 3:=by omega
  obtain⟨x0,x1,x2,x3,-⟩:=cells4 B2;have hRx:=HT.out.ext hEr;have hPa:=((HPA.out i hi3).ext hEr).at4 B0;have hPb:=((HPB.out i hi3).ext hEr).at4 B1;rw [Nat.zero_add] at hPa hPb;obtain⟨Ap,np,cp,A'p,n'p,c'p,p0,p1,p2,p3,hRp⟩:=hPa.val;obtain⟨Aq,nq,cq,A'q,n'q,c'q,q0,q1,q2,q3,hRq⟩:=hPb.val;have hAi:=HA.out i hi3;have hBi:=HB.out i hi3;have hD1:Ht (K+K+1) (b i - a i):=hBi.sub hAi;have hM1:Ht (K+(K+K+1)) (t*(b i - a i)):=HKT.out.mul hD1;have HSA:Hid (Sz (a i)):=hAi.sz (by omega);have HSB:Hid (Sz (b i)):=hBi.sz (by omega);have HST:Hid (Sz t):=HKT.out.sz (by omega);have HSD:Hid (Sz (b i - a i)):=hD1.sz (by omega);have HSM:Hid (Sz (t*(b i - a i))):=hM1.sz (by omega);have HPI:Hid (p i=a i+t*(b i - a i)):=by rw [hp.out]; rfl
  clear hAi hBi hD1 hM1 hPa hPb B0 B1 B2;go_upto_region 5 with (fail);refine regI [Mn.eq (.int .i64 (i:Int)),Mn.eq (.int .i64 (i:Int)),Mn.eq (.pointer (some ⟨w.heap.size,i*4,none⟩)),Mn.rat N (a i),Mn.rat N (t),Mn.eq (.int .i64 (i:Int)),Mn.eq (.pointer (some ⟨w.heap.size+1,i*4,none⟩)),Mn.rat N (b i),Mn.eq (.int .i64 (i:Int)),Mn.eq (.pointer (some ⟨w.heap.size,i*4,none⟩)),Mn.rat N (a i),Mn.rat N (b i - a i),Mn.rat N (t*(b i - a i)),Mn.rat N (a i+t*(b i - a i)),Mn.eq (.pointer (some ⟨w.heap.size+1+1+1+1,i*4,none⟩)),Mn.any] [some 12,some 13,some 14,some 15,some 16,some 17,some 18,some 19,some 20,some 21,some 22,some 23,some 24,some 25,some 26,none] [15] [true,true,true,true,true,true,true,true,true,true,true,true,true,true,true,false] 1 (by kernel_rfl) ?_ ?_
  ·show ∀ i,i < 16→_
   iterate 16 refine fs ?_ ?_
   ·exact fz
   all_goals intro hl
   all_goals first | exact absurd hl (by decide) | skip
   all_goals clear hl
   all_goals refine stp rfl ?_
   all_goals intro ac wi eI hB hA K hK
   have o8:=oOf (hB 8 (by kernel_rfl)) rfl
   rotate_left
   have o8:=oOf (hB 8 (by kernel_rfl)) rfl
   rotate_left
   have o3:=oOf (hB 3 (by kernel_rfl)) rfl;obtain⟨_,s13,rfl⟩:=hA 1 (by kernel_rfl) 13 rfl
   rotate_left
   obtain⟨_,s14,rfl⟩:=hA 2 (by kernel_rfl) 14 rfl;clear hB hA;have cc0:=eI.cell p0;have cc1:=eI.cell p1;have cc2:=eI.cell p2;have cc3:=eI.cell p3
   ·go_simp;exact hK.out _ _ (Ext.refl _) (hRp.ext eI)
   have o5:=oOf (hB 5 (by kernel_rfl)) rfl;clear hB hA;have cc0:=eI.cell x0;have cc1:=eI.cell x1;have cc2:=eI.cell x2;have cc3:=eI.cell x3
   ·go_simp;exact hK.out _ _ (Ext.refl _) (hRx.ext eI)
   have o8:=oOf (hB 8 (by kernel_rfl)) rfl
   rotate_left
   have o4:=oOf (hB 4 (by kernel_rfl)) rfl;obtain⟨_,s17,rfl⟩:=hA 5 (by kernel_rfl) 17 rfl
   rotate_left
   obtain⟨_,s18,rfl⟩:=hA 6 (by kernel_rfl) 18 rfl;clear hB hA;have cc0:=eI.cell q0;have cc1:=eI.cell q1;have cc2:=eI.cell q2;have cc3:=eI.cell q3
   ·go_simp;exact hK.out _ _ (Ext.refl _) (hRq.ext eI)
   have o8:=oOf (hB 8 (by kernel_rfl)) rfl
   rotate_left
   have o3:=oOf (hB 3 (by kernel_rfl)) rfl;obtain⟨_,s20,rfl⟩:=hA 8 (by kernel_rfl) 20 rfl
   rotate_left
   obtain⟨_,s21,rfl⟩:=hA 9 (by kernel_rfl) 21 rfl;clear hB hA;have cc0:=eI.cell p0;have cc1:=eI.cell p1;have cc2:=eI.cell p2;have cc3:=eI.cell p3
   ·go_simp;exact hK.out _ _ (Ext.refl _) (hRp.ext eI)
   obtain⟨x19,s19,j19⟩:=hA 7 (by kernel_rfl) 19 rfl;replace j19:Mn.p (Mn.rat N (b i)) x19 wi:=j19;obtain⟨x22,s22,j22⟩:=hA 10 (by kernel_rfl) 22 rfl;replace j22:Mn.p (Mn.rat N (a i)) x22 wi:=j22;clear hB hA
   ·go_simp;refine (r2_sub j19 j22 HSB.out HSA.out).mono ?_;rintro e wj ⟨vj,rfl,hj,ej⟩;go_wp2_with fail;exact hK.out _ _ ej hj
   obtain⟨x16,s16,j16⟩:=hA 4 (by kernel_rfl) 16 rfl;replace j16:Mn.p (Mn.rat N (t)) x16 wi:=j16;obtain⟨x23,s23,j23⟩:=hA 11 (by kernel_rfl) 23 rfl;replace j23:Mn.p (Mn.rat N (b i - a i)) x23 wi:=j23;clear hB hA
   ·go_simp;refine (r2_mul j16 j23 HST.out HSD.out).mono ?_;rintro e wj ⟨vj,rfl,hj,ej⟩;go_wp2_with fail;exact hK.out _ _ ej hj
   obtain⟨x15,s15,j15⟩:=hA 3 (by kernel_rfl) 15 rfl;replace j15:Mn.p (Mn.rat N (a i)) x15 wi:=j15;obtain⟨x24,s24,j24⟩:=hA 12 (by kernel_rfl) 24 rfl;replace j24:Mn.p (Mn.rat N (t*(b i - a i))) x24 wi:=j24;clear hB hA
   ·go_simp;refine (r2_add j15 j24 HSA.out HSM.out).mono ?_;rintro e wj ⟨vj,rfl,hj,ej⟩;go_wp2_with fail;exact hK.out _ _ ej hj
   have o7:=oOf (hB 7 (by kernel_rfl)) rfl;obtain⟨_,s12,rfl⟩:=hA 0 (by kernel_rfl) 12 rfl
   rotate_left
   all_goals clear hB hA
   all_goals go_simp
   all_goals exact hK.out _ _ (Ext.refl _) rfl
  intro vals wz eZ hJ;have J25:Mn.p (Mn.rat N (a i+t*(b i - a i))) (vals 13) wz:=hJ 13 (by decide) (by decide);have J26:vals 14=_:=hJ 14 (by decide) (by decide);clear hJ;simp only [pr,Nat.reduceAdd,J26];clear J26
  generalize vals 13=z25 at J25 ⊢
  obtain⟨bz,Az,kz,cz,Az',kz',cz',rfl,hbz,gz1,gz2⟩:=RatV.parts J25;replace hU:=hU.ext eZ;obtain⟨u0,v0⟩:=hU.there (o:=i*4) (by omega);obtain⟨u1,v1⟩:=hU.there (o:=i*4+1) (by omega);obtain⟨u2,v2⟩:=hU.there (o:=i*4+2) (by omega);obtain⟨u3,v3⟩:=hU.there (o:=i*4+3) (by omega);have f0:=hU.frozen (i*4);have f1:=hU.frozen (i*4+1);have f2:=hU.frozen (i*4+2);have f3:=hU.frozen (i*4+3);refine stepL_late (i:=15) rfl (by kernel_rfl) (by kernel_rfl) (fun K hK=>?_);go_simp;refine hK.out _ _ ?_;clear hK K;try simp only [nr]
  refine stepL_done (by kernel_rfl) ?_ _;rw [←HPI.out] at hbz gz1 gz2;obtain⟨w9,E9,C9,S9,hU9⟩:=hU.set hi3 (by omega) hbz gz1 gz2;rw [E9];go_wp2;go_roundw
  case rel=>exact⟨i+1,by omega,by go_num,hU9,(hC.trans (eZ.chg _ _)).trans C9⟩
  case measure=>simp [intOf]; omega
def GrowC (base:Nat) (w:World) (v:Value) (n:Nat) (xs:List Value):Prop:=base≤w.heap.size∧w.ownsRow base 29 4 v n xs
theorem GrowC.ext {base:Nat} {w w':World} {v:Value} {n:Nat} {xs:List Value} (h:GrowC base w v n xs) (e:Ext w w'):GrowC base w' v n xs:=by
 refine⟨Nat.le_trans h.1 e.size,h.2.1,?_⟩
 rcases h.2.2 with h0 | ⟨g,cap,cur,hv,hb,hh,h1,h2,h3,h4⟩
 ·exact .inl h0
 ·exact .inr ⟨g,cap,cur,hv,hb,e.block hh,h1,h2,h3,h4⟩
theorem info_ratc:(Tryz.prog.info? 29).map (fun i=>(i.zero,i.size,i.bytes))=some (some (.agg #[.bool false,.slice none 0 0,.bool false,.slice none 0 0]),4,64):=by kernel_rfl
theorem wp_append_c {base:Nat} {w:World} {v:Value} {n m:Nat} {xs:List Value} {cs:Array Value} {o:Oper} {a:Act} {K:Act→World→Prop} {Q:Exit→Act→World→Prop} (s x:Operand) (t:TypeId) (ht:Tryz.prog.underlying t=some (.slice 29))
  (ho:o.op=.call { callee:=.builtin .append,args:=#[s,x],argTypes:=#[t,t] }) (hs:a.eval s=v) (h:GrowC base w v n xs) {b:Nat} {c:Nat} (hx:a.eval x=.slice (some ⟨b,0,none⟩) m c) {fr:Nat×Nat} {ty:TypeId} (hb:w.heap[b]?=some (.cells cs ty fr)) (hm:cs.size=m*4) (h1:cs.toList.all (·.oneCell')=true) (h0:0 < m) (hn:n+m < 1000000000)
  (hK:∀ g cap w' g',GrowC base w' (.slice (some ⟨g,0,none⟩) (n+m) cap) (n+m) (xs ++ cs.toList)→base≤g'→Chg g' (g'+1) w w'→K (a.put o.dst (.slice (some ⟨g,0,none⟩) (n+m) cap)) w'):o.wp Tryz.prog a w K Q:=by
 obtain⟨i0,hi0,hz0,hz1,hz2⟩:=info_parts info_ratc;obtain⟨hb0,hown⟩:=h
 obtain⟨g,cap,w',hrun,hO,hgr,hat,hlt⟩:=run_append_lies (P:=Tryz.prog) w t o.type base 29 i0 _ 4 64 ht hi0 hz0 hz1 hz2 rfl (by omega) v n xs hown ⟨b,0,none⟩ m c cs.toList (by rw [Array.length_toList]; exact hm)
  (fun j u hj=>by rw [add_addr,cell_blk hb,Nat.zero_add]; simpa using hj) (fun u hu=>List.all_eq_true.1 h1 u hu) h0 (by unfold maxLen; omega)
  (by omega) hb0 w.heap.size rfl
 unfold Oper.wp;simp only [execOp,ho,resolve,invoke,builtin,Sem.run_bind,Sem.run_pure,Result.andThen_ok,List.map_toArray,List.map_cons,List.map_nil,hs,hx,hrun];have hG:GrowC base w' (.slice (some ⟨g,0,none⟩) (n+m) cap) (n+m) (xs ++ cs.toList):=⟨Nat.le_trans hb0 hgr.size,hO⟩
 have hT:NoU w w.heap.size:=fun cs fr h=>by rw [Array.getElem?_eq_none (Nat.le_refl _)] at h; cases h
 rcases hown.2 with ⟨rfl,h0⟩ | ⟨g0,cap0,cur,rfl,hbb,hh,_⟩
 ·exact hK g cap w' w.heap.size hG hb0 (grown_chg hgr (fun k hk=>by simp [Value.ownBlock] at hk) hT)
 ·have hT0:NoU w g0:=NoU.mk hh (by decide);exact hK g cap w' g0 hG hbb (grown_chg hgr (fun k hk=>by simpa [Value.ownBlock] using hk.symm) hT0)
theorem step_append_c {base:Nat} {w:World} {v:Value} {n m:Nat} {xs:List Value} {cs:Array Value} {ops:Array Oper} {o:Oper} {a:Act} {K:Act→World→Prop} {Q:Exit→Act→World→Prop} {E:Prop} (hgd:o.guard=none) (s x:Operand) (t:TypeId) (ht:Tryz.prog.underlying t=some (.slice 29))
  (ho:o.op=.call { callee:=.builtin .append,args:=#[s,x],argTypes:=#[t,t] }) (hs:a.eval s=v) (h:GrowC base w v n xs) {b:Nat} {c:Nat} (hx:a.eval x=.slice (some ⟨b,0,none⟩) m c) {fr:Nat×Nat} {ty:TypeId} (hb:w.heap[b]?=some (.cells cs ty fr)) (hm:cs.size=m*4) (h1:cs.toList.all (·.oneCell')=true) (h0:0 < m) (hn:n+m < 1000000000)
  (hK:∀ g cap w' g',GrowC base w' (.slice (some ⟨g,0,none⟩) (n+m) cap) (n+m) (xs ++ cs.toList)→base≤g'→Chg g' (g'+1) w w'→K (a.put o.dst (.slice (some ⟨g,0,none⟩) (n+m) cap)) w') :
  if Region.wanted o (yielded ops a.tmps)=true then Oper.wp Tryz.prog o a w K Q else E:=by
 have hw:Region.wanted o (yielded ops a.tmps)=true:=by simp [Region.wanted,hgd]
 rw [if_pos hw];exact wp_append_c s x t ht ho hs h hx hb hm h1 h0 hn hK
def Mn.gc (lo n:Nat) (xs:List Value):Mn:=⟨fun v w=>∃ g cap,v=.slice (some ⟨g,0,none⟩) n cap∧GrowC lo w v n xs,fun e h=>by
 obtain⟨g,cap,h0,h1⟩:=h
 exact⟨g,cap,h0,h1.ext e⟩⟩
theorem GrowC.empty {base g:Nat} {w:World} (hb:base≤g) (h:w.heap[g]?=some (.cells #[] 29 (0,0))):GrowC base w (.slice (some ⟨g,0,none⟩) 0 0) 0 [] :=
 ⟨by have:=blk_lt h; omega,by simp,.inr ⟨g,0,#[],rfl,hb,h,Nat.le_refl _,by unfold maxLen; omega,rfl,rfl⟩⟩
def RetGc (w:World) (n:Nat) (xs:List Value) (e:Ending) (w':World):Prop:=∃ g cap,e=.returned (.slice (some ⟨g,0,none⟩) n cap)∧GrowC w.heap.size w' (.slice (some ⟨g,0,none⟩) n cap) n xs∧Ext w w'
theorem GrowC.mono {base base' n:Nat} {w:World} {v:Value} {xs:List Value} (h:GrowC base w v n xs) (hb:base'≤base):GrowC base' w v n xs:=by
 refine⟨Nat.le_trans hb h.1,h.2.1,?_⟩
 rcases h.2.2 with h0 | ⟨g,cap,cur,hv,hB,hh,h1,h2,h3,h4⟩
 ·exact .inl h0
 ·exact .inr ⟨g,cap,cur,hv,Nat.le_trans hb hB,hh,h1,h2,h3,h4⟩
theorem l49_both {w:World} {ca cb:Array Value} (a2:ca.size=12) (a3:ca.toList.all (·.oneCell')=true) (b2:cb.size=12) (b3:cb.toList.all (·.oneCell')=true) :
  Calls Tryz.prog 17 #[.agg ca,.agg cb] w (RetGc w 6 (ca.toList ++ cb.toList)):=by
 have ZA:=Lib.hid a2;have ZB:=Lib.hid b2;have OA:=Lib.hid a3;have OB:=Lib.hid b3;clear a2 a3 b2 b3;go_enter Tryz.func17,Tryz.ntmps17;go_upto_region 1 with (fail);refine boxes2 ?_;intro W hE hsz B0 B1;have HB0:=Lib.hid B0;have HB1:=Lib.hid B1;clear B0 B1;have eC:=(Ext.refl W).drew;refine region_late (fun w'=>True) [] (by kernel_rfl) (by exact trivial) (fun hHeld=>?_);refine sP 1 (h:=?_);try simp only [nr]
 refine sP 3 (h:=?_);try simp only [nr]
 refine stepL_only (i:=0) rfl (by kernel_rfl) (fun K hK=>?_);go_simp;have hsz0:=eC.size
 first | refine boxes1 ?_ | refine boxesD1 ?_
 intro w3 e3 hsz3 BJ;replace eC:Ext W w3:=by first | exact eC.trans e3 | exact e3
 have hg0:=GrowC.empty (base:=W.heap.size) hsz0 BJ;clear hHeld;refine hK.out _ _ (by exact trivial) fun hHeld=>?_
 clear hK K;try simp only [nr]
 refine stepL_only (i:=2) rfl (by kernel_rfl) (fun K hK=>?_);refine step_append_c rfl _ _ 45 Tryz.underlying45 rfl (by rfl) hg0 (m:=3) (c:=3) (by rfl) (eC.block HB0.out) ZA.out OA.out (by omega) (by omega) ?_;intro g1 cap1 w4 p1 hg1 hb1 C1;replace eC:=C1.ext eC hb1;clear hHeld;refine hK.out _ _ (by exact trivial) fun hHeld=>?_
 clear hK K;try simp only [nr]
 refine stepL_only (i:=4) rfl (by kernel_rfl) (fun K hK=>?_);refine step_append_c rfl _ _ 45 Tryz.underlying45 rfl (by rfl) hg1 (m:=3) (c:=3) (by rfl) (eC.block HB1.out) ZB.out OB.out (by omega) (by omega) ?_;intro g2 cap2 w5 p2 hg2 hb2 C2;replace eC:=C2.ext eC hb2;clear hHeld;refine hK.out _ _ (by exact trivial) fun hHeld=>?_
 clear hK K;try simp only [nr]
 refine sP 5 (h:=?_);try simp only [nr]
 refine stepL_done (by kernel_rfl) ?_ _;clear hHeld;go_wp2;go_ret;exact⟨g2,cap2,rfl,hg2.mono (by have:=hE.size; omega),hE.trans eC⟩
def ratOf (R:Raw):Rat:=Rat.divInt (zval R.b1 R.l1) (zval R.b2 R.l2)
theorem ratOf_raw (q:Rat):ratOf (raw q)=q:=by
 unfold ratOf raw;have h4:zval false (dg q.den)=(q.den:Int):=by unfold zval; rw [val_dg]; simp
 simp only [zval_canon,h4];exact Rat.num_divInt_den q
theorem raw_ratOf {R:Raw} (h:okR R=true):R=raw (ratOf R):=by
 obtain⟨q,rfl⟩:=okR_spec h;rw [ratOf_raw]
theorem wp_load_part {o:Oper} {a:Act} {w:World} {K:Act→World→Prop} {Q:Exit→Act→World→Prop} (ty:TypeId) (x:Operand) (ho:o.op=.load ty x) (g k:Nat) (hx:a.eval x=.pointer (some ⟨g,k,none⟩)) (cs:Array Value)
  (hc:∀ j v,cs[j]?=some v→w.cell? ⟨g,k+j,none⟩=some v) (d:TypeDesc) (hu:Tryz.prog.underlying ty=some d) (hd:d.isRow=true) (hi:(Tryz.prog.info? ty).map (·.size)=some cs.size) (h:K (a.put o.dst (.agg cs)) w):o.wp Tryz.prog a w K Q :=
 wp_load_mid ty x ho g k hx cs.toList d (fun j v hv=>hc j v (by rw [←Array.getElem?_toList]; exact hv)) hu hd (by rw [Array.length_toList]; exact hi) h
theorem wpList_load_part {ops:Array Oper} {rest:List Oper} {o:Oper} {a:Act} {w:World} {Q:Exit→Act→World→Prop} (hgd:o.guard=none) (ty:TypeId) (x:Operand) (ho:o.op=.load ty x) (g k:Nat) (hx:a.eval x=.pointer (some ⟨g,k,none⟩)) (cs:Array Value)
  (hc:∀ j v,cs[j]?=some v→w.cell? ⟨g,k+j,none⟩=some v) (d:TypeDesc) (hu:Tryz.prog.underlying ty=some d) (hd:d.isRow=true) (hi:(Tryz.prog.info? ty).map (·.size)=some cs.size) (h:wpList Tryz.prog ops Q rest (a.put o.dst (.agg cs)) w):wpList Tryz.prog ops Q (o :: rest) a w :=
 wpList_plain hgd fun _ hK=>wp_load_part ty x ho g k hx cs hc d hu hd hi (hK _ _ h)
theorem part_l {w:World} {g:Nat} {ca cb:Array Value} {t:TypeId} {fr:Nat×Nat} (hb:w.heap[g]?=some (.cells (ca ++ cb) t fr)):∀ j v,ca[j]?=some v→w.cell? ⟨g,0+j,none⟩=some v:=by
 intro j v hv
 have hj:j < ca.size:=by
  rcases Nat.lt_or_ge j ca.size with h | h
  ·exact h
  ·rw [Array.getElem?_eq_none h] at hv; cases hv
 rw [cell_blk hb,Nat.zero_add,Array.getElem?_append_left hj];exact hv
theorem part_r {w:World} {g:Nat} {ca cb:Array Value} {t:TypeId} {fr:Nat×Nat} (hb:w.heap[g]?=some (.cells (ca ++ cb) t fr)) (ha:ca.size=12):∀ j v,cb[j]?=some v→w.cell? ⟨g,12+j,none⟩=some v:=by
 intro j v hv;rw [cell_blk hb,Array.getElem?_append_right (by omega),show 12+j - ca.size=j by omega];exact hv
def Mn.bs (lo n:Nat) (cs:Array Value) (t:TypeId):Mn:=⟨fun v w=>∃ b,v=.slice (some ⟨b,0,none⟩) n n∧lo≤b∧w.heap[b]?=some (.cells cs t (0,0)),fun e h=>by
 obtain⟨b,h0,h1,h2⟩:=h
 exact⟨b,h0,h1,e.block h2⟩⟩
theorem GrowC.ls {N base g n cap:Nat} {w:World} {cs:Array Value} {R:Nat→Raw} (h:GrowC base w (.slice (some ⟨g,0,none⟩) n cap) n cs.toList) (hN:N≤base) (hR:∀ i,i < n→ArV N w cs (i*4) (R i)):LsR N 0 w.heap.size w (.slice (some ⟨g,0,none⟩) n cap) n R:=by
 obtain⟨hb0,-,⟨h0,-⟩ | ⟨g',cap',cur,hv,hb,hh,h1,h2,h3,h4⟩⟩:=h
 ·cases h0
 ·injection hv with hv1 hv2 hv3
  injection hv1 with hv1
  injection hv1 with hv1
  subst hv1 hv3
  have hcur:∀ (j:Nat) (x:Value),cs[j]?=some x→cur[j]?=some x:=by
   intro j x hx;rw [←Array.getElem?_toList,←h4,List.getElem?_take] at hx
   split at hx
   ·rw [←Array.getElem?_toList]; exact hx
   ·cases hx
  refine⟨by omega,Nat.le_refl _,_,_,rfl,h1,h2,fun _=>⟨g,0,rfl,Nat.zero_le _,blk_lt hh,fun i hi=>?_⟩⟩;obtain⟨s,t,k1,k2,k3,k4,k5,k6⟩:=hR i hi
  have:ArV N w cur (0+i*4) (R i):=by
   rw [Nat.zero_add];exact⟨s,t,hcur _ _ k1,hcur _ _ k2,hcur _ _ k3,hcur _ _ k4,k5,k6⟩
  exact this.at4 hh
def r6 (Ra Rb:Nat→Raw) (i:Nat):Raw:=if i < 3 then Ra i else Rb (i - 3)
def r7 (Ra Rb:Nat→Raw) (R:Raw) (i:Nat):Raw:=if i < 6 then r6 Ra Rb i else R
theorem ar6 {N:Nat} {w:World} {ca cb:Array Value} {Ra Rb:Nat→Raw} (ha:PtA N w ca Ra) (hb:PtA N w cb Rb) (i:Nat) (hi:i < 6):ArV N w (ca ++ cb) (i*4) (r6 Ra Rb i):=by
 have sa:=ha.size;unfold r6
 split
 ·rename_i h3
  have h:=(ha.pt i h3).shift (cs':=ca ++ cb) (o:=0) h3 (fun k hk=>by rw [Nat.zero_add,Array.getElem?_append_left (by omega)]);rw [Nat.zero_add] at h;exact h
 ·have h:=(hb.pt (i - 3) (by omega)).shift (cs':=ca ++ cb) (o:=12) (by omega) (fun k hk=>by rw [Array.getElem?_append_right (by omega)]; congr 1; omega);rw [show 12+(i - 3)*4=i*4 by omega] at h;exact h
theorem r6_l {Ra Rb:Nat→Raw} {i:Nat} (h:i < 3):r6 Ra Rb i=Ra i:=if_pos h
theorem r6_r {Ra Rb:Nat→Raw} {i:Nat}:r6 Ra Rb (i+3)=Rb i:=by
 unfold r6;rw [if_neg (by omega),show i+3 - 3=i by omega]
theorem r6_all {p:Raw→Prop} {Ra Rb:Nat→Raw}:(∀ i,i < 6→p (r6 Ra Rb i))↔(∀ i,i < 3→p (Ra i))∧(∀ i,i < 3→p (Rb i)):=by
 constructor
 ·intro h;exact⟨fun i hi=>by have:=h i (by omega); rw [r6_l hi] at this; exact this,fun i hi=>by have:=h (i+3) (by omega); rw [r6_r] at this; exact this⟩
 ·rintro⟨h1,h2⟩ i hi;unfold r6
  split
  ·exact h1 i (by assumption)
  ·exact h2 (i - 3) (by omega)
theorem bool_iff {x y:Bool} (h:x=true↔y=true):x=y:=by
 cases x <;> cases y <;> simp_all
theorem code_chk6 {G:Grd} {Ra Rb R:Nat→Raw}:code49 G 6 (r6 Ra Rb)=chk G Ra Rb 0 R:=by
 unfold code49 chk
 have e:allB 6 (fun i=>okR (r6 Ra Rb i))=(allB 3 (fun i=>okR (Ra i)) && (allB 3 (fun i=>okR (Rb i)) && allB 0 (fun i=>okR (R i)))):=by
  refine bool_iff ?_;rw [Bool.and_eq_true,Bool.and_eq_true,allB_true,allB_true,allB_true,allB_true,r6_all (p:=fun r=>okR r=true)];exact⟨fun ⟨h1,h2⟩=>⟨h1,h2,fun i hi=>absurd hi (by omega)⟩,fun ⟨h1,h2,_⟩=>⟨h1,h2⟩⟩
 rw [e]
theorem chk_parts {G:Grd} {Ra Rb R:Nat→Raw} {k:Nat} (h:chk G Ra Rb k R=0):grdCode G=0∧(∀ i,i < 3→okR (Ra i)=true)∧(∀ i,i < 3→okR (Rb i)=true)∧(∀ i,i < k→okR (R i)=true):=by
 unfold chk at h
 split at h
 ·rename_i h0; exact absurd h h0
 ·rename_i h0
  split at h
  ·rename_i h1
   rw [Bool.and_eq_true,Bool.and_eq_true,allB_true,allB_true,allB_true] at h1;exact⟨by simpa using h0,h1.1,h1.2.1,h1.2.2⟩
  ·cases h
theorem few49_all {G:Grd} {k:Nat} {R:Nat→Raw} (h:few49 G k R=true):∀ i,i < k→briefB (R i)=true:=by
 unfold few49 at h;rw [Bool.and_eq_true] at h;exact allB_true.1 h.2
theorem raws_of {Ra:Nat→Raw} (h:∀ i,i < 3→okR (Ra i)=true):∃ a:Nat→Rat,∀ i,i < 3→Ra i=raw (a i):=⟨fun i=>ratOf (Ra i),fun i hi=>raw_ratOf (h i hi)⟩
theorem PtA.congr {N:Nat} {w:World} {cs:Array Value} {R R':Nat→Raw} (h:PtA N w cs R) (e:∀ i,i < 3→R i=R' i):PtA N w cs R':=⟨fun i hi=>by rw [←e i hi]; exact h.pt i hi,h.size,h.one⟩
theorem sok_of {G:Grd} {a b:Nat→Rat} (hg:grdCode G=0) (ha:∀ i,i < 3→briefB (raw (a i))=true) (hb:∀ i,i < 3→briefB (raw (b i))=true):SOk G 17 a b :=
 ⟨grd_ok hg,fun i hi=>brief_ht (ha i hi),fun i hi=>brief_ht (hb i hi),fun i hi=>brief_bd (ha i hi),fun i hi=>brief_bd (hb i hi)⟩
theorem info_rat4:(Tryz.prog.info? 29).map (·.size)=some 4:=by kernel_rfl
def IzB (w:World) (g cap n:Nat) (z:Nat→Int):Prop :=
 ∃ cs,w.heap[g]?=some (.cells cs 3 (0,0))∧cs.size=cap∧n≤cap∧cap≤maxLen∧∀ k,k < n→cs[k]?=some (.int .i64 (z k))
theorem IzB.cell {w:World} {g cap n:Nat} {z:Nat→Int} (h:IzB w g cap n z) {k:Nat} (hk:k < n):w.cell? ⟨g,k,none⟩=some (.int .i64 (z k)):=by
 obtain⟨cs,h1,h2,h3,h4,h5⟩:=h;rw [cell_blk h1];exact h5 k hk
theorem IzB.frozen {w:World} {g cap n:Nat} {z:Nat→Int} (h:IzB w g cap n z) (k:Nat):w.frozen? ⟨g,k,none⟩=false:=by
 obtain⟨cs,h1,-⟩:=h;simp [World.frozen?,h1]
theorem IzB.lt {w:World} {g cap n:Nat} {z:Nat→Int} (h:IzB w g cap n z):g < w.heap.size:=by
 obtain⟨cs,h1,-⟩:=h;exact blk_lt h1
theorem IzB.noU {w:World} {g cap n:Nat} {z:Nat→Int} (h:IzB w g cap n z):NoU w g:=by
 obtain⟨cs,h1,-⟩:=h;exact NoU.mk h1 (by decide)
theorem IzB.ext {w w':World} {g cap n:Nat} {z:Nat→Int} (h:IzB w g cap n z) (e:Ext w w'):IzB w' g cap n z:=by
 obtain⟨cs,h1,h2⟩:=h;exact⟨cs,e.block h1,h2⟩
theorem IzB.congr {w:World} {g cap n:Nat} {z z':Nat→Int} (h:IzB w g cap n z) (e:∀ k,k < n→z k=z' k):IzB w g cap n z':=by
 obtain⟨cs,h1,h2,h3,h4,h5⟩:=h;exact⟨cs,h1,h2,h3,h4,fun k hk=>by rw [←e k hk]; exact h5 k hk⟩
theorem IzB.set {w:World} {g cap n:Nat} {z:Nat→Int} (h:IzB w g cap n z) {k:Nat} (hk:k < n) (u:Int):∃ w',w.setCell ⟨g,k,none⟩ (.int .i64 u)=w'∧Upd g w w'∧IzB w' g cap n (fun j=>if j=k then u else z j):=by
 obtain⟨cs,h1,h2,h3,h4,h5⟩:=h;refine⟨_,rfl,(Upd.refl g w).set k _,_,heap_set h1 k (.int .i64 u),?_,h3,h4,fun j hj=>?_⟩
 ·simp [h2]
 ·show _=some (Value.int .i64 (if j=k then u else z j))
  rw [Array.getElem?_setIfInBounds]
  by_cases e:j=k
  ·subst e;rw [if_pos rfl,if_pos (by omega),if_pos rfl]
  ·rw [if_neg (fun h=>e h.symm),if_neg e];exact h5 j hj
theorem IzB.iz {N w g cap n} {z:Nat→Int} (h:IzB w g cap n z):IzV N 0 0 w (.slice (some ⟨g,0,none⟩) n cap) n z:=by
 have hc:=h;obtain⟨cs,h1,h2,h3,h4,h5⟩:=h;exact⟨rfl,_,cap,rfl,h3,h4,fun _=>⟨g,0,rfl,fun i hi=>by rw [Nat.zero_add]; exact hc.cell hi⟩⟩
def RetCloneI (w:World) (n:Nat) (z:Nat→Int) (e:Ending) (w':World):Prop :=
 ∃ g cap,e=.returned (.slice (some ⟨g,0,none⟩) n cap)∧w.heap.size≤g∧IzB w' g cap n z∧Ext w w'
theorem sl_cloneI {N lo hi:Nat} {w:World} {v:Value} {n:Nat} {z:Nat→Int} (h:IzV N lo hi w v n z) (hn0:0 < n) (hn:n < 1000000) :
  Calls Tryz.prog 21 #[v] w (RetCloneI w n z):=by
 obtain⟨Rf,hRf⟩:=hid_eq (RetCloneI w n z);rw [←hRf.out];obtain⟨A1,c1,rfl,hmc,hcm⟩:=h.form;obtain⟨-,A2,c2,hv,-,-,hz⟩:=h;injection hv with hv1 hv2 hv3
 subst hv1;obtain⟨b,off,rfl,hcell⟩:=hz hn0;clear hv2 hv3 hz;have hnl:=fun (w:World) (a:Option Addr) (n c:Nat)=>Lib.run_eql_slice_nil (P:=Tryz.prog) w 22 3 a n c 0 0 Tryz.underlying22
 go_enter Tryz.func21,Tryz.ntmps21;go_wp2_with (at_builtin; refine Hid.out ?_);refine boxes1 ?_;intro W hE hsz B0;refine wpList_append_o one_int rfl _ _ 22 Tryz.underlying22 rfl (by rfl) (GrowO.empty (Nat.le_refl _) B0) (by rfl) (news:=(List.range n).map (fun k=>.int .i64 (z k))) (by simp) (fun j u hj=>?_) (fun u hu=>?_) hn0 (by simp; omega) ?_
 ·simp only [List.getElem?_map,Option.map_eq_some_iff,List.getElem?_range'] at hj;obtain⟨k,hk,rfl⟩:=hj
  have hjn:j < n:=by
   rcases Nat.lt_or_ge j n with h9 | h9
   ·exact h9
   ·rw [List.getElem?_eq_none (by simpa using h9)] at hk; cases hk
  rw [List.getElem?_range hjn] at hk;injection hk with hk
  subst hk;exact hE.cell (hcell j hjn)
 ·obtain⟨k,-,rfl⟩:=List.mem_map.1 hu
  rfl
 rintro g cap w2 hG - ⟨g',hg',-,C2,-⟩;have hE2:=C2.ext hE (by omega);obtain⟨g1,cap1,hv,hg,hgl,hcm1,hnc,⟨cs,hcs,hcz⟩,hel⟩:=hG.at_ (by simp; omega);injection hv with e1 e2 e3
 injection e1 with e1
 injection e1 with e1
 subst e1 e3;simp only [List.nil_append,List.length_map,List.length_range,List.length_nil,Nat.zero_add] at hnc hel hG ⊢
 have hB:IzB w2 g cap n z:=⟨cs,hcs,hcz,hnc,hcm1,fun k hk=>by
  have h9:=hel k hk;rw [cell_blk hcs] at h9;rw [h9]
  simp⟩
 go_wp2
 first | go_ret | skip
 rw [hRf.out];exact⟨g,cap,rfl,by omega,hB,hE2⟩
def U8V (w:World) (v:Value) (k:Nat) (z:Nat→Int):Prop :=
 (∃ A c,v=.slice A k c∧k≤c∧c≤maxLen∧(0 < k→∃ b off,A=some ⟨b,off,none⟩∧∀ i,i < k→w.cell? ⟨b,off+i,none⟩=some (.int .u8 (z i))))∧∀ i,i < k→0≤z i∧z i≤255
theorem gc_ls {N lo n:Nat} {w:World} {v:Value} {cs:Array Value} {R:Nat→Raw} (h:Mn.p (Mn.gc lo n cs.toList) v w) (hN:N≤lo) (hR:∀ i,i < n→ArV N w cs (i*4) (R i)):LsR N 0 w.heap.size w v n R:=by
 obtain⟨g,cap,rfl,h1⟩:=h;exact h1.ls hN hR
theorem set6 {w:World} {g:Nat} {t:TypeId} {y0 y1 y2 y3 y4 y5:Value} (hb:w.heap[g]?=some (.cells #[y0,y1,y2,y3,y4,y5] t (0,0))) (x0:Value):∃ w1,w.setCell ⟨g,5,none⟩ x0=w1∧w1.heap[g]?=some (.cells #[y0,y1,y2,y3,y4,x0] t (0,0))∧Upd g w w1 :=
 ⟨_,rfl,by have h1:=heap_set hb 5 x0; simpa using h1,(Upd.refl g w).set 5 x0⟩
theorem blk_free {w:World} {g:Nat} {cs:Array Value} {t:TypeId} (h:w.heap[g]?=some (.cells cs t (0,0))) (k:Nat):w.frozen? ⟨g,k,none⟩=false:=by simp [World.frozen?,h]
theorem IzB.chg {w w':World} {g cap n l u:Nat} {z:Nat→Int} (h:IzB w g cap n z) (c:Chg l u w w') (hd:g < l∨u≤g):IzB w' g cap n z:=by
 obtain⟨cs,h1,h2⟩:=h;exact⟨cs,c.blk h1 hd,h2⟩
def lowZ (z n:Int):Int:=if 250 < n then noneZ else if z≠noneZ∧-1048576≤z - n % 8 then z - n % 8 else z
def lowG (G:Grd) (f:Nat→Int):Grd:=⟨G.x0,G.y0,G.st,G.wd,G.ht,G.n,fun j=>lowZ (G.z j) (f j)⟩
def mixI (x y:Nat→Int) (i j:Nat):Int:=if j < i then x j else y j
theorem mix_step {f z z':Nat→Int} {i:Nat} (h:∀ j,j≠i→z' j=mixI f z i j) (hu:z' i=f i) (j:Nat):z' j=mixI f z (i+1) j:=by
 by_cases e:j=i
 ·subst e;rw [hu];unfold mixI;rw [if_pos (by omega)]
 ·rw [h j e];unfold mixI
  by_cases hj:j < i
  ·rw [if_pos hj,if_pos (by omega)]
  ·rw [if_neg hj,if_neg (by omega)]
theorem mix_set {f z y:Nat→Int} {i:Nat} {u:Int} (h:∀ j,j≠i→y j=mixI f z i j) (hu:u=f i) (j:Nat):(fun j=>if j=i then u else y j) j=mixI f z (i+1) j :=
 mix_step (z':=fun j=>if j=i then u else y j) (fun j hj=>(if_neg hj).trans (h j hj)) ((if_pos rfl).trans hu) j
theorem low_le (G:Grd) (f:Nat→Int) (hf:∀ j,0≤f j):LowG G (lowG G f):=by
 refine⟨rfl,rfl,rfl,rfl,rfl,fun j _=>?_⟩
 show lowZ (G.z j) (f j)=noneZ∨_
 have:=hf j;unfold lowZ
 split
 ·exact .inl rfl
 ·split
  ·rename_i h1 h2
   right
   refine⟨h2.1,?_⟩
   show (if 250 < f j then noneZ else if G.z j≠noneZ∧-1048576≤G.z j - f j % 8 then G.z j - f j % 8 else G.z j)≤G.z j
   rw [if_neg h1,if_pos h2];omega
  ·rename_i h1 h2
   by_cases h0:G.z j=noneZ
   ·exact .inl h0
   ·right
    refine⟨h0,?_⟩
    show (if 250 < f j then noneZ else if G.z j≠noneZ∧-1048576≤G.z j - f j % 8 then G.z j - f j % 8 else G.z j)≤G.z j
    rw [if_neg h1,if_neg h2];omega
theorem low_code {G:Grd} {f:Nat→Int} (h:grdCode G=0) (hf:∀ j,0≤f j):grdCode (lowG G f)=0:=by
 have hz:=(grd_ok h).z;unfold grdCode at h ⊢
 split at h
 ·cases h
 ·rename_i h1
  split at h
  ·cases h
  ·rename_i h2
   split at h
   ·cases h
   ·rename_i h3
    rw [if_neg (show ¬ frmB (lowG G f)=false from h1),if_neg (show ¬ ((lowG G f).n:Int)≠(lowG G f).wd*(lowG G f).ht from h2),if_neg];intro h4
    have h5:anyB (lowG G f).n (fun i=>badZ ((lowG G f).z i))=false:=anyB_false.2 fun j hj=>by
     have hj':j < G.n:=hj
     show badZ (lowZ (G.z j) (f j))=false
     have:=hz j hj';have:=hf j;unfold badZ lowZ farZ;unfold noneZ at *;simp only [Bool.and_eq_false_iff,Bool.or_eq_false_iff,decide_eq_false_iff_not]
     split
     ·omega
     ·split <;> omega
    rw [h5] at h4;cases h4
theorem part_q {z:Int} (h0:0 < z) (h1:z≤255):0 < Rat.divInt z 255∧Rat.divInt z 255≤1∧Ht 18 (Rat.divInt z 255):=by
 have e:Rat.divInt z 255=(z:Rat) / ((255:Int):Rat):=Rat.divInt_eq_div ..;have c:((255:Int):Rat)=255:=rfl;have z0:(0:Rat) < (z:Rat):=by have:=Rat.intCast_lt_intCast.2 h0; exact this
 have z1:(z:Rat)≤255:=by have:=Rat.intCast_le_intCast.2 h1; exact this
 refine⟨?_,?_,?_⟩
 ·rw [e,c]; grind
 ·rw [e,c]; grind
 ·rw [e];exact (Ht.div (ht_int (m:=8) (by omega) (by omega)) (ht_int (k:=255) (m:=8) (by decide) (by omega))).mono (by omega)
theorem part_sok {G H:Grd} {a b c:Nat→Rat} {t:Rat} (h:SOk G 17 a b) (hH:grdCode H=0) (ht:Ht 18 t) (h0:0≤t) (h1:t≤1) (hc:c=fun i=>lin (a i) (b i) t):SOk H 74 a c:=by
 subst hc;exact⟨grd_ok hH,fun i hi=>(h.ka i hi).mono (by omega),fun i hi=>(lin_ht (K:=18) ((h.ka i hi).mono (by omega)) ((h.kb i hi).mono (by omega)) ht).mono (by omega),h.ba,fun i hi=>lin_bd h0 h1 (h.ba i hi) (h.bb i hi)⟩
end Go.Proofs.YtphpkhoeplcedaaGreat
