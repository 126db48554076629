import Derived.Test.YtphpkhoeplcedaaGreatWb35
import Derived.Deep.MidRow
set_option linter.all false
set_option maxHeartbeats 8000000
set_option maxRecDepth 100000
namespace Go.Proofs.YtphpkhoeplcedaaGreat
open Go.RowKit
theorem okR_spec {R:Raw} (h:okR R=true):∃ q:Rat,R=raw q:=by
 obtain⟨b1,l1,b2,l2⟩:=R;unfold okR at h;simp only [Bool.and_eq_true,decide_eq_true_eq] at h;obtain⟨⟨⟨h1,h2⟩,h3⟩,h4⟩:=h;obtain⟨e1,e2,e3⟩:=okB_spec h1;obtain⟨f1,f2,f3⟩:=okB_spec h2;have hb2:b2=false:=by rw [f2]; simp; omega
 subst hb2;have hz:zval false l2=(val l2:Int):=by unfold zval; simp
 rw [hz] at h3 h4;refine⟨⟨zval b1 l1,val l2,by omega,?_⟩,?_⟩
 ·exact h4
 ·unfold raw;simp only [Raw.mk.injEq];exact⟨e2,by rw [←e3]; exact e1,trivial,f1⟩
section
variable {N lo hi:Nat} {w w':World} {h k m n:Nat} {β κ:Nat→Nat} {A:Nat→Nat→Rat}
theorem OwnM.mtv (o:OwnM N lo hi w h k m n β κ A) {c:Nat} (hc:m≤c) (hm:c≤maxLen):MtV N lo hi w (.slice (some ⟨h,0,none⟩) m c) m n A:=by
 have h1:=o.hlo;have h2:=o.hhi;have h3:=o.his;refine⟨by have:=o.le; omega,o.his,_,c,rfl,hc,hm,fun _=>⟨h,0,rfl,h1,h2,fun i hi'=>⟨_,by rw [Nat.zero_add]; exact o.hcell hi',?_⟩⟩⟩;exact (o.row i hi').lsv (o.row i hi').2.1 (o.cap i hi') (o.lo_ i hi') (o.hi_ i hi') h3
end
section
variable {N lo hi:Nat} {w w':World} {v:Value} {m n:Nat} {A:Nat→Nat→Rat}
theorem GrowM.mtv (h:GrowM N lo hi w v m n A):MtV N lo hi w v m n A:=by
 obtain⟨a1,a2,a3,⟨rfl,rfl⟩ | ⟨h,cap,β,κ,rfl,hc,ho⟩⟩:=h
 ·exact⟨by omega,a3,none,0,rfl,Nat.le_refl _,Nat.zero_le _,fun h=>absurd h (by omega)⟩
 ·exact ho.mtv ho.mle hc
end
def RetMt (N:Nat) (w:World) (m n:Nat) (X:Nat→Nat→Rat) (e:Ending) (w':World):Prop:=∃ A c,e=.returned (.slice A m c)∧MtV N w.heap.size w'.heap.size w' (.slice A m c) m n X∧Ext w w'
theorem RetOwn.mt {N:Nat} {w w':World} {m n:Nat} {A:Nat→Nat→Rat} {e:Ending} (h:RetOwn N w m n A e w'):RetMt N w m n A e w':=by
 obtain⟨h,cap,β,κ,he,hc,ho,hx⟩:=h;exact⟨_,_,he,ho.mtv ho.mle hc,hx⟩
theorem boxesD1 {F:World→Prop} {w:World} {o0:Obj} (h:∀ w1,Ext w w1→w.heap.size+1≤w1.heap.size→w1.heap[w.heap.size]?=some o0→F w1):F (w.alloc o0).drew:=by
 refine h _ ((Ext.refl w).alloc _).drew ?_ (heap_alloc_new w o0);have:=(boxes1 (F:=fun W=>w.heap.size+1≤W.heap.size) (w:=w) (o0:=o0) (fun _ _ h _=>h))
 exact this
def Mn.mt (N m n:Nat) (X:Nat→Nat→Rat):Mn:=⟨fun v w=>MtV N 0 w.heap.size w v m n X,fun e h=>MtR.wide (h.ext e) (Nat.le_refl _) e.size (Nat.le_refl _)⟩
end Go.Proofs.YtphpkhoeplcedaaGreat
namespace Go.Proofs.YtphpkhoeplcedaaGreat
theorem blk_not {G:Grd} {a b:Nat→Rat} {t:Rat} (h:blkF G a b t):¬ clrF G a b:=by
 obtain⟨h0,h1,x,hx,h2⟩:=h;intro hc;have:=hc t h0 h1 x hx
 grind
end Go.Proofs.YtphpkhoeplcedaaGreat
namespace Go.Proofs.YtphpkhoeplcedaaGreat
open Go.RowKit
theorem l49_at {N:Nat} {w:World} {ca cb:Array Value} {vt:Value} {a b:Nat→Rat} {t:Rat} (a2:ca.size=12) (a4:PtV N w ca 0 a) (b2:cb.size=12) (b4:PtV N w cb 0 b) (ht:RatV N w vt t) {K:Nat} (hka:∀ i,i < 3→Ht K (a i)) (hkb:∀ i,i < 3→Ht K (b i)) (hkt:Ht K t) (hK:K≤10000000) :
  Calls Tryz.prog 23 #[.agg ca,.agg cb,vt] w (RetPt N w (fun i=>lin (a i) (b i) t)):=by
 have hN:=ht.le;have HPA:=Lib.hid a4;have HPB:=Lib.hid b4;have SA:=Lib.hid a2;have SB:=Lib.hid b2;have HT:=Lib.hid ht;obtain⟨m1,X1,i1,d1,X2,i2,d2,rfl,hm1,gx1,gx2⟩:=ht.parts;obtain⟨p,hp⟩:=hid_eq (fun i=>lin (a i) (b i) t);rw [←hp.out];clear ht gx1 gx2;have HA:=Lib.hid hka;have HB:=Lib.hid hkb;have HKT:=Lib.hid hkt;clear hka hkb hkt a2 b2 a4 b4;go_enter Tryz.func23,Tryz.ntmps23;go_upto_region 2 with (fail);refine boxes5 ?_;intro W hE hsz B0 B1 B2 B3 B4;have hU:PtUp N W (w.heap.size+1+1+1+1) 0 p:=⟨_,B4,rfl,rfl,fun j hj=>absurd hj (by omega)⟩
 clear B4;have HC:=Lib.hid B0;have HD:=Lib.hid B1;have HE:=Lib.hid B2;have HF:=Lib.hid B3;clear B0 B1 B2 B3;go_wp2
 go_loopw [9] (fun iv wr=>∃ i:Nat,i≤3∧iv=.int .i64 i∧PtUp N wr (w.heap.size+1+1+1+1) i p∧Chg (w.heap.size+1+1+1+1) (w.heap.size+1+1+1+1+1) W wr) (fun iv _=>3 - (intOf iv).toNat)
 case atStart=>exact⟨0,by omega,rfl,hU,Chg.refl _ _ _⟩
 case round =>
  clear hU;obtain⟨i,hi,rfl,hU,hC⟩:=hrel;have hEr:Ext w wr:=hC.ext hE (by omega);have hlt:w.heap.size+1+1+1+1 < wr.heap.size:=hU.lt
  by_cases hi3:i < 3
  case neg =>
   obtain rfl:i=3:=by omega
   obtain⟨c0,k1,k2,k3,k4⟩:=hU;have HK4:=Lib.hid k4;have K2:=Lib.hid k2;have hq1:decide (((3:Nat):Int) < 3)=false:=by decide
   clear k4 k2;go_upto_region 7 with (fail);refine wp_region_lit ?_;refine wpList_load_row rfl 43 _ rfl _ (by rfl) _ c0 _ _ k1 Tryz.underlying43 rfl (by rw [K2.out]; exact info_pt) ?_;try simp only [nr]
   have B3:=hC.blk HF.out (.inl (by omega));refine wpList_store_blk' rfl 43 _ _ rfl (by rfl) (by rfl) B3 info_pt K2.out (Eq.trans ((by rfl:Array.size _=12)) (Eq.symm (K2.out))) k3 ?_;try simp only [nr]
   intro w9 B9 U9;go_wp2;refine bodyPost_ret (results_cell_row rfl _ _ _ _ _ _ _ rfl B9 Tryz.underlying43 rfl (by rw [K2.out]; exact info_pt)) rfl ?_;exact⟨c0,rfl,K2.out,k3,fun j hj=>by rw [Nat.zero_add]; exact (HK4.out j hj).chg (U9.chg (NoU.mk B3 (by decide))) (by omega),U9.ext hEr (by omega)⟩
  have B0:=hC.blk HC.out (.inl (by omega));have B1:=hC.blk HD.out (.inl (by omega));have B2:=hC.blk HE.out (.inl (by omega));have hi3':(i:Int) < 3:=by omega
  obtain⟨x0,x1,x2,x3,-⟩:=cells4 B2;have hRx:=HT.out.ext hEr;have hPa:=((HPA.out i hi3).ext hEr).at4 B0;have hPb:=((HPB.out i hi3).ext hEr).at4 B1;rw [Nat.zero_add] at hPa hPb;obtain⟨Ap,np,cp,A'p,n'p,c'p,p0,p1,p2,p3,hRp⟩:=hPa.val;obtain⟨Aq,nq,cq,A'q,n'q,c'q,q0,q1,q2,q3,hRq⟩:=hPb.val;have hAi:=HA.out i hi3;have hBi:=HB.out i hi3;have hD1:Ht (K+K+1) (b i - a i):=hBi.sub hAi;have hM1:Ht (K+(K+K+1)) (t*(b i - a i)):=HKT.out.mul hD1;have HSA:Hid (Sz (a i)):=hAi.sz (by omega);have HSB:Hid (Sz (b i)):=hBi.sz (by omega);have HST:Hid (Sz t):=HKT.out.sz (by omega);have HSD:Hid (Sz (b i - a i)):=hD1.sz (by omega);have HSM:Hid (Sz (t*(b i - a i))):=hM1.sz (by omega);have HPI:Hid (p i=a i+t*(b i - a i)):=by rw [hp.out]; rfl
  clear hAi hBi hD1 hM1 hPa hPb B0 B1 B2;go_upto_region 5 with (fail);refine regI [Mn.eq (.int .i64 (i:Int)),Mn.eq (.int .i64 (i:Int)),Mn.eq (.pointer (some ⟨w.heap.size,i*4,none⟩)),Mn.rat N (a i),Mn.rat N (t),Mn.eq (.int .i64 (i:Int)),Mn.eq (.pointer (some ⟨w.heap.size+1,i*4,none⟩)),Mn.rat N (b i),Mn.eq (.int .i64 (i:Int)),Mn.eq (.pointer (some ⟨w.heap.size,i*4,none⟩)),Mn.rat N (a i),Mn.rat N (b i - a i),Mn.rat N (t*(b i - a i)),Mn.rat N (a i+t*(b i - a i)),Mn.eq (.pointer (some ⟨w.heap.size+1+1+1+1,i*4,none⟩)),Mn.any] [some 12,some 13,some 14,some 15,some 16,some 17,some 18,some 19,some 20,some 21,some 22,some 23,some 24,some 25,some 26,none] [15] [true,true,true,true,true,true,true,true,true,true,true,true,true,true,true,false] 1 (by kernel_rfl) ?_ ?_
  ·show ∀ i,i < 16→_
   iterate 16 refine fs ?_ ?_
   ·exact fz
   all_goals intro hl
   all_goals first | exact absurd hl (by decide) | skip
   all_goals clear hl
   all_goals refine stp rfl ?_
   all_goals intro ac wi eI hB hA K hK
   have o8:=oOf (hB 8 (by kernel_rfl)) rfl
   rotate_left
   have o8:=oOf (hB 8 (by kernel_rfl)) rfl
   rotate_left
   have o3:=oOf (hB 3 (by kernel_rfl)) rfl;obtain⟨_,s13,rfl⟩:=hA 1 (by kernel_rfl) 13 rfl
   rotate_left
   obtain⟨_,s14,rfl⟩:=hA 2 (by kernel_rfl) 14 rfl;clear hB hA;have cc0:=eI.cell p0;have cc1:=eI.cell p1;have cc2:=eI.cell p2;have cc3:=eI.cell p3
   ·go_simp;exact hK.out _ _ (Ext.refl _) (hRp.ext eI)
   have o5:=oOf (hB 5 (by kernel_rfl)) rfl;clear hB hA;have cc0:=eI.cell x0;have cc1:=eI.cell x1;have cc2:=eI.cell x2;have cc3:=eI.cell x3
   ·go_simp;exact hK.out _ _ (Ext.refl _) (hRx.ext eI)
   have o8:=oOf (hB 8 (by kernel_rfl)) rfl
   rotate_left
   have o4:=oOf (hB 4 (by kernel_rfl)) rfl;obtain⟨_,s17,rfl⟩:=hA 5 (by kernel_rfl) 17 rfl
   rotate_left
   obtain⟨_,s18,rfl⟩:=hA 6 (by kernel_rfl) 18 rfl;clear hB hA;have cc0:=eI.cell q0;have cc1:=eI.cell q1;have cc2:=eI.cell q2;have cc3:=eI.cell q3
   ·go_simp;exact hK.out _ _ (Ext.refl _) (hRq.ext eI)
   have o8:=oOf (hB 8 (by kernel_rfl)) rfl
   rotate_left
   have o3:=oOf (hB 3 (by kernel_rfl)) rfl;obtain⟨_,s20,rfl⟩:=hA 8 (by kernel_rfl) 20 rfl
   rotate_left
   obtain⟨_,s21,rfl⟩:=hA 9 (by kernel_rfl) 21 rfl;clear hB hA;have cc0:=eI.cell p0;have cc1:=eI.cell p1;have cc2:=eI.cell p2;have cc3:=eI.cell p3
   ·go_simp;exact hK.out _ _ (Ext.refl _) (hRp.ext eI)
   obtain⟨x19,s19,j19⟩:=hA 7 (by kernel_rfl) 19 rfl;replace j19:Mn.p (Mn.rat N (b i)) x19 wi:=j19;obtain⟨x22,s22,j22⟩:=hA 10 (by kernel_rfl) 22 rfl;replace j22:Mn.p (Mn.rat N (a i)) x22 wi:=j22;clear hB hA
   ·go_simp;refine (r2_sub j19 j22 HSB.out HSA.out).mono ?_;rintro e wj ⟨vj,rfl,hj,ej⟩;go_wp2_with fail;exact hK.out _ _ ej hj
   obtain⟨x16,s16,j16⟩:=hA 4 (by kernel_rfl) 16 rfl;replace j16:Mn.p (Mn.rat N (t)) x16 wi:=j16;obtain⟨x23,s23,j23⟩:=hA 11 (by kernel_rfl) 23 rfl;replace j23:Mn.p (Mn.rat N (b i - a i)) x23 wi:=j23;clear hB hA
   ·go_simp;refine (r2_mul j16 j23 HST.out HSD.out).mono ?_;rintro e wj ⟨vj,rfl,hj,ej⟩;go_wp2_with fail;exact hK.out _ _ ej hj
   obtain⟨x15,s15,j15⟩:=hA 3 (by kernel_rfl) 15 rfl;replace j15:Mn.p (Mn.rat N (a i)) x15 wi:=j15;obtain⟨x24,s24,j24⟩:=hA 12 (by kernel_rfl) 24 rfl;replace j24:Mn.p (Mn.rat N (t*(b i - a i))) x24 wi:=j24;clear hB hA
   ·go_simp;refine (r2_add j15 j24 HSA.out HSM.out).mono ?_;rintro e wj ⟨vj,rfl,hj,ej⟩;go_wp2_with fail;exact hK.out _ _ ej hj
   have o7:=oOf (hB 7 (by kernel_rfl)) rfl;obtain⟨_,s12,rfl⟩:=hA 0 (by kernel_rfl) 12 rfl
   rotate_left
   all_goals clear hB hA
   all_goals go_simp
   all_goals exact hK.out _ _ (Ext.refl _) rfl
  intro vals wz eZ hJ;have J25:Mn.p (Mn.rat N (a i+t*(b i - a i))) (vals 13) wz:=hJ 13 (by decide) (by decide);have J26:vals 14=_:=hJ 14 (by decide) (by decide);clear hJ;simp only [pr,Nat.reduceAdd,J26];clear J26
  generalize vals 13=z25 at J25 ⊢
  obtain⟨bz,Az,kz,cz,Az',kz',cz',rfl,hbz,gz1,gz2⟩:=RatV.parts J25;replace hU:=hU.ext eZ;obtain⟨u0,v0⟩:=hU.there (o:=i*4) (by omega);obtain⟨u1,v1⟩:=hU.there (o:=i*4+1) (by omega);obtain⟨u2,v2⟩:=hU.there (o:=i*4+2) (by omega);obtain⟨u3,v3⟩:=hU.there (o:=i*4+3) (by omega);have f0:=hU.frozen (i*4);have f1:=hU.frozen (i*4+1);have f2:=hU.frozen (i*4+2);have f3:=hU.frozen (i*4+3);refine stepL_late (i:=15) rfl (by kernel_rfl) (by kernel_rfl) (fun K hK=>?_);go_simp;refine hK.out _ _ ?_;clear hK K;try simp only [nr]
  refine stepL_done (by kernel_rfl) ?_ _;rw [←HPI.out] at hbz gz1 gz2;obtain⟨w9,E9,C9,S9,hU9⟩:=hU.set hi3 (by omega) hbz gz1 gz2;rw [E9];go_wp2;go_roundw
  case rel=>exact⟨i+1,by omega,by go_num,hU9,(hC.trans (eZ.chg _ _)).trans C9⟩
  case measure=>simp [intOf]; omega
theorem l49_blocked {N lo hi:Nat} {w:World} {vg vt:Value} {ca cb:Array Value} {G:Grd} {a b:Nat→Rat} {t:Rat} {K:Nat} (h:GrdV N lo hi w vg G) (hok:SOk G K a b) (hkt:Ht K t) (hK:K≤100000) (ha:PtA N w ca (fun i=>raw (a i))) (hb:PtA N w cb (fun i=>raw (b i))) (ht:RatV N w vt t) :
  Calls Tryz.prog 19 #[vg,.agg ca,.agg cb,vt] w (RetV w (.int .i64 (blkCode G a b t))):=by
 have hN:=ht.le;obtain⟨A,c,rfl,-,-,-⟩:=h.parts;obtain⟨m1,X1,i1,d1,X2,i2,d2,rfl,-,-,-⟩:=ht.parts;have HG:=Lib.hid h;have HO:=Lib.hid hok;have HKT:=Lib.hid hkt;have HPA:=Lib.hid ha;have HPB:=Lib.hid hb;have HT:=Lib.hid ht;have ZA:=Lib.hid ha.size;have ZB:=Lib.hid hb.size;obtain⟨r,hr⟩:=hid_eq (blkCode G a b t);rw [←hr.out];have HST:Hid (Sz t):=hkt.sz (by omega);clear h hok hkt ha hb ht;go_enter Tryz.func19,Tryz.ntmps19;go_upto_region 1 with (fail);refine boxes4 ?_;intro W hE hsz B0 B1 B2 B3;have hNW:N≤W.heap.size:=by omega
 obtain⟨p0,p1,p2,p3,-⟩:=cells4 B3;have hRp:=HT.out.ext hE;obtain⟨s,hs⟩:=hid_eq t.num.sign
 by_cases h0:0 < t
 case neg =>
  have HR:Hid (r=2):=by rw [Hid,hr.out]; unfold blkCode; rw [if_neg (fun h=>h0 h.1)]
  have hs0:s≤0:=by have:=mt sign_pos.1 h0; rw [←hs.out] at this; omega
  clear h0;refine regI [Mn.rat N (t),Mn.eq (.int .i64 s),Mn.eq (.bool true),Mn.eq (.bool true),Mn.eq undef,Mn.eq undef,Mn.eq undef,Mn.eq undef,Mn.eq (.bool true)] [some 12,some 13,some 14,some 15,some 16,some 17,some 18,some 19,some 20] [] [true,true,true,true,true,true,true,true,true] 0 (by kernel_rfl) ?_ ?_
  ·show ∀ i,i < 9→_
   iterate 9 refine fs ?_ ?_
   ·exact fz
   all_goals intro hl
   all_goals clear hl
   all_goals refine stp rfl ?_
   all_goals intro ac wi eI hB hA K hK
   have o7:=oOf (hB 7 (by kernel_rfl)) rfl;clear hB hA;have cc0:=eI.cell p0;have cc1:=eI.cell p1;have cc2:=eI.cell p2;have cc3:=eI.cell p3
   ·go_simp;exact hK.out _ _ (Ext.refl _) (hRp.ext eI)
   obtain⟨x12,s12,j12⟩:=hA 0 (by kernel_rfl) 12 rfl;replace j12:Mn.p (Mn.rat N (t)) x12 wi:=j12;clear hB hA
   ·go_simp;refine (r2_sign j12 HST.out).mono ?_;rw [←hs.out];rintro e wj ⟨rfl,ej⟩;go_wp2_with fail;exact hK.out _ _ ej rfl
   obtain⟨_,s13,rfl⟩:=hA 1 (by kernel_rfl) 13 rfl
   rotate_left
   obtain⟨_,s14,rfl⟩:=hA 2 (by kernel_rfl) 14 rfl
   rotate_left
   obtain⟨_,s15,rfl⟩:=hA 3 (by kernel_rfl) 15 rfl;clear hB hA;rw [if_neg (by simp [Region.wanted,yielded,s15,undef])];exact hK.out _ _ (Ext.refl _) rfl;obtain⟨_,s15,rfl⟩:=hA 3 (by kernel_rfl) 15 rfl;clear hB hA;rw [if_neg (by simp [Region.wanted,yielded,s15,undef])];exact hK.out _ _ (Ext.refl _) rfl;obtain⟨_,s15,rfl⟩:=hA 3 (by kernel_rfl) 15 rfl;clear hB hA;rw [if_neg (by simp [Region.wanted,yielded,s15,undef])];exact hK.out _ _ (Ext.refl _) rfl;obtain⟨_,s15,rfl⟩:=hA 3 (by kernel_rfl) 15 rfl;clear hB hA;rw [if_neg (by simp [Region.wanted,yielded,s15,undef])];exact hK.out _ _ (Ext.refl _) rfl;obtain⟨_,s15,rfl⟩:=hA 3 (by kernel_rfl) 15 rfl;obtain⟨_,s19,rfl⟩:=hA 7 (by kernel_rfl) 19 rfl
   rotate_left
   all_goals clear hB hA
   all_goals go_simp
   all_goals exact hK.out _ _ (Ext.refl _) rfl
  intro vals wz eZ hJ;have J20:vals 8=_:=hJ 8 (by decide) (by decide);clear hJ;simp only [pr,Nat.reduceAdd,J20];clear J20;refine stepL_done (by kernel_rfl) ?_ _;go_wp2;go_ret;rw [HR.out];exact⟨rfl,hE.trans eZ⟩
 have hs0:0 < s:=by rw [hs.out]; exact sign_pos.2 h0
 have hs1:decide (s≤0)=false:=decide_eq_false (by omega);obtain⟨q,hq⟩:=hid_eq (t - ((1:Int):Rat)).num.sign;have HSD:Hid (Sz (t - ((1:Int):Rat))):=(HKT.out.sub (ht_int (k:=1) (m:=1) (by decide) (by decide))).sz (by omega)
 by_cases h1:t < 1
 case neg =>
  have HR:Hid (r=2):=by rw [Hid,hr.out]; unfold blkCode; rw [if_neg (fun h=>h1 h.2)]
  have hq0:decide (0≤q)=true:=decide_eq_true (by
   rw [hq.out,sgn_nn];have c1:((1:Int):Rat)=1:=rfl;rw [c1]
   grind)
  clear h1 h0;refine regI [Mn.rat N (t),Mn.eq (.int .i64 s),Mn.eq (.bool false),Mn.eq (.bool false),Mn.rat N (t),Mn.rat N ((1:Int):Rat),Mn.eq (.int .i64 q),Mn.eq (.bool true),Mn.eq (.bool true)] [some 12,some 13,some 14,some 15,some 16,some 17,some 18,some 19,some 20] [] [true,true,true,true,true,true,true,true,true] 0 (by kernel_rfl) ?_ ?_
  ·show ∀ i,i < 9→_
   iterate 9 refine fs ?_ ?_
   ·exact fz
   all_goals intro hl
   all_goals clear hl
   all_goals refine stp rfl ?_
   all_goals intro ac wi eI hB hA K hK
   have o7:=oOf (hB 7 (by kernel_rfl)) rfl;clear hB hA;have cc0:=eI.cell p0;have cc1:=eI.cell p1;have cc2:=eI.cell p2;have cc3:=eI.cell p3
   ·go_simp;exact hK.out _ _ (Ext.refl _) (hRp.ext eI)
   obtain⟨x12,s12,j12⟩:=hA 0 (by kernel_rfl) 12 rfl;replace j12:Mn.p (Mn.rat N (t)) x12 wi:=j12;clear hB hA
   ·go_simp;refine (r2_sign j12 HST.out).mono ?_;rw [←hs.out];rintro e wj ⟨rfl,ej⟩;go_wp2_with fail;exact hK.out _ _ ej rfl
   obtain⟨_,s13,rfl⟩:=hA 1 (by kernel_rfl) 13 rfl
   rotate_left
   obtain⟨_,s14,rfl⟩:=hA 2 (by kernel_rfl) 14 rfl
   rotate_left
   obtain⟨_,s15,rfl⟩:=hA 3 (by kernel_rfl) 15 rfl;have o7:=oOf (hB 7 (by kernel_rfl)) rfl;clear hB hA;rw [if_pos (by simp [Region.wanted,yielded,s15])];have cc0:=eI.cell p0;have cc1:=eI.cell p1;have cc2:=eI.cell p2;have cc3:=eI.cell p3
   ·go_simp;exact hK.out _ _ (Ext.refl _) (hRp.ext eI)
   obtain⟨_,s15,rfl⟩:=hA 3 (by kernel_rfl) 15 rfl;clear hB hA;rw [if_pos (by simp [Region.wanted,yielded,s15])]
   ·go_simp;refine (l49_whole (Nat.le_trans hNW eI.size) 1 (by omega) (by omega)).mono ?_;rintro e wj ⟨vj,rfl,hj,ej⟩;go_wp2_with fail;exact hK.out _ _ ej hj
   obtain⟨_,s15,rfl⟩:=hA 3 (by kernel_rfl) 15 rfl;obtain⟨x16,s16,j16⟩:=hA 4 (by kernel_rfl) 16 rfl;replace j16:Mn.p (Mn.rat N (t)) x16 wi:=j16;obtain⟨x17,s17,j17⟩:=hA 5 (by kernel_rfl) 17 rfl;replace j17:Mn.p (Mn.rat N ((1:Int):Rat)) x17 wi:=j17;clear hB hA;rw [if_pos (by simp [Region.wanted,yielded,s15])]
   ·go_simp;refine (r2_compare j16 j17 HST.out (sz_int (by decide)) HSD.out).mono ?_;rw [←hq.out];rintro e wj ⟨rfl,ej⟩;go_wp2_with fail;exact hK.out _ _ ej rfl
   obtain⟨_,s15,rfl⟩:=hA 3 (by kernel_rfl) 15 rfl;obtain⟨_,s18,rfl⟩:=hA 6 (by kernel_rfl) 18 rfl;rw [if_pos (by simp [Region.wanted,yielded,s15])]
   rotate_left
   obtain⟨_,s15,rfl⟩:=hA 3 (by kernel_rfl) 15 rfl;obtain⟨_,s19,rfl⟩:=hA 7 (by kernel_rfl) 19 rfl
   rotate_left
   all_goals clear hB hA
   all_goals go_simp
   all_goals exact hK.out _ _ (Ext.refl _) rfl
  intro vals wz eZ hJ;have J20:vals 8=_:=hJ 8 (by decide) (by decide);clear hJ;simp only [pr,Nat.reduceAdd,J20];clear J20;refine stepL_done (by kernel_rfl) ?_ _;go_wp2;go_ret;rw [HR.out];exact⟨rfl,hE.trans eZ⟩
 have hq0:decide (0≤q)=false:=decide_eq_false (by
  rw [hq.out,sgn_nn];have c1:((1:Int):Rat)=1:=rfl;rw [c1]
  grind)
 have HR:Hid (r=exC (exF G a b t)):=by rw [Hid,hr.out]; unfold blkCode; rw [if_pos ⟨h0,h1⟩]
 refine regI [Mn.rat N (t),Mn.eq (.int .i64 s),Mn.eq (.bool false),Mn.eq (.bool false),Mn.rat N (t),Mn.rat N ((1:Int):Rat),Mn.eq (.int .i64 q),Mn.eq (.bool false),Mn.eq (.bool false)] [some 12,some 13,some 14,some 15,some 16,some 17,some 18,some 19,some 20] [] [true,true,true,true,true,true,true,true,true] 0 (by kernel_rfl) ?_ ?_
 ·show ∀ i,i < 9→_
  iterate 9 refine fs ?_ ?_
  ·exact fz
  all_goals intro hl
  all_goals clear hl
  all_goals refine stp rfl ?_
  all_goals intro ac wi eI hB hA K hK
  have o7:=oOf (hB 7 (by kernel_rfl)) rfl;clear hB hA;have cc0:=eI.cell p0;have cc1:=eI.cell p1;have cc2:=eI.cell p2;have cc3:=eI.cell p3
  ·go_simp;exact hK.out _ _ (Ext.refl _) (hRp.ext eI)
  obtain⟨x12,s12,j12⟩:=hA 0 (by kernel_rfl) 12 rfl;replace j12:Mn.p (Mn.rat N (t)) x12 wi:=j12;clear hB hA
  ·go_simp;refine (r2_sign j12 HST.out).mono ?_;rw [←hs.out];rintro e wj ⟨rfl,ej⟩;go_wp2_with fail;exact hK.out _ _ ej rfl
  obtain⟨_,s13,rfl⟩:=hA 1 (by kernel_rfl) 13 rfl
  rotate_left
  obtain⟨_,s14,rfl⟩:=hA 2 (by kernel_rfl) 14 rfl
  rotate_left
  obtain⟨_,s15,rfl⟩:=hA 3 (by kernel_rfl) 15 rfl;have o7:=oOf (hB 7 (by kernel_rfl)) rfl;clear hB hA;rw [if_pos (by simp [Region.wanted,yielded,s15])];have cc0:=eI.cell p0;have cc1:=eI.cell p1;have cc2:=eI.cell p2;have cc3:=eI.cell p3
  ·go_simp;exact hK.out _ _ (Ext.refl _) (hRp.ext eI)
  obtain⟨_,s15,rfl⟩:=hA 3 (by kernel_rfl) 15 rfl;clear hB hA;rw [if_pos (by simp [Region.wanted,yielded,s15])]
  ·go_simp;refine (l49_whole (Nat.le_trans hNW eI.size) 1 (by omega) (by omega)).mono ?_;rintro e wj ⟨vj,rfl,hj,ej⟩;go_wp2_with fail;exact hK.out _ _ ej hj
  obtain⟨_,s15,rfl⟩:=hA 3 (by kernel_rfl) 15 rfl;obtain⟨x16,s16,j16⟩:=hA 4 (by kernel_rfl) 16 rfl;replace j16:Mn.p (Mn.rat N (t)) x16 wi:=j16;obtain⟨x17,s17,j17⟩:=hA 5 (by kernel_rfl) 17 rfl;replace j17:Mn.p (Mn.rat N ((1:Int):Rat)) x17 wi:=j17;clear hB hA;rw [if_pos (by simp [Region.wanted,yielded,s15])]
  ·go_simp;refine (r2_compare j16 j17 HST.out (sz_int (by decide)) HSD.out).mono ?_;rw [←hq.out];rintro e wj ⟨rfl,ej⟩;go_wp2_with fail;exact hK.out _ _ ej rfl
  obtain⟨_,s15,rfl⟩:=hA 3 (by kernel_rfl) 15 rfl;obtain⟨_,s18,rfl⟩:=hA 6 (by kernel_rfl) 18 rfl;rw [if_pos (by simp [Region.wanted,yielded,s15])]
  rotate_left
  obtain⟨_,s15,rfl⟩:=hA 3 (by kernel_rfl) 15 rfl;obtain⟨_,s19,rfl⟩:=hA 7 (by kernel_rfl) 19 rfl
  rotate_left
  all_goals clear hB hA
  all_goals go_simp
  all_goals exact hK.out _ _ (Ext.refl _) rfl
 intro vals wz eZ hJ;have J20:vals 8=_:=hJ 8 (by decide) (by decide);clear hJ;simp only [pr,Nat.reduceAdd,J20];clear J20;refine stepL_done (by kernel_rfl) ?_ _;replace hE:=hE.trans eZ;replace B0:=eZ.block B0;replace B1:=eZ.block B1;replace B2:=eZ.block B2;replace B3:=eZ.block B3;have hsZ:=eZ.size;clear p0 p1 p2 p3 hRp eZ hq0 hs1;obtain⟨w1,hw1⟩:∃ w1,w1=wz:=⟨_,rfl⟩
 subst hw1;go_upto_region 3 with (fail);obtain⟨p0,p1,p2,p3,-⟩:=cells4 B3;refine wp_region_lit ?_;refine wpList_load_row rfl 43 _ rfl _ (by rfl) _ ca _ _ B1 Tryz.underlying43 rfl (by rw [ZA.out]; exact info_pt) ?_;try simp only [nr]
 refine wpList_load_row rfl 43 _ rfl _ (by rfl) _ cb _ _ B2 Tryz.underlying43 rfl (by rw [ZB.out]; exact info_pt) ?_;try simp only [nr]
 go_wp2_with (go_at_call 23; refine Hid.out ?_);refine (l49_at ZA.out ((show PtV N w ca 0 a from HPA.out.pt).ext hE) ZB.out ((show PtV N w cb 0 b from HPB.out.pt).ext hE) (HT.out.ext hE) HO.out.ka HO.out.kb HKT.out (by omega)).mono ?_;rintro e w2 ⟨cs,rfl,hcp,hco,hpt,e2⟩
 rename_i K9 hK9
 refine hK9 _ _ ?_;clear hK9 K9;try simp only [nr]
 have HCP:=Lib.hid hcp;clear hcp p0 p1 p2 p3;obtain⟨pp,hpp⟩:=hid_eq (fun i=>lin (a i) (b i) t);rw [←hpp.out] at hpt;refine wpList_plain rfl (fun K hK=>?_);go_simp;refine hK _ _ ?_;clear hK K;try simp only [nr]
 refine boxes1 ?_;intro w3 e3 hsz3 B9;refine wpList_store_blk' rfl 43 _ _ rfl (by rfl) (by rfl) B9 info_pt HCP.out (Eq.trans ((by rfl:Array.size _=12)) (Eq.symm (HCP.out))) hco ?_;try simp only [nr]
 intro w4 B9' U4;obtain⟨g9,hg9⟩:∃ g9,g9=w2.heap.size:=⟨_,rfl⟩
 rw [←hg9] at B9' U4 hsz3 ⊢;have C4:=U4.chg (NoU.mk (hg9 ▸ B9) (by decide));have hs2:=e2.size;have hE24:Ext w2 w4:=C4.ext e3 (by omega);have hE14:=e2.trans hE24;replace hpt:=hpt.ext hE24;replace B0:=hE14.block B0;replace hE:=hE.trans hE14;have hg9b:g9 < w4.heap.size:=blk_lt B9';clear B9 U4 C4 e3 hg9 hsz3 hE24 hE14 e2 B1 B2 B3;refine wpList_nil ?_;go_upto_region 4 with (fail);obtain⟨np,Ap,kp,cp,A'p,k'p,c'p,p0,p1,p2,p3,hbp,yp,zp⟩:=((hpt 0 (by omega)).at4 B9').open;have hRp:RatV N w4 (.agg #[.bool np,.slice Ap kp cp,.bool false,.slice A'p k'p c'p]) (pp 0):=RatV.mk hbp yp zp;clear hbp yp zp;obtain⟨nq,Aq,kq,cq,A'q,k'q,c'q,q0,q1,q2,q3,hbq,yq,zq⟩:=((hpt 1 (by omega)).at4 B9').open;have hRq:RatV N w4 (.agg #[.bool nq,.slice Aq kq cq,.bool false,.slice A'q k'q c'q]) (pp 1):=RatV.mk hbq yq zq;clear hbq yq zq;obtain⟨nr,Ar,kr,cr,A'r,k'r,c'r,r0,r1,r2,r3,hbr,yr,zr⟩:=((hpt 2 (by omega)).at4 B9').open;have hRr:RatV N w4 (.agg #[.bool nr,.slice Ar kr cr,.bool false,.slice A'r k'r c'r]) (pp 2):=RatV.mk hbr yr zr;clear hbr yr zr;simp only [Nat.zero_mul,Nat.one_mul,Nat.reduceMul,Nat.reduceAdd,Nat.add_zero,Nat.zero_add] at p0 p1 p2 p3 q0 q1 q2 q3 r0 r1 r2 r3;obtain⟨a0,a1,a2,a3,a4,a5⟩:=cells_g B0;have HKP:Hid (∀ i,i < 3→Ht (4*K+2) (pp i)):=by rw [hpp.out]; exact fun i hi=>lin_ht (HO.out.ka i hi) (HO.out.kb i hi) HKT.out
 obtain⟨o,ho⟩:=hid_eq (hgtF G (pp 0) (pp 1));have HEX:Hid (r=exC (o.map (fun h=>h - pp 2))):=by rw [Hid,HR.out,ho.out,hpp.out]; rfl
 have HOH:Hid (∀ x,o=some x→Ht (8*K+300) x):=fun x e=>(hgt_ht HO.out.g (HKP.out 0 (by omega)) (HKP.out 1 (by omega)) (by rw [←ho.out,e])).mono (by omega)
 have HHT:=l49_height (K:=4*K+2) (HG.out.ext hE) HO.out.g hRp hRq (HKP.out 0 (by omega)) (HKP.out 1 (by omega)) (by omega);rw [hgt_eq,←ho.out] at HHT;have HHT':=Lib.hid HHT;clear HHT hpt;go_wp2_with (go_at_call 14; refine Hid.out ?_);refine (HHT'.out).mono ?_;rintro e w5 hh;clear HHT';cases o with
 | none =>
  obtain⟨rfl,e5⟩:=hh;have HR2:Hid (r=12):=HEX.out;clear p0 p1 p2 p3 q0 q1 q2 q3 r0 r1 r2 r3 a0 a1 a2 a3 a4 a5 B0 B9';go_upto_region 5 with (fail);refine boxes1 ?_;intro w6 e6 hsz6 BU;clear BU;go_wp2;go_ret;rw [HR2.out];exact⟨rfl,(hE.trans e5).trans e6⟩
 | some x =>
  obtain⟨v,rfl,hv,e5⟩:=hh;obtain⟨bz,Az,kz,cz,Az',kz',cz',rfl,-,-,-⟩:=hv.parts;have HR2:Hid (r=if 0 < x - pp 2 then 0 else 12):=HEX.out;clear p0 p1 p2 p3 q0 q1 q2 q3 a0 a1 a2 a3 a4 a5 B0 B9';go_upto_region 5 with (fail);refine boxes1 ?_;intro w6 e6 hsz6 BU;have BU':w6.heap[w5.heap.size]?=some (.cells #[.bool bz,.slice Az kz cz,.bool false,.slice Az' kz' cz'] 29 (0,0)):=BU;obtain⟨gU,hgU⟩:∃ gU,gU=w5.heap.size:=⟨_,rfl⟩
  rw [←hgU] at BU' ⊢;obtain⟨x0,x1,x2,x3,-⟩:=cells4 BU';have e46:=e5.trans e6;replace r0:=e46.cell r0;replace r1:=e46.cell r1;replace r2:=e46.cell r2;replace r3:=e46.cell r3;replace hE:=hE.trans e46;have HH9:=HOH.out x rfl;have HD:Hid (Sz (x - pp 2)):=(HH9.sub ((HKP.out 2 (by omega)).mono (m:=8*K+300) (by omega))).sz (by omega);have HS1:Hid (Sz x):=HH9.sz (by omega);have HS2:Hid (Sz (pp 2)):=(HKP.out 2 (by omega)).sz (by omega);clear BU BU' hgU HH9;go_wp2_with (go_at_call 57; refine Hid.out ?_);refine (r2_compare (hv.ext e6) (hRr.ext e46) HS1.out HS2.out HD.out).mono ?_;rintro e w7 ⟨rfl,e7⟩;obtain⟨k,hk⟩:=hid_eq (x - pp 2).num.sign;rw [←hk.out];clear x0 x1 x2 x3 r0 r1 r2 r3
  by_cases hp:0 < x - pp 2
  ·have t0:decide (k≤0)=false:=decide_eq_false (by have:=sign_pos.2 hp; rw [←hk.out] at this; omega);have HR3:Hid (r=0):=by rw [Hid,HR2.out,if_pos hp]
   clear hp;go_wp2;go_ret;rw [HR3.out];exact⟨rfl,hE.trans e7⟩
  ·have t0:decide (k≤0)=true:=decide_eq_true (by have:=mt sign_pos.1 hp; rw [←hk.out] at this; omega);have HR3:Hid (r=12):=by rw [Hid,HR2.out,if_neg hp]
   clear hp;go_wp2;go_ret;rw [HR3.out];exact⟨rfl,hE.trans e7⟩
def GrowC (base:Nat) (w:World) (v:Value) (n:Nat) (xs:List Value):Prop:=base≤w.heap.size∧w.ownsRow base 29 4 v n xs
theorem GrowC.ext {base:Nat} {w w':World} {v:Value} {n:Nat} {xs:List Value} (h:GrowC base w v n xs) (e:Ext w w'):GrowC base w' v n xs:=by
 refine⟨Nat.le_trans h.1 e.size,h.2.1,?_⟩
 rcases h.2.2 with h0 | ⟨g,cap,cur,hv,hb,hh,h1,h2,h3,h4⟩
 ·exact .inl h0
 ·exact .inr ⟨g,cap,cur,hv,hb,e.block hh,h1,h2,h3,h4⟩
theorem info_ratc:(Tryz.prog.info? 29).map (fun i=>(i.zero,i.size,i.bytes))=some (some (.agg #[.bool false,.slice none 0 0,.bool false,.slice none 0 0]),4,64):=by kernel_rfl
theorem wp_append_c {base:Nat} {w:World} {v:Value} {n m:Nat} {xs:List Value} {cs:Array Value} {o:Oper} {a:Act} {K:Act→World→Prop} {Q:Exit→Act→World→Prop} (s x:Operand) (t:TypeId) (ht:Tryz.prog.underlying t=some (.slice 29))
  (ho:o.op=.call { callee:=.builtin .append,args:=#[s,x],argTypes:=#[t,t] }) (hs:a.eval s=v) (h:GrowC base w v n xs) {b:Nat} {c:Nat} (hx:a.eval x=.slice (some ⟨b,0,none⟩) m c) {fr:Nat×Nat} {ty:TypeId} (hb:w.heap[b]?=some (.cells cs ty fr)) (hm:cs.size=m*4) (h1:cs.toList.all (·.oneCell')=true) (h0:0 < m) (hn:n+m < 1000000000)
  (hK:∀ g cap w' g',GrowC base w' (.slice (some ⟨g,0,none⟩) (n+m) cap) (n+m) (xs ++ cs.toList)→base≤g'→Chg g' (g'+1) w w'→K (a.put o.dst (.slice (some ⟨g,0,none⟩) (n+m) cap)) w'):o.wp Tryz.prog a w K Q:=by
 obtain⟨i0,hi0,hz0,hz1,hz2⟩:=info_parts info_ratc;obtain⟨hb0,hown⟩:=h
 obtain⟨g,cap,w',hrun,hO,hgr,hat,hlt⟩:=run_append_lies (P:=Tryz.prog) w t o.type base 29 i0 _ 4 64 ht hi0 hz0 hz1 hz2 rfl (by omega) v n xs hown ⟨b,0,none⟩ m c cs.toList (by rw [Array.length_toList]; exact hm)
  (fun j u hj=>by rw [add_addr,cell_blk hb,Nat.zero_add]; simpa using hj) (fun u hu=>List.all_eq_true.1 h1 u hu) h0 (by unfold maxLen; omega)
  (by omega) hb0 w.heap.size rfl
 unfold Oper.wp;simp only [execOp,ho,resolve,invoke,builtin,Sem.run_bind,Sem.run_pure,Result.andThen_ok,List.map_toArray,List.map_cons,List.map_nil,hs,hx,hrun];have hG:GrowC base w' (.slice (some ⟨g,0,none⟩) (n+m) cap) (n+m) (xs ++ cs.toList):=⟨Nat.le_trans hb0 hgr.size,hO⟩
 have hT:NoU w w.heap.size:=fun cs fr h=>by rw [Array.getElem?_eq_none (Nat.le_refl _)] at h; cases h
 rcases hown.2 with ⟨rfl,h0⟩ | ⟨g0,cap0,cur,rfl,hbb,hh,_⟩
 ·exact hK g cap w' w.heap.size hG hb0 (grown_chg hgr (fun k hk=>by simp [Value.ownBlock] at hk) hT)
 ·have hT0:NoU w g0:=NoU.mk hh (by decide);exact hK g cap w' g0 hG hbb (grown_chg hgr (fun k hk=>by simpa [Value.ownBlock] using hk.symm) hT0)
theorem step_append_c {base:Nat} {w:World} {v:Value} {n m:Nat} {xs:List Value} {cs:Array Value} {ops:Array Oper} {o:Oper} {a:Act} {K:Act→World→Prop} {Q:Exit→Act→World→Prop} {E:Prop} (hgd:o.guard=none) (s x:Operand) (t:TypeId) (ht:Tryz.prog.underlying t=some (.slice 29))
  (ho:o.op=.call { callee:=.builtin .append,args:=#[s,x],argTypes:=#[t,t] }) (hs:a.eval s=v) (h:GrowC base w v n xs) {b:Nat} {c:Nat} (hx:a.eval x=.slice (some ⟨b,0,none⟩) m c) {fr:Nat×Nat} {ty:TypeId} (hb:w.heap[b]?=some (.cells cs ty fr)) (hm:cs.size=m*4) (h1:cs.toList.all (·.oneCell')=true) (h0:0 < m) (hn:n+m < 1000000000)
  (hK:∀ g cap w' g',GrowC base w' (.slice (some ⟨g,0,none⟩) (n+m) cap) (n+m) (xs ++ cs.toList)→base≤g'→Chg g' (g'+1) w w'→K (a.put o.dst (.slice (some ⟨g,0,none⟩) (n+m) cap)) w') :
  if Region.wanted o (yielded ops a.tmps)=true then Oper.wp Tryz.prog o a w K Q else E:=by
 have hw:Region.wanted o (yielded ops a.tmps)=true:=by simp [Region.wanted,hgd]
 rw [if_pos hw];exact wp_append_c s x t ht ho hs h hx hb hm h1 h0 hn hK
def Mn.gc (lo n:Nat) (xs:List Value):Mn:=⟨fun v w=>∃ g cap,v=.slice (some ⟨g,0,none⟩) n cap∧GrowC lo w v n xs,fun e h=>by
 obtain⟨g,cap,h0,h1⟩:=h
 exact⟨g,cap,h0,h1.ext e⟩⟩
theorem GrowC.empty {base g:Nat} {w:World} (hb:base≤g) (h:w.heap[g]?=some (.cells #[] 29 (0,0))):GrowC base w (.slice (some ⟨g,0,none⟩) 0 0) 0 [] :=
 ⟨by have:=blk_lt h; omega,by simp,.inr ⟨g,0,#[],rfl,hb,h,Nat.le_refl _,by unfold maxLen; omega,rfl,rfl⟩⟩
def RetGc (w:World) (n:Nat) (xs:List Value) (e:Ending) (w':World):Prop:=∃ g cap,e=.returned (.slice (some ⟨g,0,none⟩) n cap)∧GrowC w.heap.size w' (.slice (some ⟨g,0,none⟩) n cap) n xs∧Ext w w'
theorem GrowC.mono {base base' n:Nat} {w:World} {v:Value} {xs:List Value} (h:GrowC base w v n xs) (hb:base'≤base):GrowC base' w v n xs:=by
 refine⟨Nat.le_trans hb h.1,h.2.1,?_⟩
 rcases h.2.2 with h0 | ⟨g,cap,cur,hv,hB,hh,h1,h2,h3,h4⟩
 ·exact .inl h0
 ·exact .inr ⟨g,cap,cur,hv,Nat.le_trans hb hB,hh,h1,h2,h3,h4⟩
theorem l49_both {w:World} {ca cb:Array Value} (a2:ca.size=12) (a3:ca.toList.all (·.oneCell')=true) (b2:cb.size=12) (b3:cb.toList.all (·.oneCell')=true) :
  Calls Tryz.prog 17 #[.agg ca,.agg cb] w (RetGc w 6 (ca.toList ++ cb.toList)):=by
 have ZA:=Lib.hid a2;have ZB:=Lib.hid b2;have OA:=Lib.hid a3;have OB:=Lib.hid b3;clear a2 a3 b2 b3;go_enter Tryz.func17,Tryz.ntmps17;go_upto_region 1 with (fail);refine boxes2 ?_;intro W hE hsz B0 B1;have HB0:=Lib.hid B0;have HB1:=Lib.hid B1;clear B0 B1;have eC:=(Ext.refl W).drew;refine region_late (fun w'=>True) [] (by kernel_rfl) (by exact trivial) (fun hHeld=>?_);refine sP 1 (h:=?_);try simp only [nr]
 refine sP 3 (h:=?_);try simp only [nr]
 refine stepL_only (i:=0) rfl (by kernel_rfl) (fun K hK=>?_);go_simp;have hsz0:=eC.size
 first | refine boxes1 ?_ | refine boxesD1 ?_
 intro w3 e3 hsz3 BJ;replace eC:Ext W w3:=by first | exact eC.trans e3 | exact e3
 have hg0:=GrowC.empty (base:=W.heap.size) hsz0 BJ;clear hHeld;refine hK.out _ _ (by exact trivial) fun hHeld=>?_
 clear hK K;try simp only [nr]
 refine stepL_only (i:=2) rfl (by kernel_rfl) (fun K hK=>?_);refine step_append_c rfl _ _ 45 Tryz.underlying45 rfl (by rfl) hg0 (m:=3) (c:=3) (by rfl) (eC.block HB0.out) ZA.out OA.out (by omega) (by omega) ?_;intro g1 cap1 w4 p1 hg1 hb1 C1;replace eC:=C1.ext eC hb1;clear hHeld;refine hK.out _ _ (by exact trivial) fun hHeld=>?_
 clear hK K;try simp only [nr]
 refine stepL_only (i:=4) rfl (by kernel_rfl) (fun K hK=>?_);refine step_append_c rfl _ _ 45 Tryz.underlying45 rfl (by rfl) hg1 (m:=3) (c:=3) (by rfl) (eC.block HB1.out) ZB.out OB.out (by omega) (by omega) ?_;intro g2 cap2 w5 p2 hg2 hb2 C2;replace eC:=C2.ext eC hb2;clear hHeld;refine hK.out _ _ (by exact trivial) fun hHeld=>?_
 clear hK K;try simp only [nr]
 refine sP 5 (h:=?_);try simp only [nr]
 refine stepL_done (by kernel_rfl) ?_ _;clear hHeld;go_wp2;go_ret;exact⟨g2,cap2,rfl,hg2.mono (by have:=hE.size; omega),hE.trans eC⟩
def ratOf (R:Raw):Rat:=Rat.divInt (zval R.b1 R.l1) (zval R.b2 R.l2)
theorem ratOf_raw (q:Rat):ratOf (raw q)=q:=by
 unfold ratOf raw;have h4:zval false (dg q.den)=(q.den:Int):=by unfold zval; rw [val_dg]; simp
 simp only [zval_canon,h4];exact Rat.num_divInt_den q
theorem raw_ratOf {R:Raw} (h:okR R=true):R=raw (ratOf R):=by
 obtain⟨q,rfl⟩:=okR_spec h;rw [ratOf_raw]
theorem wp_load_part {o:Oper} {a:Act} {w:World} {K:Act→World→Prop} {Q:Exit→Act→World→Prop} (ty:TypeId) (x:Operand) (ho:o.op=.load ty x) (g k:Nat) (hx:a.eval x=.pointer (some ⟨g,k,none⟩)) (cs:Array Value)
  (hc:∀ j v,cs[j]?=some v→w.cell? ⟨g,k+j,none⟩=some v) (d:TypeDesc) (hu:Tryz.prog.underlying ty=some d) (hd:d.isRow=true) (hi:(Tryz.prog.info? ty).map (·.size)=some cs.size) (h:K (a.put o.dst (.agg cs)) w):o.wp Tryz.prog a w K Q :=
 wp_load_mid ty x ho g k hx cs.toList d (fun j v hv=>hc j v (by rw [←Array.getElem?_toList]; exact hv)) hu hd (by rw [Array.length_toList]; exact hi) h
theorem wpList_load_part {ops:Array Oper} {rest:List Oper} {o:Oper} {a:Act} {w:World} {Q:Exit→Act→World→Prop} (hgd:o.guard=none) (ty:TypeId) (x:Operand) (ho:o.op=.load ty x) (g k:Nat) (hx:a.eval x=.pointer (some ⟨g,k,none⟩)) (cs:Array Value)
  (hc:∀ j v,cs[j]?=some v→w.cell? ⟨g,k+j,none⟩=some v) (d:TypeDesc) (hu:Tryz.prog.underlying ty=some d) (hd:d.isRow=true) (hi:(Tryz.prog.info? ty).map (·.size)=some cs.size) (h:wpList Tryz.prog ops Q rest (a.put o.dst (.agg cs)) w):wpList Tryz.prog ops Q (o :: rest) a w :=
 wpList_plain hgd fun _ hK=>wp_load_part ty x ho g k hx cs hc d hu hd hi (hK _ _ h)
theorem part_l {w:World} {g:Nat} {ca cb:Array Value} {t:TypeId} {fr:Nat×Nat} (hb:w.heap[g]?=some (.cells (ca ++ cb) t fr)):∀ j v,ca[j]?=some v→w.cell? ⟨g,0+j,none⟩=some v:=by
 intro j v hv
 have hj:j < ca.size:=by
  rcases Nat.lt_or_ge j ca.size with h | h
  ·exact h
  ·rw [Array.getElem?_eq_none h] at hv; cases hv
 rw [cell_blk hb,Nat.zero_add,Array.getElem?_append_left hj];exact hv
theorem part_r {w:World} {g:Nat} {ca cb:Array Value} {t:TypeId} {fr:Nat×Nat} (hb:w.heap[g]?=some (.cells (ca ++ cb) t fr)) (ha:ca.size=12):∀ j v,cb[j]?=some v→w.cell? ⟨g,12+j,none⟩=some v:=by
 intro j v hv;rw [cell_blk hb,Array.getElem?_append_right (by omega),show 12+j - ca.size=j by omega];exact hv
def Mn.bs (lo n:Nat) (cs:Array Value) (t:TypeId):Mn:=⟨fun v w=>∃ b,v=.slice (some ⟨b,0,none⟩) n n∧lo≤b∧w.heap[b]?=some (.cells cs t (0,0)),fun e h=>by
 obtain⟨b,h0,h1,h2⟩:=h
 exact⟨b,h0,h1,e.block h2⟩⟩
theorem GrowC.ls {N base g n cap:Nat} {w:World} {cs:Array Value} {R:Nat→Raw} (h:GrowC base w (.slice (some ⟨g,0,none⟩) n cap) n cs.toList) (hN:N≤base) (hR:∀ i,i < n→ArV N w cs (i*4) (R i)):LsR N 0 w.heap.size w (.slice (some ⟨g,0,none⟩) n cap) n R:=by
 obtain⟨hb0,-,⟨h0,-⟩ | ⟨g',cap',cur,hv,hb,hh,h1,h2,h3,h4⟩⟩:=h
 ·cases h0
 ·injection hv with hv1 hv2 hv3
  injection hv1 with hv1
  injection hv1 with hv1
  subst hv1 hv3
  have hcur:∀ (j:Nat) (x:Value),cs[j]?=some x→cur[j]?=some x:=by
   intro j x hx;rw [←Array.getElem?_toList,←h4,List.getElem?_take] at hx
   split at hx
   ·rw [←Array.getElem?_toList]; exact hx
   ·cases hx
  refine⟨by omega,Nat.le_refl _,_,_,rfl,h1,h2,fun _=>⟨g,0,rfl,Nat.zero_le _,blk_lt hh,fun i hi=>?_⟩⟩;obtain⟨s,t,k1,k2,k3,k4,k5,k6⟩:=hR i hi
  have:ArV N w cur (0+i*4) (R i):=by
   rw [Nat.zero_add];exact⟨s,t,hcur _ _ k1,hcur _ _ k2,hcur _ _ k3,hcur _ _ k4,k5,k6⟩
  exact this.at4 hh
def r6 (Ra Rb:Nat→Raw) (i:Nat):Raw:=if i < 3 then Ra i else Rb (i - 3)
def r7 (Ra Rb:Nat→Raw) (R:Raw) (i:Nat):Raw:=if i < 6 then r6 Ra Rb i else R
theorem ar6 {N:Nat} {w:World} {ca cb:Array Value} {Ra Rb:Nat→Raw} (ha:PtA N w ca Ra) (hb:PtA N w cb Rb) (i:Nat) (hi:i < 6):ArV N w (ca ++ cb) (i*4) (r6 Ra Rb i):=by
 have sa:=ha.size;unfold r6
 split
 ·rename_i h3
  have h:=(ha.pt i h3).shift (cs':=ca ++ cb) (o:=0) h3 (fun k hk=>by rw [Nat.zero_add,Array.getElem?_append_left (by omega)]);rw [Nat.zero_add] at h;exact h
 ·have h:=(hb.pt (i - 3) (by omega)).shift (cs':=ca ++ cb) (o:=12) (by omega) (fun k hk=>by rw [Array.getElem?_append_right (by omega)]; congr 1; omega);rw [show 12+(i - 3)*4=i*4 by omega] at h;exact h
theorem ar7 {N:Nat} {w:World} {ca cb ct:Array Value} {Ra Rb:Nat→Raw} {R:Raw} (ha:PtA N w ca Ra) (hb:PtA N w cb Rb) (ht:ArV N w ct 0 R) (i:Nat) (hi:i < 7):ArV N w (ca ++ cb ++ ct) (i*4) (r7 Ra Rb R i):=by
 have sa:=ha.size;have sb:=hb.size;unfold r7
 split
 ·rename_i h6
  obtain⟨s,t,k1,k2,k3,k4,k5,k6⟩:=ar6 ha hb i h6;have hz:(ca ++ cb).size=24:=by rw [Array.size_append]; omega
  exact⟨s,t,by rw [Array.getElem?_append_left (by omega)]; exact k1,by rw [Array.getElem?_append_left (by omega)]; exact k2,by rw [Array.getElem?_append_left (by omega)]; exact k3,by rw [Array.getElem?_append_left (by omega)]; exact k4,k5,k6⟩
 ·obtain⟨s,t,k1,k2,k3,k4,k5,k6⟩:=ht;have hz:(ca ++ cb).size=24:=by rw [Array.size_append]; omega
  obtain rfl:i=6:=by omega
  exact⟨s,t,by rw [Array.getElem?_append_right (by omega),hz]; exact k1,by rw [Array.getElem?_append_right (by omega),hz]; exact k2,by rw [Array.getElem?_append_right (by omega),hz]; exact k3,by rw [Array.getElem?_append_right (by omega),hz]; exact k4,k5,k6⟩
theorem raw_ar {N:Nat} {w:World} {x0 x1 x2 x3:Value} {R:Raw} (h:RawV N w (.agg #[x0,x1,x2,x3]) R):ArV N w #[x0,x1,x2,x3] 0 R:=by
 obtain⟨A,n,c,A',n',c',e,h1,h2⟩:=h.parts;injection e with e
 simp only [Array.mk.injEq,List.cons.injEq,and_true] at e;obtain⟨rfl,rfl,rfl,rfl⟩:=e;obtain⟨s,t,e,g1,g2⟩:=h;injection e with e
 simp only [Array.mk.injEq,List.cons.injEq,and_true,true_and] at e;obtain⟨rfl,rfl⟩:=e;exact⟨_,_,rfl,rfl,rfl,rfl,g1,g2⟩
theorem r6_l {Ra Rb:Nat→Raw} {i:Nat} (h:i < 3):r6 Ra Rb i=Ra i:=if_pos h
theorem r6_r {Ra Rb:Nat→Raw} {i:Nat}:r6 Ra Rb (i+3)=Rb i:=by
 unfold r6;rw [if_neg (by omega),show i+3 - 3=i by omega]
theorem r6_all {p:Raw→Prop} {Ra Rb:Nat→Raw}:(∀ i,i < 6→p (r6 Ra Rb i))↔(∀ i,i < 3→p (Ra i))∧(∀ i,i < 3→p (Rb i)):=by
 constructor
 ·intro h;exact⟨fun i hi=>by have:=h i (by omega); rw [r6_l hi] at this; exact this,fun i hi=>by have:=h (i+3) (by omega); rw [r6_r] at this; exact this⟩
 ·rintro⟨h1,h2⟩ i hi;unfold r6
  split
  ·exact h1 i (by assumption)
  ·exact h2 (i - 3) (by omega)
theorem r7_all {p:Raw→Prop} {Ra Rb:Nat→Raw} {R:Raw}:(∀ i,i < 7→p (r7 Ra Rb R i))↔(∀ i,i < 3→p (Ra i))∧(∀ i,i < 3→p (Rb i))∧p R:=by
 constructor
 ·intro h;have h6:∀ i,i < 6→p (r6 Ra Rb i):=fun i hi=>by have:=h i (by omega); unfold r7 at this; rw [if_pos hi] at this; exact this
  have h7:=h 6 (by omega);unfold r7 at h7;rw [if_neg (by omega)] at h7;exact⟨(r6_all.1 h6).1,(r6_all.1 h6).2,h7⟩
 ·rintro⟨h1,h2,h3⟩ i hi;unfold r7
  split
  ·exact r6_all.2 ⟨h1,h2⟩ i (by assumption)
  ·exact h3
theorem bool_iff {x y:Bool} (h:x=true↔y=true):x=y:=by
 cases x <;> cases y <;> simp_all
theorem code_chk7 {G:Grd} {Ra Rb:Nat→Raw} {R:Raw}:code49 G 7 (r7 Ra Rb R)=chk G Ra Rb 1 (fun _=>R):=by
 unfold code49 chk
 have e:allB 7 (fun i=>okR (r7 Ra Rb R i))=(allB 3 (fun i=>okR (Ra i)) && (allB 3 (fun i=>okR (Rb i)) && allB 1 (fun _=>okR R))):=by
  refine bool_iff ?_;rw [Bool.and_eq_true,Bool.and_eq_true,allB_true,allB_true,allB_true,allB_true,r7_all (p:=fun r=>okR r=true)];exact⟨fun ⟨h1,h2,h3⟩=>⟨h1,h2,fun _ _=>h3⟩,fun ⟨h1,h2,h3⟩=>⟨h1,h2,h3 0 (by omega)⟩⟩
 rw [e]
theorem chk_parts {G:Grd} {Ra Rb R:Nat→Raw} {k:Nat} (h:chk G Ra Rb k R=0):grdCode G=0∧(∀ i,i < 3→okR (Ra i)=true)∧(∀ i,i < 3→okR (Rb i)=true)∧(∀ i,i < k→okR (R i)=true):=by
 unfold chk at h
 split at h
 ·rename_i h0; exact absurd h h0
 ·rename_i h0
  split at h
  ·rename_i h1
   rw [Bool.and_eq_true,Bool.and_eq_true,allB_true,allB_true,allB_true] at h1;exact⟨by simpa using h0,h1.1,h1.2.1,h1.2.2⟩
  ·cases h
theorem few49_all {G:Grd} {k:Nat} {R:Nat→Raw} (h:few49 G k R=true):∀ i,i < k→briefB (R i)=true:=by
 unfold few49 at h;rw [Bool.and_eq_true] at h;exact allB_true.1 h.2
theorem raws_of {Ra:Nat→Raw} (h:∀ i,i < 3→okR (Ra i)=true):∃ a:Nat→Rat,∀ i,i < 3→Ra i=raw (a i):=⟨fun i=>ratOf (Ra i),fun i hi=>raw_ratOf (h i hi)⟩
theorem PtA.congr {N:Nat} {w:World} {cs:Array Value} {R R':Nat→Raw} (h:PtA N w cs R) (e:∀ i,i < 3→R i=R' i):PtA N w cs R':=⟨fun i hi=>by rw [←e i hi]; exact h.pt i hi,h.size,h.one⟩
theorem sok_of {G:Grd} {a b:Nat→Rat} (hg:grdCode G=0) (ha:∀ i,i < 3→briefB (raw (a i))=true) (hb:∀ i,i < 3→briefB (raw (b i))=true):SOk G 17 a b :=
 ⟨grd_ok hg,fun i hi=>brief_ht (ha i hi),fun i hi=>brief_ht (hb i hi),fun i hi=>brief_bd (ha i hi),fun i hi=>brief_bd (hb i hi)⟩
theorem info_rat4:(Tryz.prog.info? 29).map (·.size)=some 4:=by kernel_rfl
theorem blk_zero {G:Grd} {a b:Nat→Rat} {t:Rat} (h:blkCode G a b t=0):blkF G a b t:=by
 unfold blkCode at h
 split at h
 ·rename_i h0
  refine⟨h0.1,h0.2,?_⟩;cases he:exF G a b t with
  | none=>rw [he] at h; cases h
  | some x =>
   rw [he] at h;refine⟨x,rfl,?_⟩
   by_cases hx:0 < x
   ·exact hx
   ·have h12:exC (some x)=12:=if_neg hx;rw [h12] at h;cases h
 ·cases h
theorem l49_blocks {N lo hi:Nat} {w:World} {vg vt:Value} {ca cb:Array Value} {G:Grd} {Ra Rb:Nat→Raw} {R:Raw} (h:GrdV N lo hi w vg G) (ha:PtA N w ca Ra) (hb:PtA N w cb Rb) (ht:RawV N w vt R) (hN:N≤w.heap.size) :
  Calls Tryz.prog 4 #[vg,.agg (ca ++ cb),vt] w (RetV w (.bool true)):=by
 obtain⟨A,c,rfl,hnc,hcm,hz⟩:=h.parts;obtain⟨X1,i1,d1,X2,i2,d2,rfl,-,-⟩:=ht.parts;have HG:=Lib.hid h;have HA:=Lib.hid ha;have HB:=Lib.hid hb;have HT:=Lib.hid ht;have ZA:=Lib.hid ha.size;have ZB:=Lib.hid hb.size;have OA:=Lib.hid ha.one;have OB:=Lib.hid hb.one;clear h ha hb ht hz hnc hcm;go_enter Tryz.func4,Tryz.ntmps4;go_upto_region 1 with (fail);refine boxes3 ?_;intro W hE hsz B0 B1 B2;go_wp2_with (go_at_call 10; refine Hid.out ?_);refine (l49_known).mono ?_;rintro e w1 ⟨rfl,e1⟩;replace hE:=hE.trans e1;replace B0:=e1.block B0;replace B1:=e1.block B1;replace B2:=e1.block B2;have hs1:=e1.size;have hN1:N≤w1.heap.size:=by have:=hE.size; omega
 clear e1;go_upto_region 3 with (fail);obtain⟨p0,p1,p2,p3,-⟩:=cells4 B2;have HB1:=Lib.hid B1;clear B1;refine regI [Mn.eq (.pointer (some ⟨w.heap.size+1,0,none⟩)),Mn.eq (.agg ca),Mn.eq (.pointer (some ⟨w.heap.size+1,12,none⟩)),Mn.eq (.agg cb),Mn.gc w1.heap.size 6 (ca.toList ++ cb.toList),Mn.eq (.agg #[.bool R.b1,.slice X1 i1 d1,.bool R.b2,.slice X2 i2 d2]),Mn.bs w1.heap.size 1 #[.bool R.b1,.slice X1 i1 d1,.bool R.b2,.slice X2 i2 d2] 29,Mn.any,Mn.any] [some 15,some 16,some 17,some 18,some 19,some 20,some 21,some 22,some 7] [7,8] [true,true,true,true,true,true,true,false,false] 2 (by kernel_rfl) ?_ ?_
 ·show ∀ i,i < 9→_
  iterate 9 refine fs ?_ ?_
  ·exact fz
  all_goals intro hl
  all_goals first | exact absurd hl (by decide) | skip
  all_goals clear hl
  all_goals refine stp rfl ?_
  all_goals intro ac wi eI hB hA K hK
  have o4:=oOf (hB 4 (by kernel_rfl)) rfl
  rotate_left
  obtain⟨_,s15,rfl⟩:=hA 0 (by kernel_rfl) 15 rfl;clear hB hA;have cc0:=eI.cell p0;have cc1:=eI.cell p1;have cc2:=eI.cell p2;have cc3:=eI.cell p3
  ·refine wp_load_part 43 _ rfl _ 0 (by simp [Act.eval,s15]) ca (part_l (eI.block HB1.out)) _ Tryz.underlying43 rfl (by rw [ZA.out]; exact info_pt) ?_;exact hK.out _ _ (Ext.refl _) rfl
  have o4:=oOf (hB 4 (by kernel_rfl)) rfl
  rotate_left
  obtain⟨_,s17,rfl⟩:=hA 2 (by kernel_rfl) 17 rfl;clear hB hA;have cc0:=eI.cell p0;have cc1:=eI.cell p1;have cc2:=eI.cell p2;have cc3:=eI.cell p3
  ·refine wp_load_part 43 _ rfl _ 12 (by simp [Act.eval,s17]) cb (part_r (eI.block HB1.out) ZA.out) _ Tryz.underlying43 rfl (by rw [ZB.out]; exact info_pt) ?_;exact hK.out _ _ (Ext.refl _) rfl
  obtain⟨_,s16,rfl⟩:=hA 1 (by kernel_rfl) 16 rfl;obtain⟨_,s18,rfl⟩:=hA 3 (by kernel_rfl) 18 rfl;clear hB hA
  ·go_simp;refine (l49_both ZA.out OA.out ZB.out OB.out).mono ?_;rintro e wj ⟨gj,cj,rfl,hj,ej⟩;go_wp2_with fail;exact hK.out _ _ ej ⟨gj,cj,rfl,hj.mono eI.size⟩
  have o5:=oOf (hB 5 (by kernel_rfl)) rfl;have cc0:=eI.cell p0;have cc1:=eI.cell p1;have cc2:=eI.cell p2;have cc3:=eI.cell p3
  rotate_left
  obtain⟨_,s20,rfl⟩:=hA 5 (by kernel_rfl) 20 rfl;clear hB hA
  ·go_simp;refine boxes1 ?_;intro wj ej hszj BJ;exact hK.out _ _ ej ⟨_,rfl,eI.size,BJ⟩
  all_goals clear hB hA
  all_goals go_simp
  all_goals exact hK.out _ _ (Ext.refl _) rfl
 intro vals wz eZ hJ;have J19:Mn.p (Mn.gc w1.heap.size 6 (ca.toList ++ cb.toList)) (vals 4) wz:=hJ 4 (by decide) (by decide);have J21:Mn.p (Mn.bs w1.heap.size 1 #[.bool R.b1,.slice X1 i1 d1,.bool R.b2,.slice X2 i2 d2] 29) (vals 6) wz:=hJ 6 (by decide) (by decide);clear hJ;simp only [pr,Nat.reduceAdd]
 generalize vals 4=z19 at J19 ⊢
 generalize vals 6=z21 at J21 ⊢
 obtain⟨g6,c6,rfl,hg6⟩:=J19;obtain⟨b6,rfl,hb6,B7⟩:=J21;refine stepL_late (i:=7) rfl (by kernel_rfl) (by kernel_rfl) (fun K hK=>?_);refine step_append_c rfl _ _ 45 Tryz.underlying45 rfl (by rfl) hg6 (m:=1) (c:=1) (by rfl) B7 (by rfl) (by rfl) (by omega) (by omega) ?_;intro g7 cap7 w7 p7 hg7 hb7 C7;refine hK.out _ _ ?_;clear hK K;try simp only [nr]
 refine stepL_late (i:=8) rfl (by kernel_rfl) (by kernel_rfl) (fun K hK=>?_);go_simp;refine hK.out _ _ ?_;clear hK K;try simp only [nr]
 refine stepL_done (by kernel_rfl) ?_ _;have E7:Ext w1 w7:=C7.ext eZ hb7;have e7:ca.toList ++ cb.toList ++ (#[.bool R.b1,.slice X1 i1 d1,.bool R.b2,.slice X2 i2 d2]:Array Value).toList=(ca ++ cb ++ (#[.bool R.b1,.slice X1 i1 d1,.bool R.b2,.slice X2 i2 d2]:Array Value)).toList:=by simp
 rw [e7] at hg7;replace hE:=hE.trans E7;have hLS:=hg7.ls hN1 (R:=r7 Ra Rb R) (fun i hi=>ar7 (HA.out.ext hE) (HB.out.ext hE) (raw_ar (HT.out.ext hE)) i hi);have HLS:=Lib.hid hLS;replace B0:=E7.block B0;have B1:=E7.block HB1.out;replace B2:=E7.block B2;have hN7:N≤w7.heap.size:=by have:=hE.size; omega
 clear e7 hg7 hLS E7 C7 hb7 eZ hg6 hb6 B7 p0 p1 p2 p3 HB1;obtain⟨a0,a1,a2,a3,a4,a5⟩:=cells_g B0;go_wp2_with (go_at_call 11; refine Hid.out ?_);refine (l49_few (HG.out.ext hE) HLS.out).mono ?_;obtain⟨fw,hfw⟩:=hid_eq (few49 G 7 (r7 Ra Rb R));rw [←hfw.out];rintro e w8 ⟨rfl,e8⟩;clear a0 a1 a2 a3 a4 a5;replace hE:=hE.trans e8;replace B0:=e8.block B0;replace B1:=e8.block B1;replace B2:=e8.block B2;have HLS8:=Lib.hid (HLS.out.ext e8);clear HLS;cases fw with
 | false =>
  go_wp2;go_ret;exact⟨rfl,hE⟩
 | true =>
 have FW:=r7_all (p:=fun r=>briefB r=true).1 (few49_all hfw.out.symm);obtain⟨fa,fb,ft⟩:=FW;have SA:Hid (∀ i,i < 3→RawSz (Ra i)):=fun i hi=>(brief_raw (fa i hi)).1
 have SB:Hid (∀ i,i < 3→RawSz (Rb i)):=fun i hi=>(brief_raw (fb i hi)).1
 have ST:Hid (RawSz R):=(brief_raw ft).1;have S7:Hid (∀ i,i < 7→RawSz (r7 Ra Rb R i)):=r7_all.2 ⟨SA.out,SB.out,ST.out⟩;go_upto_region 6 with (fail);obtain⟨a0,a1,a2,a3,a4,a5⟩:=cells_g B0;obtain⟨p0,p1,p2,p3,-⟩:=cells4 B2;refine wp_region_lit ?_;refine wpList_plain rfl (fun K hK=>?_);go_simp;refine hK _ _ ?_;clear hK K;try simp only [nr]
 refine wpList_plain rfl (fun K hK=>?_);go_simp;refine hK _ _ ?_;clear hK K;try simp only [nr]
 refine wpList_load_part rfl 43 _ rfl _ 0 (by rfl) ca (part_l B1) _ Tryz.underlying43 rfl (by rw [ZA.out]; exact info_pt) ?_;try simp only [nr]
 refine wpList_plain rfl (fun K hK=>?_);go_simp;refine hK _ _ ?_;clear hK K;try simp only [nr]
 refine wpList_load_part rfl 43 _ rfl _ 12 (by rfl) cb (part_r B1 ZA.out) _ Tryz.underlying43 rfl (by rw [ZB.out]; exact info_pt) ?_;try simp only [nr]
 refine wpList_plain rfl (fun K hK=>?_);go_simp;refine hK _ _ ?_;clear hK K;try simp only [nr]
 by_cases hc:chk G Ra Rb 1 (fun _=>R)=0
 case neg =>
  obtain⟨r,hr⟩:=hid_eq (chk G Ra Rb 1 (fun _=>R));have HB0:=Lib.hid (o_BlockedBad (HG.out.ext hE) (HA.out.ext hE) (HB.out.ext hE) (HT.out.ext hE) SA.out SB.out ST.out hc);rw [←hr.out] at HB0 hc;go_wp2_with (go_at_call 18; refine Hid.out ?_);refine (HB0.out).mono ?_;rintro e w9 ⟨rfl,e9⟩
  rename_i K9 hK9
  refine hK9 _ _ ?_;clear hK9 K9 HB0;try simp only [nr]
  refine wpList_plain rfl (fun K hK=>?_);go_simp;refine hK _ _ ?_;clear hK K;try simp only [nr]
  refine wpList_nil ?_;clear a0 a1 a2 a3 a4 a5 p0 p1 p2 p3;replace hE:=hE.trans e9;replace B0:=e9.block B0;obtain⟨a0,a1,a2,a3,a4,a5⟩:=cells_g B0;go_wp2_with (go_at_call 13; refine Hid.out ?_);refine (l49_code (HG.out.ext hE) (HLS8.out.ext e9) S7.out).mono ?_;rw [code_chk7,←hr.out];rintro e w10 ⟨rfl,e10⟩;clear a0 a1 a2 a3 a4 a5;have t0:(r != 0)=true:=by simpa using hc
  have t1:(r == r)=true:=by simp
  clear hc;go_wp2;go_ret;exact⟨rfl,hE.trans e10⟩
 obtain⟨hg,ka,kb,kt⟩:=chk_parts hc;obtain⟨a,hra⟩:=raws_of ka;obtain⟨b,hrb⟩:=raws_of kb;obtain⟨t,rfl⟩:∃ t,R=raw t:=⟨_,raw_ratOf (kt 0 (by omega))⟩
 have HA':Hid (PtA N w ca (fun i=>raw (a i))):=HA.out.congr hra;have HB':Hid (PtA N w cb (fun i=>raw (b i))):=HB.out.congr hrb;have HSO:Hid (SOk G 17 a b):=sok_of hg (fun i hi=>by rw [←hra i hi]; exact fa i hi) (fun i hi=>by rw [←hrb i hi]; exact fb i hi);have HTK:Hid (Ht 17 t):=brief_ht ft;have HGC:=Lib.hid hg;have HC:=Lib.hid hc;clear hg ka kb kt hra hrb fa fb ft hc HA HB;obtain⟨r,hr⟩:=hid_eq (blkCode G a b t);have HB0:=Lib.hid (o_Blocked (K:=17) (HG.out.ext hE) HGC.out HSO.out HTK.out (by omega) (HA'.out.ext hE) (HB'.out.ext hE) (HT.out.ext hE));rw [←hr.out] at HB0;go_wp2_with (go_at_call 18; refine Hid.out ?_);refine (HB0.out).mono ?_;rintro e w9 ⟨rfl,e9⟩
 rename_i K9 hK9
 refine hK9 _ _ ?_;clear hK9 K9 HB0;try simp only [nr]
 refine wpList_plain rfl (fun K hK=>?_);go_simp;refine hK _ _ ?_;clear hK K;try simp only [nr]
 refine wpList_nil ?_;clear a0 a1 a2 a3 a4 a5 p0 p1 p2 p3;replace hE:=hE.trans e9;replace B0:=e9.block B0;replace B1:=e9.block B1;replace B2:=e9.block B2;obtain⟨a0,a1,a2,a3,a4,a5⟩:=cells_g B0;go_wp2_with (go_at_call 13; refine Hid.out ?_);refine (l49_code (HG.out.ext hE) (HLS8.out.ext e9) S7.out).mono ?_;rw [code_chk7,HC.out];rintro e w10 ⟨rfl,e10⟩;clear a0 a1 a2 a3 a4 a5 HLS8 S7 SA SB ST;replace hE:=hE.trans e10;replace B0:=e10.block B0;replace B1:=e10.block B1;replace B2:=e10.block B2;go_upto_region 10 with (fail);obtain⟨a0,a1,a2,a3,a4,a5⟩:=cells_g B0;obtain⟨p0,p1,p2,p3,-⟩:=cells4 B2;refine wp_region_lit ?_;refine wpList_plain rfl (fun K hK=>?_);go_simp;refine hK _ _ ?_;clear hK K;try simp only [nr]
 refine wpList_plain rfl (fun K hK=>?_);go_simp;refine hK _ _ ?_;clear hK K;try simp only [nr]
 refine wpList_plain rfl (fun K hK=>?_);go_simp;refine hK _ _ ?_;clear hK K;try simp only [nr]
 refine wpList_load_part rfl 43 _ rfl _ 0 (by rfl) ca (part_l B1) _ Tryz.underlying43 rfl (by rw [ZA.out]; exact info_pt) ?_;try simp only [nr]
 refine wpList_plain rfl (fun K hK=>?_);go_simp;refine hK _ _ ?_;clear hK K;try simp only [nr]
 refine wpList_load_part rfl 43 _ rfl _ 12 (by rfl) cb (part_r B1 ZA.out) _ Tryz.underlying43 rfl (by rw [ZB.out]; exact info_pt) ?_;try simp only [nr]
 refine wpList_plain rfl (fun K hK=>?_);go_simp;refine hK _ _ ?_;clear hK K;try simp only [nr]
 go_wp2_with (go_at_call 19; refine Hid.out ?_);refine (l49_blocked (K:=17) (HG.out.ext hE) HSO.out HTK.out (by omega) (HA'.out.ext hE) (HB'.out.ext hE) (HT.out.ext hE)).mono ?_;rw [←hr.out];rintro e w11 ⟨rfl,e11⟩
 rename_i K9 hK9
 refine hK9 _ _ ?_;clear hK9 K9;try simp only [nr]
 have t0:(r != r)=false:=by simp
 refine wpList_plain rfl (fun K hK=>?_);go_simp;refine hK _ _ ?_;clear hK K;try simp only [nr]
 refine wpList_nil ?_;clear a0 a1 a2 a3 a4 a5 p0 p1 p2 p3;replace hE:=hE.trans e11;replace B0:=e11.block B0;replace B1:=e11.block B1;go_upto_region 12 with (fail);obtain⟨a0,a1,a2,a3,a4,a5⟩:=cells_g B0;refine wp_region_lit ?_;refine wpList_plain rfl (fun K hK=>?_);go_simp;refine hK _ _ ?_;clear hK K;try simp only [nr]
 refine wpList_plain rfl (fun K hK=>?_);go_simp;refine hK _ _ ?_;clear hK K;try simp only [nr]
 refine wpList_load_part rfl 43 _ rfl _ 0 (by rfl) ca (part_l B1) _ Tryz.underlying43 rfl (by rw [ZA.out]; exact info_pt) ?_;try simp only [nr]
 refine wpList_plain rfl (fun K hK=>?_);go_simp;refine hK _ _ ?_;clear hK K;try simp only [nr]
 refine wpList_load_part rfl 43 _ rfl _ 12 (by rfl) cb (part_r B1 ZA.out) _ Tryz.underlying43 rfl (by rw [ZB.out]; exact info_pt) ?_;try simp only [nr]
 go_wp2_with (go_at_call 20; refine Hid.out ?_);refine (o_Clear (K:=17) (HG.out.ext hE) HGC.out HSO.out (by omega) (by have:=hE.size; omega) (HA'.out.ext hE) (HB'.out.ext hE)).mono ?_;rintro e w12 ⟨is,v,t',rfl,hv,-,h1,h2,e12⟩;obtain⟨bz,Az,kz,cz,Az',kz',cz',rfl,-,-,-⟩:=hv.parts
 rename_i K9 hK9
 refine hK9 _ _ ?_;clear hK9 K9;try simp only [nr]
 clear a0 a1 a2 a3 a4 a5 B0 B1;refine wpList_plain rfl (fun K hK=>?_);go_simp;refine hK _ _ ?_;clear hK K;try simp only [nr]
 refine wpList_plain rfl (fun K hK=>?_);go_simp;refine hK _ _ ?_;clear hK K;try simp only [nr]
 refine wpList_plain rfl (fun K hK=>?_);go_simp;refine hK _ _ ?_;clear hK K;try simp only [nr]
 refine wpList_plain rfl (fun K hK=>?_);go_simp;refine hK _ _ ?_;clear hK K;try simp only [nr]
 refine wpList_plain rfl (fun K hK=>?_);go_simp;refine hK _ _ ?_;clear hK K;try simp only [nr]
 refine boxes1 ?_;intro w13 e13 hsz13 BH;obtain⟨q0,q1,q2,q3,-⟩:=cells4 BH;refine wpList_plain rfl (fun K hK=>?_);go_simp;refine hK _ _ ?_;clear hK K;try simp only [nr]
 refine wpList_store_blk' rfl 29 _ _ rfl (by rfl) (by rfl) BH info_rat4 (by rfl:Array.size _=4) (Eq.trans ((by rfl:Array.size _=4)) (Eq.symm ((by rfl:Array.size _=4)))) (by rfl) ?_;try simp only [nr]
 intro w14 BH' U14;refine wpList_plain rfl (fun K hK=>?_);go_simp;refine hK _ _ ?_;clear hK K;try simp only [nr]
 refine wpList_nil ?_;have E14:Ext w12 w14:=(U14.chg (NoU.mk BH (by decide))).ext e13 (by omega);replace hE:=(hE.trans e12).trans E14;clear q0 q1 q2 q3 BH BH' U14 E14 e13 e12 hv
 have HF:Hid (is=true→(r == 0)=false):=fun h=>by
  have h3:=(h1 h).1;rw [hr.out];refine beq_eq_false_iff_ne.2 fun h4=>blk_not (blk_zero h4) h3
 clear h1 h2;cases is with
 | false =>
  go_wp2;go_ret;exact⟨rfl,hE⟩
 | true =>
  have h9:=HF.out rfl;go_wp2;go_ret;exact⟨rfl,hE⟩
end Go.Proofs.YtphpkhoeplcedaaGreat
set_option maxRecDepth 100000
namespace Go.Proofs.YtphpkhoeplcedaaGreat
open Go.ChangeShapes Go.WideShapes Go.ChangeAt Go.RowKit Go.Joins
theorem cells_pt3:Tryz.prog.cellsOf 43=12:=by kernel_rfl
theorem cells_ends:Tryz.prog.cellsOf 44=24:=by kernel_rfl
theorem und_pt3:Tryz.prog.underlying 43=some (.array 3 29):=by kernel_rfl
theorem und_ends:Tryz.prog.underlying 44=some (.array 2 43):=by kernel_rfl
theorem mapM_each {α β:Type} {f:α→Option β}:∀ {l:List α} {ys:List β},l.mapM f=some ys→∀ x,x∈l→∃ y,f x=some y
 | [],_,_,_,hx=>by cases hx
 | a :: l,ys,h,x,hx=>by
  rw [List.mapM_cons] at h;simp only [bind,Option.bind_eq_some_iff,pure,Option.some.injEq] at h;obtain⟨y,h0,ys',h1,-⟩:=h
  rcases List.mem_cons.1 hx with rfl | hx
  ·exact⟨y,h0⟩
  ·exact mapM_each h1 x hx
section
variable {H:Type} {enc:TypeId×Value→H} {w:World} {spare:Nat→Bool} {held:Bool}
theorem trod_array {base:Nat} {n fuel:Nat} {k e:TypeId} {cs:List Value} {x:DataW H×List MemPlace} (hu:Tryz.prog.underlying k=some (.array n e)) (h:DataW.trod enc Tryz.prog w base spare held fuel k cs=some x) :
  cs.length=Tryz.prog.cellsOf k∧∃ f,∀ i,i < n→∃ y,DataW.trod enc Tryz.prog w base spare held f e ((cs.drop (i*Tryz.prog.cellsOf e)).take (Tryz.prog.cellsOf e))=some y:=by
 cases fuel with
 | zero=>simp [DataW.trod] at h
 | succ f =>
  rw [DataW.trod_step] at h;unfold DataW.trodStep at h;simp only [hu] at h
  split at h
  ·rename_i hl
   simp only [Option.map_eq_some_iff] at h;obtain⟨xs,hx,-⟩:=h;exact⟨hl,f,fun i hi=>mapM_each hx i (List.mem_range.2 hi)⟩
  ·cases h
theorem four_of {l:List Value} (h:l.length=12) {i:Nat} (hi:i < 3):∃ c0 c1 c2 c3,(l.drop (i*4)).take 4=[c0,c1,c2,c3]∧l[i*4]?=some c0∧l[i*4+1]?=some c1∧l[i*4+2]?=some c2∧l[i*4+3]?=some c3:=by
 match l,h with
 | [x0,x1,x2,x3,x4,x5,x6,x7,x8,x9,xa,xb],_ =>
  have hi':i=0∨i=1∨i=2:=by omega
  rcases hi' with rfl | rfl | rfl
  ·exact⟨_,_,_,_,rfl,rfl,rfl,rfl,rfl⟩
  ·exact⟨_,_,_,_,rfl,rfl,rfl,rfl,rfl⟩
  ·exact⟨_,_,_,_,rfl,rfl,rfl,rfl,rfl⟩
theorem pts_of_trod {fuel:Nat} {cs:List Value} {x:DataW H×List MemPlace} (h:DataW.trod enc Tryz.prog w 0 spare held fuel 43 cs=some x):∃ R:Nat→Raw,PtA w.heap.size w cs.toArray R:=by
 obtain⟨hl,f,hx⟩:=trod_array und_pt3 h;rw [cells_pt3] at hl
 have each:∀ i,i < 3→∃ R,ArV w.heap.size w cs.toArray (0+i*4) R:=by
  intro i hi;obtain⟨y,hy⟩:=hx i hi;obtain⟨c0,c1,c2,c3,e,k0,k1,k2,k3⟩:=four_of hl hi;rw [cells_rat,e] at hy;obtain⟨R,rfl,rfl,g1,g2⟩:=rat_of_trod hy;rw [Nat.zero_add];exact⟨R,c1,c3,by rw [List.getElem?_toArray]; exact k0,by rw [List.getElem?_toArray]; exact k1,by rw [List.getElem?_toArray]; exact k2,by rw [List.getElem?_toArray]; exact k3,g1,g2⟩
 obtain⟨R,hR⟩:=Go.Deep.choose_lt (α:=Raw) each;refine⟨R,hR,by simpa using hl,one_get.2 fun k v hv=>?_⟩
 have hk:k < 12:=by
  rcases Nat.lt_or_ge k 12 with h9 | h9
  ·exact h9
  ·rw [Array.getElem?_eq_none (by simpa [hl] using h9)] at hv; cases hv
 obtain⟨s,t,h1,h2,h3,h4,h5,h6⟩:=hR (k / 4) (by omega);rw [Nat.zero_add] at h1 h2 h3 h4;have hk4:k=k / 4*4∨k=k / 4*4+1∨k=k / 4*4+2∨k=k / 4*4+3:=by omega
 rcases hk4 with e | e | e | e
 ·rw [e,h1] at hv; injection hv with hv; rw [←hv]; rfl
 ·rw [e,h2] at hv; injection hv with hv; rw [←hv]; exact ar_one h5
 ·rw [e,h3] at hv; injection hv with hv; rw [←hv]; rfl
 ·rw [e,h4] at hv; injection hv with hv; rw [←hv]; exact ar_one h6
theorem ends_open {r:Reach} {b0:Nat} {v:Value} {d:DataW H} {p:List MemPlace} (hv:Value.okWide Tryz.prog w r b0 44 v) (h:DataW.Trod enc Tryz.prog w 0 spare held 44 v d p):∃ ca cb Ra Rb,v=.agg (ca ++ cb)∧PtA w.heap.size w ca Ra∧PtA w.heap.size w cb Rb:=by
 simp only [Value.okWide,und_ends] at hv;obtain⟨cs,rfl,hsz,-⟩:=hv;obtain⟨fuel,hf⟩:=h;obtain⟨hl,f,hx⟩:=trod_array und_ends hf;rw [cells_ends] at hl;rw [cells_pt3] at hx;simp only [Value.cells] at hl hx;obtain⟨y0,h0⟩:=hx 0 (by omega);obtain⟨y1,h1⟩:=hx 1 (by omega);obtain⟨Ra,ha⟩:=pts_of_trod h0;obtain⟨Rb,hb⟩:=pts_of_trod h1;refine⟨_,_,Ra,Rb,?_,ha,hb⟩
 congr 1
 rw [List.append_toArray]
 have e:(cs.toList.drop (0*12)).take 12 ++ (cs.toList.drop (1*12)).take 12=cs.toList:=by
  rw [Nat.zero_mul,List.drop_zero,Nat.one_mul,List.take_of_length_le (l:=cs.toList.drop 12) (by rw [List.length_drop]; omega),List.take_append_drop]
 rw [e,Array.toArray_toList]
theorem num_open {r:Reach} {b0:Nat} {v:Value} {d:DataW H} {p:List MemPlace} (hv:Value.okWide Tryz.prog w r b0 29 v) (h:DataW.Trod enc Tryz.prog w 0 spare held 29 v d p):∃ R,RawV w.heap.size w v R:=by
 obtain⟨cs,rfl,hsz⟩:=okWide_struct Tryz.underlying29 hv;rw [cells_rat] at hsz;obtain⟨l⟩:=cs
 match l,hsz with
 | [c0,c1,c2,c3],_ =>
  obtain⟨fuel,hf⟩:=h;obtain⟨R,rfl,rfl,g1,g2⟩:=rat_of_trod hf;exact⟨R,_,_,rfl,g1,g2⟩
end
end Go.Proofs.YtphpkhoeplcedaaGreat
