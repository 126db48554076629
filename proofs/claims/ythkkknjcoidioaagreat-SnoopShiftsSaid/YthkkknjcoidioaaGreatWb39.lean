import Derived.Test.YthkkknjcoidioaaGreatWb38
import Derived.Test.YthkkknjcoidioaaGreatWb36
import Derived.Test.YthkkknjcoidioaaGreatWb24
set_option linter.all false
set_option maxHeartbeats 8000000
namespace Go.Proofs.YthkkknjcoidioaaGreat
open Go.RowKit
theorem fin_ratT {fn:Func} {k t:Tmp} (hres:fn.results=#[.cell k 36,.tmp t]) {a:Act} {g:Nat} (hp:a.tmps.getD k undef=.pointer (some ⟨g,0,none⟩)) {x:Value} (hq:a.tmps.getD t undef=x) (hd:a.defers=[])
  {N:Nat} {w W:World} {o1 o2 o3 o4:Value} {neg:Bool} {A:Option Addr} {n c:Nat} {A':Option Addr} {n' c':Nat} {q:Rat} (hE:Ext w W) (hb:W.heap[g]?=some (.cells #[o1,o2,o3,o4] 36 (0,0))) (hg:w.heap.size≤g) (hN:N≤w.heap.size)
  (hG:Gs N W (.slice A n c) (dg q.num.natAbs)) (hG':Gs N W (.slice A' n' c') (dg q.den)) (hneg:Hid (neg=decide (q.num < 0))) {R:Ending→World→Prop} (hR:∀ v w',RatV N w' v q→Ext w w'→R (.returned (.tuple #[v,x])) w') :
  bodyPost Tryz.prog fn R .ret a ((((W.setCell ⟨g,0,none⟩ (.bool neg)).setCell ⟨g,1,none⟩ (.slice A n c)).setCell ⟨g,2,none⟩ (.bool false)).setCell ⟨g,3,none⟩ (.slice A' n' c')):=by
 obtain⟨w1,E1,B1,U⟩:=ex4 hb (.bool neg) (.slice A n c) (.bool false) (.slice A' n' c');rw [E1];obtain⟨c0,c1,c2,c3,-⟩:=cells4 B1;have hT:NoU W g:=NoU.mk hb (by decide);refine bodyPost_ret (v:=.tuple #[.agg #[.bool neg,.slice A n c,.bool false,.slice A' n' c'],x]) ?_ hd (hR _ _ (RatV.mk hneg (hG.upd U (by omega) hT) (hG'.upd U (by omega) hT)) (U.ext hE hg));have hp':a.tmps[k]?.getD undef=.pointer (some ⟨g,0,none⟩):=by simpa using hp
 have hq':a.tmps[t]?.getD undef=x:=by simpa using hq
 simp [results,hres,hp',hq',c0,c1,c2,c3,go_sem]
theorem fin_nilT {fn:Func} {k t:Tmp} (hres:fn.results=#[.cell k 36,.tmp t]) {a:Act} {g:Nat} (hp:a.tmps.getD k undef=.pointer (some ⟨g,0,none⟩)) {x:Value} (hq:a.tmps.getD t undef=x) (hd:a.defers=[])
  {w W:World} {o1 o2 o3 o4:Value} (hE:Ext w W) (hb:W.heap[g]?=some (.cells #[o1,o2,o3,o4] 36 (0,0))) (hg:w.heap.size≤g) :
  bodyPost Tryz.prog fn (RetV w (.tuple #[nilRat,x])) .ret a ((((W.setCell ⟨g,0,none⟩ (.bool false)).setCell ⟨g,1,none⟩ (.slice none 0 0)).setCell ⟨g,2,none⟩ (.bool false)).setCell ⟨g,3,none⟩ (.slice none 0 0)):=by
 obtain⟨w1,E1,B1,U⟩:=ex4 hb (.bool false) (.slice none 0 0) (.bool false) (.slice none 0 0);rw [E1];obtain⟨c0,c1,c2,c3,-⟩:=cells4 B1;refine bodyPost_ret (v:=.tuple #[nilRat,x]) ?_ hd ⟨rfl,U.ext hE hg⟩;have hp':a.tmps[k]?.getD undef=.pointer (some ⟨g,0,none⟩):=by simpa using hp
 have hq':a.tmps[t]?.getD undef=x:=by simpa using hq
 simp [results,hres,hp',hq',c0,c1,c2,c3,go_sem,nilRat]
def RetRT (N:Nat) (w:World) (q:Rat) (e:Ending) (w':World):Prop:=∃ v,e=.returned (.tuple #[v,.bool true])∧RatV N w' v q∧Ext w w'
set_option maxRecDepth 100000 in
theorem sn_statistic {N:Nat} {w:World} {v:Value} {m n:Nat} {X:Nat→Nat→Rat} {y p:Nat→Rat} (h:SlvV N w v m n X y p) (d:Md m n X y p) {i:Nat} {z:Int} (hz:z=(i:Int)) (hi':i < m) (hr:rS m n X p i≠0) :
  Calls Tryz.prog 62 #[v,.int .i64 z] w (RetRT N w (tS m n X y p i)):=by
 have HR0:=Lib.hid hr;clear hr;subst hz;have HD:=Lib.hid d
 have hN:N≤w.heap.size:=by
  obtain⟨A1,c1,A2,c2,A3,c3,AQ,cq,AV,cv,gq,gl,-,-,-,h1,-⟩:=h;exact h1.le
 have hm0:=d.m0;have hm7:=d.m7;have HZP:=Lib.hid ((d.hp i hi').sz (by omega));have HZV:=Lib.hid ((d.v_ht i hi').sz (by omega));have HZVV:=Lib.hid (((d.v_ht i hi').mul (d.v_ht i hi')).sz (by omega));have HZPV:=Lib.hid (((d.hp i hi').mul ((d.v_ht i hi').mul (d.v_ht i hi'))).sz (by omega));have HZR:=Lib.hid ((d.r_ht i hi').sz (by omega));have hS:=h;obtain⟨A1,c1,A2,c2,A3,c3,AQ,cq,AV,cv,gq,gl,rfl,-⟩:=h;clear d;go_enter Tryz.func62,Tryz.ntmps62;go_upto_region 1 with (fail);refine boxes2 ?_;intro W hE hsz B0 B4;obtain⟨A1',c1',A2',c2',A3',c3',AQ',cq',AV',cv',gq',gl',hv,b1,b2,k1,k2,k3,k4,k5⟩:=hS.ext hE;simp only [Value.agg.injEq,Array.mk.injEq,List.cons.injEq,Value.slice.injEq,Value.func.injEq,Value.pointer.injEq,Option.some.injEq,Addr.mk.injEq,and_true,true_and] at hv;obtain⟨⟨rfl,rfl⟩,⟨rfl,rfl⟩,⟨rfl,rfl⟩,⟨rfl,rfl⟩,⟨rfl,rfl⟩,rfl,rfl⟩:=hv;obtain⟨e3,off3,rfl,-,-,hx3⟩:=LsV.addr k3 hm0;obtain⟨ev,offv,rfl,-,-,hxv⟩:=LsV.addr k5 hm0;obtain⟨n8,A8,k8,c8,A9,k9,c9,r0,r1,r2,r3,hb8,g8,g9⟩:=(hx3 i hi').open;have hR8:RatV N W (.agg #[.bool n8,.slice A8 k8 c8,.bool false,.slice A9 k9 c9]) (p i):=RatV.mk hb8 g8 g9;obtain⟨n7,A7,k7,c7,A6,k6,c6,s0,s1,s2,s3,hb7,g7,g6⟩:=(hxv i hi').open;have hR7:RatV N W (.agg #[.bool n7,.slice A7 k7 c7,.bool false,.slice A6 k6 c6]) (vS m n X y p i):=RatV.mk hb7 g7 g6;clear hx3 hxv hb8 g8 g9 hb7 g7 g6;obtain⟨a0,a1,a2,a3,a4,a5,-⟩:=cells6 B0
 refine regS [Mn.eq (.pointer (some ⟨w.heap.size,0,none⟩)),Mn.eq (.pointer (some ⟨w.heap.size,2,none⟩)),Mn.eq (.slice (some ⟨e3,off3,none⟩) m c3),Mn.eq (.int .i64 (i:Int)),Mn.eq (.pointer (some ⟨e3,off3+i*4,none⟩)),Mn.rat N (p i),Mn.eq (.pointer (some ⟨w.heap.size,4,none⟩)),Mn.eq (.slice (some ⟨ev,offv,none⟩) m cv),Mn.eq (.int .i64 (i:Int)),Mn.eq (.pointer (some ⟨ev,offv+i*4,none⟩)),Mn.rat N (vS m n X y p i),Mn.eq (.pointer (some ⟨w.heap.size,4,none⟩)),Mn.eq (.slice (some ⟨ev,offv,none⟩) m cv),Mn.eq (.int .i64 (i:Int)),Mn.eq (.pointer (some ⟨ev,offv+i*4,none⟩)),Mn.rat N (vS m n X y p i),Mn.rat N (vS m n X y p i*vS m n X y p i),Mn.rat N (p i*(vS m n X y p i*vS m n X y p i)),Mn.eq (.pointer (some ⟨w.heap.size,5,none⟩)),Mn.eq (.func (.func 104) #[] #[.pointer (some ⟨gq,0,none⟩),.pointer (some ⟨gl,0,none⟩)]),Mn.eq (.int .i64 (i:Int)),Mn.rat N (rS m n X p i),Mn.rc N (tS m n X y p i),Mn.rc N (tS m n X y p i),Mn.rat N (tS m n X y p i),Mn.eq (.int .i64 0),Mn.blk W.heap.size (.cells #[.bool false,.slice none 0 0,.bool false,.slice none 0 0] 36 (0,0)),Mn.any,Mn.any] [some 9,some 10,some 11,some 12,some 13,some 14,some 15,some 16,some 17,some 18,some 19,some 20,some 21,some 22,some 23,some 24,some 25,some 26,some 27,some 28,some 29,some 30,some 31,some 8,some 32,some 33,some 6,none,some 7] [27,28] [25] [true,true,true,true,true,true,true,true,true,true,true,true,true,true,true,true,true,true,true,true,true,true,true,true,true,true,true,false,false] 2 (by kernel_rfl) ?_ ?_ ?_
 ·show ∀ i,i < 29→_
  iterate 29 refine fs ?_ ?_
  ·exact fz
  all_goals intro hl hs
  all_goals first | exact absurd hl (by decide) | exact absurd hs (by decide) | skip
  all_goals clear hl hs
  all_goals refine stp rfl ?_
  all_goals intro ac wi eI hB hA K hK
  have o2:=oOf (hB 2 (by kernel_rfl)) rfl
  rotate_left
  obtain⟨_,s9,rfl⟩:=hA 0 (by kernel_rfl) 9 rfl
  rotate_left
  obtain⟨_,s10,rfl⟩:=hA 1 (by kernel_rfl) 10 rfl;have cc0:=eI.cell a2
  rotate_left
  have o1:=oOf (hB 1 (by kernel_rfl)) rfl
  rotate_left
  obtain⟨_,s11,rfl⟩:=hA 2 (by kernel_rfl) 11 rfl;obtain⟨_,s12,rfl⟩:=hA 3 (by kernel_rfl) 12 rfl
  rotate_left
  obtain⟨_,s13,rfl⟩:=hA 4 (by kernel_rfl) 13 rfl;clear hB hA;have cc0:=eI.cell r0;have cc1:=eI.cell r1;have cc2:=eI.cell r2;have cc3:=eI.cell r3
  ·go_simp;exact hK.out _ _ (Ext.refl _) (hR8.ext eI)
  have o2:=oOf (hB 2 (by kernel_rfl)) rfl
  rotate_left
  obtain⟨_,s15,rfl⟩:=hA 6 (by kernel_rfl) 15 rfl;have cc0:=eI.cell a4
  rotate_left
  have o1:=oOf (hB 1 (by kernel_rfl)) rfl
  rotate_left
  obtain⟨_,s16,rfl⟩:=hA 7 (by kernel_rfl) 16 rfl;obtain⟨_,s17,rfl⟩:=hA 8 (by kernel_rfl) 17 rfl
  rotate_left
  obtain⟨_,s18,rfl⟩:=hA 9 (by kernel_rfl) 18 rfl;clear hB hA;have cc0:=eI.cell s0;have cc1:=eI.cell s1;have cc2:=eI.cell s2;have cc3:=eI.cell s3
  ·go_simp;exact hK.out _ _ (Ext.refl _) (hR7.ext eI)
  have o2:=oOf (hB 2 (by kernel_rfl)) rfl
  rotate_left
  obtain⟨_,s20,rfl⟩:=hA 11 (by kernel_rfl) 20 rfl;have cc0:=eI.cell a4
  rotate_left
  have o1:=oOf (hB 1 (by kernel_rfl)) rfl
  rotate_left
  obtain⟨_,s21,rfl⟩:=hA 12 (by kernel_rfl) 21 rfl;obtain⟨_,s22,rfl⟩:=hA 13 (by kernel_rfl) 22 rfl
  rotate_left
  obtain⟨_,s23,rfl⟩:=hA 14 (by kernel_rfl) 23 rfl;clear hB hA;have cc0:=eI.cell s0;have cc1:=eI.cell s1;have cc2:=eI.cell s2;have cc3:=eI.cell s3
  ·go_simp;exact hK.out _ _ (Ext.refl _) (hR7.ext eI)
  obtain⟨x19,s19,j19⟩:=hA 10 (by kernel_rfl) 19 rfl;replace j19:Mn.p (Mn.rat N (vS m n X y p i)) x19 wi:=j19;obtain⟨x24,s24,j24⟩:=hA 15 (by kernel_rfl) 24 rfl;replace j24:Mn.p (Mn.rat N (vS m n X y p i)) x24 wi:=j24;clear hB hA
  ·go_simp;refine (f_mul j19 j24 HZV.out HZV.out).mono ?_;rintro e wj ⟨vj,rfl,hj,ej⟩;go_wp2_with fail;exact hK.out _ _ ej hj
  obtain⟨x14,s14,j14⟩:=hA 5 (by kernel_rfl) 14 rfl;replace j14:Mn.p (Mn.rat N (p i)) x14 wi:=j14;obtain⟨x25,s25,j25⟩:=hA 16 (by kernel_rfl) 25 rfl;replace j25:Mn.p (Mn.rat N (vS m n X y p i*vS m n X y p i)) x25 wi:=j25;clear hB hA
  ·go_simp;refine (f_mul j14 j25 HZP.out HZVV.out).mono ?_;rintro e wj ⟨vj,rfl,hj,ej⟩;go_wp2_with fail;exact hK.out _ _ ej hj
  have o2:=oOf (hB 2 (by kernel_rfl)) rfl
  rotate_left
  obtain⟨_,s27,rfl⟩:=hA 18 (by kernel_rfl) 27 rfl;have cc0:=eI.cell a5
  rotate_left
  have o1:=oOf (hB 1 (by kernel_rfl)) rfl
  rotate_left
  obtain⟨_,s28,rfl⟩:=hA 19 (by kernel_rfl) 28 rfl;obtain⟨_,s29,rfl⟩:=hA 20 (by kernel_rfl) 29 rfl;clear hB hA
  ·go_simp;refine (sn_redund (eI.block b1) (eI.block b2) (k1.ext eI) (k3.ext eI) (k4.ext eI) HD.out rfl hi').mono ?_;rintro e wj ⟨vj,rfl,hj,ej⟩;go_wp2_with fail;exact hK.out _ _ ej hj
  obtain⟨x26,s26,j26⟩:=hA 17 (by kernel_rfl) 26 rfl;replace j26:Mn.p (Mn.rat N (p i*(vS m n X y p i*vS m n X y p i))) x26 wi:=j26;obtain⟨x30,s30,j30⟩:=hA 21 (by kernel_rfl) 30 rfl;replace j30:Mn.p (Mn.rat N (rS m n X p i)) x30 wi:=j30;clear hB hA
  ·go_simp;refine (f_divide j26 j30 HZPV.out HZR.out HR0.out).mono ?_;rintro e wj ⟨vj,rfl,hj,ej⟩;go_wp2_with fail;exact hK.out _ _ ej ⟨vj,rfl,hj⟩
  obtain⟨x31,s31,j31⟩:=hA 22 (by kernel_rfl) 31 rfl;replace j31:Mn.p (Mn.rc N (tS m n X y p i)) x31 wi:=j31;clear hB hA
  ·go_simp;exact hK.out _ _ (Ext.refl _) j31
  obtain⟨x8,s8,j8⟩:=hA 23 (by kernel_rfl) 8 rfl;replace j8:Mn.p (Mn.rc N (tS m n X y p i)) x8 wi:=j8;clear hB hA
  ·obtain⟨vj,rfl,hj⟩:=j8;go_simp;exact hK.out _ _ (Ext.refl _) hj
  clear hB hA
  ·go_simp;refine boxes1 ?_;intro wj ej hszj BJ;exact hK.out _ _ ej ⟨_,rfl,eI.size,BJ⟩
  all_goals clear hB hA
  all_goals go_simp
  all_goals exact hK.out _ _ (Ext.refl _) rfl
 ·intro i hs;have hi':i=25:=by simpa using hs
  clear hs
  rcases hi' with rfl
  ·refine sft rfl (fun _ _ _ _ h=>h) ?_;intro ac wi eI hB hA;obtain⟨x8,s8,j8⟩:=hA 23 (by kernel_rfl) 8 rfl;replace j8:Mn.p (Mn.rc N (tS m n X y p i)) x8 wi:=j8;clear hB hA;obtain⟨vj,rfl,hj⟩:=j8;refine⟨(.int .i64 0),.inl ⟨rfl,fun w9 _=>?_⟩,rfl⟩;go_simp
 intro vals wz eZ hJ;have J14:Mn.p (Mn.rat N (p i)) (vals 5) wz:=hJ 5 (by decide) (by decide);have J19:Mn.p (Mn.rat N (vS m n X y p i)) (vals 10) wz:=hJ 10 (by decide) (by decide);have J24:Mn.p (Mn.rat N (vS m n X y p i)) (vals 15) wz:=hJ 15 (by decide) (by decide);have J25:Mn.p (Mn.rat N (vS m n X y p i*vS m n X y p i)) (vals 16) wz:=hJ 16 (by decide) (by decide);have J26:Mn.p (Mn.rat N (p i*(vS m n X y p i*vS m n X y p i))) (vals 17) wz:=hJ 17 (by decide) (by decide);have J30:Mn.p (Mn.rat N (rS m n X p i)) (vals 21) wz:=hJ 21 (by decide) (by decide);have J31:Mn.p (Mn.rc N (tS m n X y p i)) (vals 22) wz:=hJ 22 (by decide) (by decide);have J8:Mn.p (Mn.rc N (tS m n X y p i)) (vals 23) wz:=hJ 23 (by decide) (by decide);have J32:Mn.p (Mn.rat N (tS m n X y p i)) (vals 24) wz:=hJ 24 (by decide) (by decide);have J33:vals 25=_:=hJ 25 (by decide) (by decide);have J6:Mn.p (Mn.blk W.heap.size (.cells #[.bool false,.slice none 0 0,.bool false,.slice none 0 0] 36 (0,0))) (vals 26) wz:=hJ 26 (by decide) (by decide);clear hJ;simp only [pr,Nat.reduceAdd,J33];clear J33
 generalize vals 5=z14 at J14 ⊢
 generalize vals 10=z19 at J19 ⊢
 generalize vals 15=z24 at J24 ⊢
 generalize vals 16=z25 at J25 ⊢
 generalize vals 17=z26 at J26 ⊢
 generalize vals 21=z30 at J30 ⊢
 generalize vals 22=z31 at J31 ⊢
 generalize vals 23=z8 at J8 ⊢
 generalize vals 24=z32 at J32 ⊢
 generalize vals 26=z6 at J6 ⊢
 replace hE:=hE.trans eZ;replace B4:=eZ.block B4;obtain⟨bz,Az,kz,cz,Az',kz',cz',rfl,hbz,gz1,gz2⟩:=RatV.parts J32;obtain⟨gt,rfl,hgt,BT⟩:=J6;obtain⟨u0,u1,u2,u3,u4,u5,u6,u7⟩:=cells4 BT;refine stepL_late (i:=27) rfl (by kernel_rfl) (by kernel_rfl) (fun K hK=>?_);go_simp;refine hK.out _ _ ?_;clear hK K;try simp only [nr]
 refine stepL_late (i:=28) rfl (by kernel_rfl) (by kernel_rfl) (fun K hK=>?_);go_simp;refine hK.out _ _ ?_;clear hK K;try simp only [nr]
 refine stepL_done (by kernel_rfl) ?_ _;obtain⟨w5,E5,D5,U5⟩:=ex4 BT (.bool bz) (.slice Az kz cz) (.bool false) (.slice Az' kz' cz');rw [E5];have C5:=U5.chg (NoU.mk BT (by decide));replace B4:=C5.blk B4 (by omega);replace gz1:=gz1.chg C5 (by omega);replace gz2:=gz2.chg C5 (by omega);replace hE:=C5.ext hE (by omega);clear E5 U5 C5 BT u0 u1 u2 u3 u4 u5 u6 u7 eZ a0 a1 a2 a3 a4 a5 r0 r1 r2 r3 s0 s1 s2 s3 J8 J14 J19 J24 J25 J26 J30 J31;obtain⟨x0,x1,x2,x3,-⟩:=cells4 D5;obtain⟨y0,y1,y2,y3,y4,y5,y6,y7⟩:=cells4 B4;go_wp2;exact fin_ratT rfl rfl rfl rfl hE B4 (by omega) hN gz1 gz2 hbz (fun v w' hv he=>⟨v,rfl,hv,he⟩)
set_option maxRecDepth 100000 in
theorem sn_statistic0 {N:Nat} {w:World} {v:Value} {m n:Nat} {X:Nat→Nat→Rat} {y p:Nat→Rat} (h:SlvV N w v m n X y p) (d:Md m n X y p) {i:Nat} {z:Int} (hz:z=(i:Int)) (hi':i < m) (hr:rS m n X p i=0) :
  Calls Tryz.prog 62 #[v,.int .i64 z] w (RetV w (.tuple #[nilRat,.bool false])):=by
 have HR0:=Lib.hid hr;clear hr;subst hz;have HD:=Lib.hid d
 have hN:N≤w.heap.size:=by
  obtain⟨A1,c1,A2,c2,A3,c3,AQ,cq,AV,cv,gq,gl,-,-,-,h1,-⟩:=h;exact h1.le
 have hm0:=d.m0;have hm7:=d.m7;have HZP:=Lib.hid ((d.hp i hi').sz (by omega));have HZV:=Lib.hid ((d.v_ht i hi').sz (by omega));have HZVV:=Lib.hid (((d.v_ht i hi').mul (d.v_ht i hi')).sz (by omega));have HZPV:=Lib.hid (((d.hp i hi').mul ((d.v_ht i hi').mul (d.v_ht i hi'))).sz (by omega));have HZR:=Lib.hid ((d.r_ht i hi').sz (by omega));have hS:=h;obtain⟨A1,c1,A2,c2,A3,c3,AQ,cq,AV,cv,gq,gl,rfl,-⟩:=h;clear d;go_enter Tryz.func62,Tryz.ntmps62;go_upto_region 1 with (fail);refine boxes2 ?_;intro W hE hsz B0 B4;obtain⟨A1',c1',A2',c2',A3',c3',AQ',cq',AV',cv',gq',gl',hv,b1,b2,k1,k2,k3,k4,k5⟩:=hS.ext hE;simp only [Value.agg.injEq,Array.mk.injEq,List.cons.injEq,Value.slice.injEq,Value.func.injEq,Value.pointer.injEq,Option.some.injEq,Addr.mk.injEq,and_true,true_and] at hv;obtain⟨⟨rfl,rfl⟩,⟨rfl,rfl⟩,⟨rfl,rfl⟩,⟨rfl,rfl⟩,⟨rfl,rfl⟩,rfl,rfl⟩:=hv;obtain⟨e3,off3,rfl,-,-,hx3⟩:=LsV.addr k3 hm0;obtain⟨ev,offv,rfl,-,-,hxv⟩:=LsV.addr k5 hm0;obtain⟨n8,A8,k8,c8,A9,k9,c9,r0,r1,r2,r3,hb8,g8,g9⟩:=(hx3 i hi').open;have hR8:RatV N W (.agg #[.bool n8,.slice A8 k8 c8,.bool false,.slice A9 k9 c9]) (p i):=RatV.mk hb8 g8 g9;obtain⟨n7,A7,k7,c7,A6,k6,c6,s0,s1,s2,s3,hb7,g7,g6⟩:=(hxv i hi').open;have hR7:RatV N W (.agg #[.bool n7,.slice A7 k7 c7,.bool false,.slice A6 k6 c6]) (vS m n X y p i):=RatV.mk hb7 g7 g6;clear hx3 hxv hb8 g8 g9 hb7 g7 g6;obtain⟨a0,a1,a2,a3,a4,a5,-⟩:=cells6 B0
 refine regS [Mn.eq (.pointer (some ⟨w.heap.size,0,none⟩)),Mn.eq (.pointer (some ⟨w.heap.size,2,none⟩)),Mn.eq (.slice (some ⟨e3,off3,none⟩) m c3),Mn.eq (.int .i64 (i:Int)),Mn.eq (.pointer (some ⟨e3,off3+i*4,none⟩)),Mn.rat N (p i),Mn.eq (.pointer (some ⟨w.heap.size,4,none⟩)),Mn.eq (.slice (some ⟨ev,offv,none⟩) m cv),Mn.eq (.int .i64 (i:Int)),Mn.eq (.pointer (some ⟨ev,offv+i*4,none⟩)),Mn.rat N (vS m n X y p i),Mn.eq (.pointer (some ⟨w.heap.size,4,none⟩)),Mn.eq (.slice (some ⟨ev,offv,none⟩) m cv),Mn.eq (.int .i64 (i:Int)),Mn.eq (.pointer (some ⟨ev,offv+i*4,none⟩)),Mn.rat N (vS m n X y p i),Mn.rat N (vS m n X y p i*vS m n X y p i),Mn.rat N (p i*(vS m n X y p i*vS m n X y p i)),Mn.eq (.pointer (some ⟨w.heap.size,5,none⟩)),Mn.eq (.func (.func 104) #[] #[.pointer (some ⟨gq,0,none⟩),.pointer (some ⟨gl,0,none⟩)]),Mn.eq (.int .i64 (i:Int)),Mn.rat N (rS m n X p i),Mn.eq (.tuple #[.agg #[.bool false,.slice none 0 0,.bool false,.slice none 0 0],.int .i64 14]),Mn.eq (.tuple #[.agg #[.bool false,.slice none 0 0,.bool false,.slice none 0 0],.int .i64 14]),Mn.eq (.agg #[.bool false,.slice none 0 0,.bool false,.slice none 0 0]),Mn.eq (.int .i64 14),Mn.blk W.heap.size (.cells #[.bool false,.slice none 0 0,.bool false,.slice none 0 0] 36 (0,0)),Mn.any,Mn.any] [some 9,some 10,some 11,some 12,some 13,some 14,some 15,some 16,some 17,some 18,some 19,some 20,some 21,some 22,some 23,some 24,some 25,some 26,some 27,some 28,some 29,some 30,some 31,some 8,some 32,some 33,some 6,none,some 7] [27,28] [25] [true,true,true,true,true,true,true,true,true,true,true,true,true,true,true,true,true,true,true,true,true,true,true,true,true,true,true,false,false] 2 (by kernel_rfl) ?_ ?_ ?_
 ·show ∀ i,i < 29→_
  iterate 29 refine fs ?_ ?_
  ·exact fz
  all_goals intro hl hs
  all_goals first | exact absurd hl (by decide) | exact absurd hs (by decide) | skip
  all_goals clear hl hs
  all_goals refine stp rfl ?_
  all_goals intro ac wi eI hB hA K hK
  have o2:=oOf (hB 2 (by kernel_rfl)) rfl
  rotate_left
  obtain⟨_,s9,rfl⟩:=hA 0 (by kernel_rfl) 9 rfl
  rotate_left
  obtain⟨_,s10,rfl⟩:=hA 1 (by kernel_rfl) 10 rfl;have cc0:=eI.cell a2
  rotate_left
  have o1:=oOf (hB 1 (by kernel_rfl)) rfl
  rotate_left
  obtain⟨_,s11,rfl⟩:=hA 2 (by kernel_rfl) 11 rfl;obtain⟨_,s12,rfl⟩:=hA 3 (by kernel_rfl) 12 rfl
  rotate_left
  obtain⟨_,s13,rfl⟩:=hA 4 (by kernel_rfl) 13 rfl;clear hB hA;have cc0:=eI.cell r0;have cc1:=eI.cell r1;have cc2:=eI.cell r2;have cc3:=eI.cell r3
  ·go_simp;exact hK.out _ _ (Ext.refl _) (hR8.ext eI)
  have o2:=oOf (hB 2 (by kernel_rfl)) rfl
  rotate_left
  obtain⟨_,s15,rfl⟩:=hA 6 (by kernel_rfl) 15 rfl;have cc0:=eI.cell a4
  rotate_left
  have o1:=oOf (hB 1 (by kernel_rfl)) rfl
  rotate_left
  obtain⟨_,s16,rfl⟩:=hA 7 (by kernel_rfl) 16 rfl;obtain⟨_,s17,rfl⟩:=hA 8 (by kernel_rfl) 17 rfl
  rotate_left
  obtain⟨_,s18,rfl⟩:=hA 9 (by kernel_rfl) 18 rfl;clear hB hA;have cc0:=eI.cell s0;have cc1:=eI.cell s1;have cc2:=eI.cell s2;have cc3:=eI.cell s3
  ·go_simp;exact hK.out _ _ (Ext.refl _) (hR7.ext eI)
  have o2:=oOf (hB 2 (by kernel_rfl)) rfl
  rotate_left
  obtain⟨_,s20,rfl⟩:=hA 11 (by kernel_rfl) 20 rfl;have cc0:=eI.cell a4
  rotate_left
  have o1:=oOf (hB 1 (by kernel_rfl)) rfl
  rotate_left
  obtain⟨_,s21,rfl⟩:=hA 12 (by kernel_rfl) 21 rfl;obtain⟨_,s22,rfl⟩:=hA 13 (by kernel_rfl) 22 rfl
  rotate_left
  obtain⟨_,s23,rfl⟩:=hA 14 (by kernel_rfl) 23 rfl;clear hB hA;have cc0:=eI.cell s0;have cc1:=eI.cell s1;have cc2:=eI.cell s2;have cc3:=eI.cell s3
  ·go_simp;exact hK.out _ _ (Ext.refl _) (hR7.ext eI)
  obtain⟨x19,s19,j19⟩:=hA 10 (by kernel_rfl) 19 rfl;replace j19:Mn.p (Mn.rat N (vS m n X y p i)) x19 wi:=j19;obtain⟨x24,s24,j24⟩:=hA 15 (by kernel_rfl) 24 rfl;replace j24:Mn.p (Mn.rat N (vS m n X y p i)) x24 wi:=j24;clear hB hA
  ·go_simp;refine (f_mul j19 j24 HZV.out HZV.out).mono ?_;rintro e wj ⟨vj,rfl,hj,ej⟩;go_wp2_with fail;exact hK.out _ _ ej hj
  obtain⟨x14,s14,j14⟩:=hA 5 (by kernel_rfl) 14 rfl;replace j14:Mn.p (Mn.rat N (p i)) x14 wi:=j14;obtain⟨x25,s25,j25⟩:=hA 16 (by kernel_rfl) 25 rfl;replace j25:Mn.p (Mn.rat N (vS m n X y p i*vS m n X y p i)) x25 wi:=j25;clear hB hA
  ·go_simp;refine (f_mul j14 j25 HZP.out HZVV.out).mono ?_;rintro e wj ⟨vj,rfl,hj,ej⟩;go_wp2_with fail;exact hK.out _ _ ej hj
  have o2:=oOf (hB 2 (by kernel_rfl)) rfl
  rotate_left
  obtain⟨_,s27,rfl⟩:=hA 18 (by kernel_rfl) 27 rfl;have cc0:=eI.cell a5
  rotate_left
  have o1:=oOf (hB 1 (by kernel_rfl)) rfl
  rotate_left
  obtain⟨_,s28,rfl⟩:=hA 19 (by kernel_rfl) 28 rfl;obtain⟨_,s29,rfl⟩:=hA 20 (by kernel_rfl) 29 rfl;clear hB hA
  ·go_simp;refine (sn_redund (eI.block b1) (eI.block b2) (k1.ext eI) (k3.ext eI) (k4.ext eI) HD.out rfl hi').mono ?_;rintro e wj ⟨vj,rfl,hj,ej⟩;go_wp2_with fail;exact hK.out _ _ ej hj
  obtain⟨x26,s26,j26⟩:=hA 17 (by kernel_rfl) 26 rfl;replace j26:Mn.p (Mn.rat N (p i*(vS m n X y p i*vS m n X y p i))) x26 wi:=j26;obtain⟨x30,s30,j30⟩:=hA 21 (by kernel_rfl) 30 rfl;replace j30:Mn.p (Mn.rat N (rS m n X p i)) x30 wi:=j30;clear hB hA
  ·go_simp;refine (f_divide0 j26 j30 HZPV.out HZR.out HR0.out).mono ?_;rintro e wj ⟨rfl,ej⟩;go_wp2_with fail;exact hK.out _ _ ej rfl
  obtain⟨_,s31,rfl⟩:=hA 22 (by kernel_rfl) 31 rfl
  rotate_left
  obtain⟨_,s8,rfl⟩:=hA 23 (by kernel_rfl) 8 rfl
  rotate_left
  clear hB hA
  ·go_simp;refine boxes1 ?_;intro wj ej hszj BJ;exact hK.out _ _ ej ⟨_,rfl,eI.size,BJ⟩
  all_goals clear hB hA
  all_goals go_simp
  all_goals exact hK.out _ _ (Ext.refl _) rfl
 ·intro i hs;have hi':i=25:=by simpa using hs
  clear hs
  rcases hi' with rfl
  ·refine sft rfl (fun _ _ _ _ h=>h) ?_;intro ac wi eI hB hA;obtain⟨_,s8,rfl⟩:=hA 23 (by kernel_rfl) 8 rfl;clear hB hA;refine⟨(.int .i64 14),.inl ⟨rfl,fun w9 _=>?_⟩,rfl⟩;go_simp
 intro vals wz eZ hJ;have J14:Mn.p (Mn.rat N (p i)) (vals 5) wz:=hJ 5 (by decide) (by decide);have J19:Mn.p (Mn.rat N (vS m n X y p i)) (vals 10) wz:=hJ 10 (by decide) (by decide);have J24:Mn.p (Mn.rat N (vS m n X y p i)) (vals 15) wz:=hJ 15 (by decide) (by decide);have J25:Mn.p (Mn.rat N (vS m n X y p i*vS m n X y p i)) (vals 16) wz:=hJ 16 (by decide) (by decide);have J26:Mn.p (Mn.rat N (p i*(vS m n X y p i*vS m n X y p i))) (vals 17) wz:=hJ 17 (by decide) (by decide);have J30:Mn.p (Mn.rat N (rS m n X p i)) (vals 21) wz:=hJ 21 (by decide) (by decide);have J31:vals 22=_:=hJ 22 (by decide) (by decide);have J8:vals 23=_:=hJ 23 (by decide) (by decide);have J32:vals 24=_:=hJ 24 (by decide) (by decide);have J33:vals 25=_:=hJ 25 (by decide) (by decide);have J6:Mn.p (Mn.blk W.heap.size (.cells #[.bool false,.slice none 0 0,.bool false,.slice none 0 0] 36 (0,0))) (vals 26) wz:=hJ 26 (by decide) (by decide);clear hJ;simp only [pr,Nat.reduceAdd,J31,J8,J32,J33];clear J31 J8 J32 J33
 generalize vals 5=z14 at J14 ⊢
 generalize vals 10=z19 at J19 ⊢
 generalize vals 15=z24 at J24 ⊢
 generalize vals 16=z25 at J25 ⊢
 generalize vals 17=z26 at J26 ⊢
 generalize vals 21=z30 at J30 ⊢
 generalize vals 26=z6 at J6 ⊢
 replace hE:=hE.trans eZ;replace B4:=eZ.block B4;obtain⟨gt,rfl,hgt,BT⟩:=J6;obtain⟨u0,u1,u2,u3,u4,u5,u6,u7⟩:=cells4 BT;refine stepL_late (i:=27) rfl (by kernel_rfl) (by kernel_rfl) (fun K hK=>?_);go_simp;refine hK.out _ _ ?_;clear hK K;try simp only [nr]
 refine stepL_late (i:=28) rfl (by kernel_rfl) (by kernel_rfl) (fun K hK=>?_);go_simp;refine hK.out _ _ ?_;clear hK K;try simp only [nr]
 refine stepL_done (by kernel_rfl) ?_ _;obtain⟨w5,E5,D5,U5⟩:=ex4 BT (.bool false) (.slice none 0 0) (.bool false) (.slice none 0 0);rw [E5];have C5:=U5.chg (NoU.mk BT (by decide));replace B4:=C5.blk B4 (by omega);replace hE:=C5.ext hE (by omega);clear E5 U5 C5 BT u0 u1 u2 u3 u4 u5 u6 u7 eZ a0 a1 a2 a3 a4 a5 r0 r1 r2 r3 s0 s1 s2 s3 J14 J19 J24 J25 J26 J30;obtain⟨x0,x1,x2,x3,-⟩:=cells4 D5;obtain⟨y0,y1,y2,y3,y4,y5,y6,y7⟩:=cells4 B4;go_wp2;refine fin_nilT (x:=.bool false) (by rfl) (by rfl) (by rfl) (by rfl) hE B4 (by omega)
theorem lsr_nil {N:Nat} {w:World} (hN:N≤w.heap.size) (R:Nat→Raw):LsR N 0 w.heap.size w (.slice none 0 0) 0 R:=⟨hN,Nat.le_refl _,none,0,rfl,Nat.le_refl _,Nat.zero_le _,fun h=>absurd h (by omega)⟩
set_option maxRecDepth 100000 in
theorem sn_Statistic_deg {N lo hi lo2 hi2:Nat} {w:World} {v1 v2 v3:Value} {m n:Nat} {X:Nat→Nat→Rat} {y p:Nat→Rat} (h1:MtV N lo hi w v1 m n X) (h2:LsV N lo2 hi2 w v2 m y) (h3:LsV N lo2 hi2 w v3 m p) (d:Md m n X y p) (hr:Reg n (nmat X p m)) (z:Int) (hz:inB m z=true) (h0:rS m n X p z.toNat=0) :
  Calls Tryz.prog 14 #[.agg #[v1,v2,v3],.int .i64 z] w (RetV w (.tuple #[nilRat,.int .i64 13])):=by
 have HB:=Lib.hid hz;have H0:=Lib.hid h0;clear hz h0;have HD:=Lib.hid d;have HG:=Lib.hid hr;have hN:=h1.le;have hm0:=d.m0;have hm7:=d.m7;have hn0:=d.n0;have hn4:=d.n4;have hI1:=h1;have hI2:=h2;have hI3:=h3;obtain⟨A1,c1,rfl,hmc,hcm⟩:=h1.form;obtain⟨A2,c2,rfl,hmc2,hcm2⟩:=h2.form;obtain⟨A3,c3,rfl,hmc3,hcm3⟩:=h3.form;unfold maxLen at hcm hcm2 hcm3;clear h1 h2 h3 d hr;go_enter Tryz.func14,Tryz.ntmps14;go_upto_region 1 with (fail);refine boxes2 ?_;intro W hE hsz B0 B4;obtain⟨a0,a1,a2,-⟩:=cells3 B0;go_wp2_with (go_at_call 60; refine Hid.out ?_);refine (sn_solve (hI1.ext hE) (hI2.ext hE) (hI3.ext hE) (lsr_nil (N:=N) (by have:=hE.size; omega) (fun _=>raw 0)) HD.out (fun i hi=>absurd hi (by omega)) rfl HG.out).mono ?_;rintro e w1 ⟨v,rfl,hS,e1⟩;replace hE:=hE.trans e1;replace B4:=e1.block B4;have hl4:=blk_lt B4;clear a0 a1 a2 e1;obtain⟨A5,c5,A6,c6,A7,c7,AQ,cq,AV,cv,gq,gl,hv6,-⟩:=id hS;subst hv6;go_upto_region 2 with (fail);refine boxes1 ?_;intro w2 e2 hsz2 B6;replace hS:=hS.ext e2;obtain⟨g6,hg6⟩:∃ g6,g6=w1.heap.size:=⟨_,rfl⟩
 rw [←hg6] at B6 ⊢;have hw1:w1.heap.size≤g6:=by omega
 replace hE:=hE.trans e2;replace B4:=e2.block B4;clear e2 hsz2 hg6;obtain⟨o0,o1,o2,o3,o4,o5,-⟩:=cells6 B6;go_wp2_with (go_at_call 61; refine Hid.out ?_);refine (sn_has hS hm7 _).mono ?_;rw [HB.out];rintro e w3 ⟨rfl,e3⟩;replace B4:=e3.block B4;replace B6:=e3.block B6;replace hS:=hS.ext e3;replace hE:=hE.trans e3;clear o0 o1 o2 o3 o4 o5 e3;obtain⟨o0,o1,o2,o3,o4,o5,-⟩:=cells6 B6;go_wp2_with (go_at_call 62; refine Hid.out ?_);refine (sn_statistic0 hS HD.out (inB_true HB.out).1 (inB_true HB.out).2 H0.out).mono ?_;rintro e w4 ⟨rfl,e4⟩;unfold nilRat;replace B4:=e4.block B4;replace hE:=hE.trans e4;clear o0 o1 o2 o3 o4 o5 e4;go_upto_region 7 with (fail);refine boxes1 ?_;intro w5 e5 hsz5 B8;replace B4:=e5.block B4;replace hE:=hE.trans e5;obtain⟨y0,y1,y2,y3,y4,y5,y6,y7⟩:=cells4 B4;go_wp2;refine fin_nilT (x:=.int .i64 13) (by rfl) (by rfl) (by rfl) (by rfl) hE B4 (by omega)
set_option maxRecDepth 100000 in
theorem sn_Statistic {N lo hi lo2 hi2:Nat} {w:World} {v1 v2 v3:Value} {m n:Nat} {X:Nat→Nat→Rat} {y p:Nat→Rat} (h1:MtV N lo hi w v1 m n X) (h2:LsV N lo2 hi2 w v2 m y) (h3:LsV N lo2 hi2 w v3 m p) (d:Md m n X y p) (hr:Reg n (nmat X p m)) (z:Int) (hz:inB m z=true) (h0:rS m n X p z.toNat≠0) :
  Calls Tryz.prog 14 #[.agg #[v1,v2,v3],.int .i64 z] w (RetRC N w (tS m n X y p z.toNat)):=by
 have HB:=Lib.hid hz;have H0:=Lib.hid h0;clear hz h0;have HD:=Lib.hid d;have HG:=Lib.hid hr;have hN:=h1.le;have hm0:=d.m0;have hm7:=d.m7;have hn0:=d.n0;have hn4:=d.n4;have hI1:=h1;have hI2:=h2;have hI3:=h3;obtain⟨A1,c1,rfl,hmc,hcm⟩:=h1.form;obtain⟨A2,c2,rfl,hmc2,hcm2⟩:=h2.form;obtain⟨A3,c3,rfl,hmc3,hcm3⟩:=h3.form;unfold maxLen at hcm hcm2 hcm3;clear h1 h2 h3 d hr;go_enter Tryz.func14,Tryz.ntmps14;go_upto_region 1 with (fail);refine boxes2 ?_;intro W hE hsz B0 B4;obtain⟨a0,a1,a2,-⟩:=cells3 B0;go_wp2_with (go_at_call 60; refine Hid.out ?_);refine (sn_solve (hI1.ext hE) (hI2.ext hE) (hI3.ext hE) (lsr_nil (N:=N) (by have:=hE.size; omega) (fun _=>raw 0)) HD.out (fun i hi=>absurd hi (by omega)) rfl HG.out).mono ?_;rintro e w1 ⟨v,rfl,hS,e1⟩;replace hE:=hE.trans e1;replace B4:=e1.block B4;have hl4:=blk_lt B4;clear a0 a1 a2 e1;obtain⟨A5,c5,A6,c6,A7,c7,AQ,cq,AV,cv,gq,gl,hv6,-⟩:=id hS;subst hv6;go_upto_region 2 with (fail);refine boxes1 ?_;intro w2 e2 hsz2 B6;replace hS:=hS.ext e2;obtain⟨g6,hg6⟩:∃ g6,g6=w1.heap.size:=⟨_,rfl⟩
 rw [←hg6] at B6 ⊢;have hw1:w1.heap.size≤g6:=by omega
 replace hE:=hE.trans e2;replace B4:=e2.block B4;clear e2 hsz2 hg6;obtain⟨o0,o1,o2,o3,o4,o5,-⟩:=cells6 B6;go_wp2_with (go_at_call 61; refine Hid.out ?_);refine (sn_has hS hm7 _).mono ?_;rw [HB.out];rintro e w3 ⟨rfl,e3⟩;replace B4:=e3.block B4;replace B6:=e3.block B6;replace hS:=hS.ext e3;replace hE:=hE.trans e3;clear o0 o1 o2 o3 o4 o5 e3;obtain⟨o0,o1,o2,o3,o4,o5,-⟩:=cells6 B6;go_wp2_with (go_at_call 62; refine Hid.out ?_);refine (sn_statistic hS HD.out (inB_true HB.out).1 (inB_true HB.out).2 H0.out).mono ?_;rintro e w4 ⟨v8,rfl,h8,e4⟩;obtain⟨bz,Az,kz,cz,Az',kz',cz',rfl,hbz,gz1,gz2⟩:=RatV.parts h8;replace B4:=e4.block B4;replace hE:=hE.trans e4;clear o0 o1 o2 o3 o4 o5 e4 h8;go_upto_region 7 with (fail);refine boxes1 ?_;intro w5 e5 hsz5 B8;replace B4:=e5.block B4;replace hE:=hE.trans e5;replace gz1:=gz1.ext e5;replace gz2:=gz2.ext e5;obtain⟨y0,y1,y2,y3,y4,y5,y6,y7⟩:=cells4 B4;obtain⟨x0,x1,x2,x3,-⟩:=cells4 B8;go_wp2;exact fin_ratT rfl rfl rfl rfl hE B4 (by omega) hN gz1 gz2 hbz (fun v w' hv he=>⟨v,rfl,hv,he⟩)
structure One (ET:TypeId) (z0:Value) (bz:Nat):Prop where
 inf:(Tryz.prog.info? ET).map (fun i=>(i.zero,i.size,i.bytes))=some (some z0,1,bz)
 cells:z0.cells.size=1
 le:bz≤24
 ne:ET≠132
def GrowO (ET:TypeId) (base:Nat) (w:World) (v:Value) (xs:List Value):Prop:=base≤w.heap.size∧w.ownsRow base ET 1 v xs.length xs
section
variable {ET:TypeId} {base:Nat} {w w':World} {v:Value} {xs:List Value}
theorem GrowO.nil (h:base≤w.heap.size):GrowO ET base w (.slice none 0 0) []:=⟨h,by simp,.inl ⟨rfl,rfl⟩⟩
theorem GrowO.empty {g:Nat} (hb:base≤g) (h:w.heap[g]?=some (.cells #[] ET (0,0))):GrowO ET base w (.slice (some ⟨g,0,none⟩) 0 0) [] :=
 ⟨by have:=blk_lt h; omega,by simp,.inr ⟨g,0,#[],rfl,hb,h,Nat.le_refl _,Nat.zero_le _,rfl,rfl⟩⟩
theorem GrowO.form (h:GrowO ET base w v xs):∃ A c,v=.slice A xs.length c∧xs.length≤c:=by
 rcases h.2.2 with ⟨rfl,h0⟩ | ⟨g,cap,cur,rfl,_,_,hc,_⟩
 ·exact⟨_,_,by rw [h0],by omega⟩
 ·exact⟨_,_,rfl,hc⟩
theorem GrowO.ext (h:GrowO ET base w v xs) (e:Ext w w'):GrowO ET base w' v xs:=by
 refine⟨Nat.le_trans h.1 e.size,h.2.1,?_⟩
 rcases h.2.2 with h0 | ⟨g,cap,cur,hv,hb,hh,h1,h2,h3,h4⟩
 ·exact .inl h0
 ·exact .inr ⟨g,cap,cur,hv,hb,e.block hh,h1,h2,h3,h4⟩
theorem GrowO.chg {l u:Nat} (h:GrowO ET base w v xs) (c:Chg l u w w') (hd:u≤base):GrowO ET base w' v xs:=by
 refine⟨Nat.le_trans h.1 c.size,h.2.1,?_⟩
 rcases h.2.2 with h0 | ⟨g,cap,cur,hv,hb,hh,h1,h2,h3,h4⟩
 ·exact .inl h0
 ·exact .inr ⟨g,cap,cur,hv,hb,c.blk hh (by omega),h1,h2,h3,h4⟩
theorem GrowO.far {l u:Nat} (h:GrowO ET base w v xs) (c:Chg l u w w') (hd:∀ k,v.ownBlock=some k→k < l∨u≤k):GrowO ET base w' v xs:=by
 refine⟨Nat.le_trans h.1 c.size,h.2.1,?_⟩
 rcases h.2.2 with h0 | ⟨g,cap,cur,rfl,hb,hh,h1,h2,h3,h4⟩
 ·exact .inl h0
 ·exact .inr ⟨g,cap,cur,rfl,hb,c.blk hh (hd g rfl),h1,h2,h3,h4⟩
theorem GrowO.low {b':Nat} (h:GrowO ET base w v xs) (hb:b'≤base):GrowO ET b' w v xs:=by
 refine⟨Nat.le_trans hb h.1,h.2.1,?_⟩
 rcases h.2.2 with h0 | ⟨g,cap,cur,hv,hb0,h3⟩
 ·exact .inl h0
 ·exact .inr ⟨g,cap,cur,hv,by omega,h3⟩
theorem GrowO.own_lt (h:GrowO ET base w v xs):∀ k,v.ownBlock=some k→base≤k∧k < w.heap.size:=by
 rcases h.2.2 with ⟨rfl,h0⟩ | ⟨g,cap,cur,rfl,hb,hh,-⟩
 ·intro k hk; simp [Value.ownBlock] at hk
 ·intro k hk;obtain rfl:g=k:=by simpa [Value.ownBlock] using hk
  exact⟨hb,blk_lt hh⟩
theorem GrowO.at_ (h:GrowO ET base w v xs) (hn:0 < xs.length):∃ g cap,v=.slice (some ⟨g,0,none⟩) xs.length cap∧base≤g∧g < w.heap.size∧cap≤maxLen∧xs.length≤cap∧(∃ cs,w.heap[g]?=some (.cells cs ET (0,0))∧cs.size=cap)∧∀ j (hj:j < xs.length),w.cell? ⟨g,j,none⟩=some xs[j]:=by
 rcases h.2.2 with ⟨-,h⟩ | ⟨g,cap,cur,hv,hb,hg,hnc,hcm,hcs,htk⟩
 ·omega
 ·refine⟨g,cap,hv,hb,blk_lt hg,hcm,hnc,⟨cur,hg,by omega⟩,fun j hj=>?_⟩;rw [cell_blk hg];have h9:(cur.toList.take (xs.length*1))[j]?=some xs[j]:=by rw [htk]; exact List.getElem?_eq_getElem hj
  rw [List.getElem?_take] at h9;rw [if_pos (by omega)] at h9;simpa using h9
theorem run_append_o {z0:Value} {bz:Nat} (ho:One ET z0 bz) (t ty:TypeId) (ht:Tryz.prog.underlying t=some (.slice ET)) (h:GrowO ET base w v xs) {b off m c:Nat} {news:List Value} (hl:news.length=m)
  (hnews:∀ j u,news[j]?=some u→w.cell? ⟨b,off+j,none⟩=some u) (h1:∀ u∈news,u.oneCell'=true) (hm:0 < m) (hn:xs.length+m≤1000000000) :
  ∃ g cap w',(Builtin.append_ #[t,t] ty #[v,.slice (some ⟨b,off,none⟩) m c]).run Tryz.prog w=.ok (.slice (some ⟨g,0,none⟩) (xs.length+m) cap) w'∧GrowO ET base w' (.slice (some ⟨g,0,none⟩) (xs.length+m) cap) (xs ++ news)∧(v.ownBlock=some g∨g=w.heap.size) ∧
   (∃ g',base≤g'∧(v.ownBlock=some g'∨g'=w.heap.size)∧Chg g' (g'+1) w w'∧NoU w g'):=by
 obtain⟨i0,hi0,hz0,hz1,hz2⟩:=info_parts ho.inf;obtain⟨hb0,hown⟩:=h;have hle:=ho.le
 obtain⟨g,cap,w',hrun,hO,hgr,hat,hlt⟩:=run_append_lies (P:=Tryz.prog) w t ty base ET i0 _ 1 bz ht hi0 hz0 hz1 hz2 ho.cells (by omega) v xs.length xs hown ⟨b,off,none⟩ m c news (by omega)
  (fun j u hj=>by rw [add_addr]; exact hnews j u hj) h1 hm (by unfold maxLen; omega)
  (Nat.le_trans (Nat.mul_le_mul hn ho.le) (by decide)) hb0 w.heap.size rfl
 refine⟨g,cap,w',hrun,⟨Nat.le_trans hb0 hgr.size,?_⟩,hat,?_⟩
 ·rw [List.length_append,hl]; exact hO
 ·have hT:NoU w w.heap.size:=fun cs fr h=>by rw [Array.getElem?_eq_none (Nat.le_refl _)] at h; cases h
  rcases hown.2 with ⟨rfl,h0⟩ | ⟨g0,cap0,cur,rfl,hbb,hh,_⟩
  ·exact⟨w.heap.size,hb0,.inr rfl,grown_chg hgr (fun k hk=>by simp [Value.ownBlock] at hk) hT,hT⟩
  ·have hT0:NoU w g0:=NoU.mk hh ho.ne;exact⟨g0,hbb,.inl rfl,grown_chg hgr (fun k hk=>by simpa [Value.ownBlock] using hk.symm) hT0,hT0⟩
end
theorem wp_append_o {ET:TypeId} {base:Nat} {w:World} {v:Value} {xs:List Value} {z0:Value} {bz:Nat} (h0:One ET z0 bz) {o:Oper} {a:Act} {K:Act→World→Prop} {Q:Exit→Act→World→Prop} (s x:Operand) (t:TypeId) (ht:Tryz.prog.underlying t=some (.slice ET))
  (ho:o.op=.call { callee:=.builtin .append,args:=#[s,x],argTypes:=#[t,t] }) (hs:a.eval s=v) (h:GrowO ET base w v xs) {b off m c:Nat} {news:List Value} (hx:a.eval x=.slice (some ⟨b,off,none⟩) m c) (hl:news.length=m)
  (hnews:∀ j u,news[j]?=some u→w.cell? ⟨b,off+j,none⟩=some u) (h1:∀ u∈news,u.oneCell'=true) (hm:0 < m) (hn:xs.length+m≤1000000000)
  (hK:∀ g cap w',GrowO ET base w' (.slice (some ⟨g,0,none⟩) (xs.length+m) cap) (xs ++ news)→(v.ownBlock=some g∨g=w.heap.size)→(∃ g',base≤g'∧(v.ownBlock=some g'∨g'=w.heap.size)∧Chg g' (g'+1) w w'∧NoU w g')→K (a.put o.dst (.slice (some ⟨g,0,none⟩) (xs.length+m) cap)) w'):o.wp Tryz.prog a w K Q:=by
 obtain⟨g,cap,w',hrun,h2,h3,h4⟩:=run_append_o h0 t o.type ht h hl hnews h1 hm hn (c:=c);unfold Oper.wp execOp;simp only [ho,resolve,invoke,builtin,Sem.run_bind,Sem.run_pure,Result.andThen_ok,List.map_toArray,List.map_cons,List.map_nil,hs,hx,hrun];exact hK g cap w' h2 h3 h4
theorem wpList_append_o {ET:TypeId} {base:Nat} {w:World} {v:Value} {xs:List Value} {z0:Value} {bz:Nat} (h0:One ET z0 bz) {ops:Array Oper} {rest:List Oper} {o:Oper} {a:Act} {Q:Exit→Act→World→Prop} (hgd:o.guard=none) (s x:Operand) (t:TypeId) (ht:Tryz.prog.underlying t=some (.slice ET))
  (ho:o.op=.call { callee:=.builtin .append,args:=#[s,x],argTypes:=#[t,t] }) (hs:a.eval s=v) (h:GrowO ET base w v xs) {b off m c:Nat} {news:List Value} (hx:a.eval x=.slice (some ⟨b,off,none⟩) m c) (hl:news.length=m)
  (hnews:∀ j u,news[j]?=some u→w.cell? ⟨b,off+j,none⟩=some u) (h1:∀ u∈news,u.oneCell'=true) (hm:0 < m) (hn:xs.length+m≤1000000000)
  (hK:∀ g cap w',GrowO ET base w' (.slice (some ⟨g,0,none⟩) (xs.length+m) cap) (xs ++ news)→(v.ownBlock=some g∨g=w.heap.size)→(∃ g',base≤g'∧(v.ownBlock=some g'∨g'=w.heap.size)∧Chg g' (g'+1) w w'∧NoU w g')→wpList Tryz.prog ops Q rest (a.put o.dst (.slice (some ⟨g,0,none⟩) (xs.length+m) cap)) w'):wpList Tryz.prog ops Q (o :: rest) a w :=
 wpList_plain hgd fun _ hK'=>wp_append_o h0 s x t ht ho hs h hx hl hnews h1 hm hn (fun g cap w' a1 a2 a3=>hK' _ _ (hK g cap w' a1 a2 a3))
theorem one_new {w:World} {g:Nat} {u:Value} {t:TypeId} {fr:Nat×Nat} (h:w.heap[g]?=some (.cells #[u] t fr)):∀ j x,[u][j]?=some x→w.cell? ⟨g,0+j,none⟩=some x:=by
 intro j x hj;rw [Nat.zero_add,cell_blk h];simpa using hj
theorem one_bool:One 4 (.bool false) 1:=⟨by kernel_rfl,rfl,by omega,by decide⟩
theorem one_int:One 3 (.int .i64 0) 8:=⟨by kernel_rfl,rfl,by omega,by decide⟩
theorem grow_chgB {N base g:Nat} {w w':World} {v:Value} {n:Nat} {x:Nat→Rat} (h:Grow N base w v n x) (c:Chg g (g+1) w w') (hN:N≤g) (hd:v.ownBlock≠some g):Grow N base w' v n x:=by
 obtain⟨h1,h2,h3⟩:=h;refine⟨h1,Nat.le_trans h2 c.size,?_⟩
 rcases h3 with h3 | ⟨g0,cap,rfl,hg,hm,hr⟩
 ·exact .inl h3
 ·have hne:g0≠g:=fun e=>hd (by rw [←e]; rfl)
  exact .inr ⟨g0,cap,rfl,hg,hm,hr.chg c hN (by omega)⟩
theorem grow_lt {N base:Nat} {w:World} {v:Value} {n:Nat} {x:Nat→Rat} (h:Grow N base w v n x) {k:Nat} (hk:v.ownBlock=some k):base≤k∧k < w.heap.size:=by
 obtain⟨h1,h2,⟨rfl,-⟩ | ⟨g0,cap,rfl,hg,hm,hr⟩⟩:=h
 ·simp [Value.ownBlock] at hk
 ·have:g0=k:=by simpa [Value.ownBlock] using hk
  subst this;exact⟨hg,hr.lt⟩
theorem GrowS.chgB {base g:Nat} {w w':World} {v:Value} {xs:List Value} (h:GrowS base w v xs) (c:Chg g (g+1) w w') (hd:v.ownBlock≠some g):GrowS base w' v xs:=by
 obtain⟨h0,h1,h2⟩:=h;refine⟨Nat.le_trans h0 c.size,h1,?_⟩
 rcases h2 with h2 | ⟨g0,cap,cur,rfl,hb,hg,h3⟩
 ·exact .inl h2
 ·have hne:g0≠g:=fun e=>hd (by rw [←e]; rfl)
  exact .inr ⟨g0,cap,cur,rfl,hb,c.blk hg (by omega),h3⟩
theorem GrowS.own_lt {base:Nat} {w:World} {v:Value} {xs:List Value} (h:GrowS base w v xs) {k:Nat} (hk:v.ownBlock=some k):base≤k∧k < w.heap.size:=by
 obtain⟨h0,h1,⟨rfl,-⟩ | ⟨g0,cap,cur,rfl,hb,hg,h3⟩⟩:=h
 ·simp [Value.ownBlock] at hk
 ·have:g0=k:=by simpa [Value.ownBlock] using hk
  subst this;exact⟨hb,blk_lt hg⟩
theorem grow_noU {N base:Nat} {w:World} {v:Value} {n:Nat} {x:Nat→Rat} (h:Grow N base w v n x):∃ g',base≤g'∧NoU w g'∧(∀ k,v.ownBlock=some k→k=g')∧(v.ownBlock=some g'∨g'=w.heap.size):=by
 obtain⟨h1,h2,⟨rfl,-⟩ | ⟨g0,cap,rfl,hg,hm,hr⟩⟩:=h
 ·exact⟨w.heap.size,h2,fun cs fr h=>by (rw [Array.getElem?_eq_none (Nat.le_refl _)] at h; cases h),fun k hk=>by simp [Value.ownBlock] at hk,.inr rfl⟩
 ·exact⟨g0,hg,hr.noU,fun k hk=>by simpa [Value.ownBlock] using hk.symm,.inl rfl⟩
theorem run_append_rat_at {N base:Nat} {w:World} (t ty:TypeId) (ht:Tryz.prog.underlying t=some (.slice 36)) {v:Value} {n:Nat} {x:Nat→Rat} (h:Grow N base w v n x)
  {b:Nat} {neg:Bool} {s u:Value} {q:Rat} {fr:Nat×Nat} (hb:w.heap[b]?=some (.cells #[.bool neg,s,.bool false,u] 36 fr)) (hneg:Hid (neg=decide (q.num < 0))) (hs:Gs N w s (dg q.num.natAbs)) (hu:Gs N w u (dg q.den)) (hn:n < 1000000000) :
  ∃ g cap w' g',(Builtin.append_ #[t,t] ty #[v,.slice (some ⟨b,0,none⟩) 1 1]).run Tryz.prog w=.ok (.slice (some ⟨g,0,none⟩) (n+1) cap) w'∧Grow N base w' (.slice (some ⟨g,0,none⟩) (n+1) cap) (n+1) (upd x n q)∧base≤g'∧Chg g' (g'+1) w w'∧(v.ownBlock=some g'∨g'=w.heap.size)∧(v.ownBlock=some g∨g=w.heap.size):=by
 obtain⟨i0,hi0,hz0,hz1,hz2⟩:=info_parts info_rat;obtain⟨g1,cap1,w1,hrun1,hG1,-,-⟩:=run_append_rat t ty ht h hb hneg hs hu hn;obtain⟨g',hg',hT,hk,hw9⟩:=grow_noU h;obtain⟨h1,h2,h3⟩:=h
 have hown:∃ xs,w.ownsRow base 36 4 v n xs:=by
  rcases h3 with ⟨rfl,rfl⟩ | ⟨g,cap,rfl,hg,hm,hr⟩
  ·exact⟨[],⟨by simp,.inl ⟨rfl,rfl⟩⟩⟩
  ·obtain⟨xs,hx,hc⟩:=row_cells hr hm hg;exact⟨xs,hx⟩
 obtain⟨xs,hown⟩:=hown;obtain⟨As,ns,cs0,rfl,-,-,-⟩:=hs.form;obtain⟨Au,nu,cu,rfl,-,-,-⟩:=hu.form
 obtain⟨g,cap,w',hrun,ho,hgr,hat,hlt⟩:=run_append_lies (P:=Tryz.prog) w t ty base 36 i0 _ 4 64 ht hi0 hz0 hz1 hz2 rfl (by omega) v n xs hown ⟨b,0,none⟩ 1 1 [.bool neg,.slice As ns cs0,.bool false,.slice Au nu cu] rfl
  (fun j u hj=>by
   have e:(⟨b,0,none⟩:Addr).add j=⟨b,j,none⟩:=by
    unfold Addr.add; split
    ·rename_i e; subst e; rfl
    ·simp
   rw [e,cell_blk hb]
   simpa using hj)
  (fun u hu=>by simp at hu; rcases hu with rfl | rfl | rfl | rfl <;> rfl) (by omega) (by unfold maxLen; omega) (by omega) h2 w.heap.size rfl
 rw [hrun1] at hrun;injection hrun with e1 e2
 injection e1 with e1 _ e3
 injection e1 with e1
 injection e1 with e1 _
 subst e1 e2 e3;exact⟨g1,cap1,w1,g',hrun1,hG1,hg',grown_chg hgr hk hT,hw9,hat⟩
theorem step_append_rat_at {N base:Nat} {w:World} {ops:Array Oper} {o:Oper} {a:Act} {K:Act→World→Prop} {Q:Exit→Act→World→Prop} {E:Prop} (hgd:o.guard=none) (s x:Operand) (t:TypeId) (ht:Tryz.prog.underlying t=some (.slice 36))
  (ho:o.op=.call { callee:=.builtin .append,args:=#[s,x],argTypes:=#[t,t] }) {v:Value} {n:Nat} {f:Nat→Rat} (hs:a.eval s=v) (h:Grow N base w v n f)
  {b:Nat} (hx:a.eval x=.slice (some ⟨b,0,none⟩) 1 1) {neg:Bool} {s1 s2:Value} {q:Rat} {fr:Nat×Nat} (hb:w.heap[b]?=some (.cells #[.bool neg,s1,.bool false,s2] 36 fr)) (hneg:Hid (neg=decide (q.num < 0))) (g1:Gs N w s1 (dg q.num.natAbs)) (g2:Gs N w s2 (dg q.den)) (hn:n < 1000000000)
  (hK:∀ g cap w' g',Grow N base w' (.slice (some ⟨g,0,none⟩) (n+1) cap) (n+1) (upd f n q)→base≤g'→Chg g' (g'+1) w w'→(v.ownBlock=some g'∨g'=w.heap.size)→(v.ownBlock=some g∨g=w.heap.size)→K (a.put o.dst (.slice (some ⟨g,0,none⟩) (n+1) cap)) w') :
  if Region.wanted o (yielded ops a.tmps)=true then Oper.wp Tryz.prog o a w K Q else E:=by
 have hw:Region.wanted o (yielded ops a.tmps)=true:=by simp [Region.wanted,hgd]
 rw [if_pos hw];obtain⟨g,cap,w',g',hrun,h2,h3,h4,h5,h6⟩:=run_append_rat_at t o.type ht h hb hneg g1 g2 hn;unfold Oper.wp execOp;simp only [ho,resolve,invoke,builtin,Sem.run_bind,Sem.run_pure,Result.andThen_ok,List.map_toArray,List.map_cons,List.map_nil,hs,hx,hrun];exact hK g cap w' g' h2 h3 h4 h5 h6
theorem run_append_row_at {base:Nat} {w:World} {v:Value} {xs:List Value} (t ty:TypeId) (ht:Tryz.prog.underlying t=some (.slice 24)) (h:GrowS base w v xs) {b:Nat} {u:Value} {fr:Nat×Nat} (hb:w.heap[b]?=some (.cells #[u] 24 fr)) (h1:u.oneCell'=true) (hlen:xs.length < 100000) :
  ∃ g cap w' g',(Builtin.append_ #[t,t] ty #[v,.slice (some ⟨b,0,none⟩) 1 1]).run Tryz.prog w=.ok (.slice (some ⟨g,0,none⟩) (xs.length+1) cap) w'∧GrowS base w' (.slice (some ⟨g,0,none⟩) (xs.length+1) cap) (xs ++ [u])∧base≤g'∧Chg g' (g'+1) w w'∧(v.ownBlock=some g'∨g'=w.heap.size)∧(v.ownBlock=some g∨g=w.heap.size):=by
 obtain⟨i0,hi0,hz0,hz1,hz2⟩:=info_parts info_row;obtain⟨g',hg',hT,hk,hw9⟩:=h.noU;obtain⟨h0,hown⟩:=h
 obtain⟨g,cap,w',hrun,ho,hgr,hat,hlt⟩:=run_append_lies (P:=Tryz.prog) w t ty base 24 i0 _ 1 24 ht hi0 hz0 hz1 hz2 rfl (by omega) v xs.length xs hown ⟨b,0,none⟩ 1 1 [u] rfl
  (fun j u' hj=>by
   rw [add_none];have hj0:j=0:=by have:=(List.getElem?_eq_some_iff.1 hj).1; simp at this; exact this
   subst hj0;rw [cell_blk hb]
   simpa using hj)
  (fun u' hu=>by rw [List.mem_singleton.1 hu]; exact h1) (by omega) (by unfold maxLen; omega) (by omega) h0 w.heap.size rfl
 refine⟨g,cap,w',g',hrun,⟨Nat.le_trans h0 hgr.size,?_⟩,hg',grown_chg hgr hk hT,hw9,hat⟩;rw [List.length_append]; exact ho
theorem step_append_row_at {base:Nat} {w:World} {v:Value} {xs:List Value} {ops:Array Oper} {o:Oper} {a:Act} {K:Act→World→Prop} {Q:Exit→Act→World→Prop} {E:Prop} (hgd:o.guard=none) (s x:Operand) (t:TypeId) (ht:Tryz.prog.underlying t=some (.slice 24))
  (ho:o.op=.call { callee:=.builtin .append,args:=#[s,x],argTypes:=#[t,t] }) (hs:a.eval s=v) (h:GrowS base w v xs) {b:Nat} (hx:a.eval x=.slice (some ⟨b,0,none⟩) 1 1) {u:Value} {fr:Nat×Nat} (hb:w.heap[b]?=some (.cells #[u] 24 fr)) (h1:u.oneCell'=true) (hlen:xs.length < 100000)
  (hK:∀ g cap w' g',GrowS base w' (.slice (some ⟨g,0,none⟩) (xs.length+1) cap) (xs ++ [u])→base≤g'→Chg g' (g'+1) w w'→(v.ownBlock=some g'∨g'=w.heap.size)→(v.ownBlock=some g∨g=w.heap.size)→K (a.put o.dst (.slice (some ⟨g,0,none⟩) (xs.length+1) cap)) w') :
  if Region.wanted o (yielded ops a.tmps)=true then Oper.wp Tryz.prog o a w K Q else E:=by
 have hw:Region.wanted o (yielded ops a.tmps)=true:=by simp [Region.wanted,hgd]
 rw [if_pos hw];obtain⟨g,cap,w',g',hrun,h2,h3,h4,h5,h6⟩:=run_append_row_at t o.type ht h hb h1 hlen;unfold Oper.wp execOp;simp only [ho,resolve,invoke,builtin,Sem.run_bind,Sem.run_pure,Result.andThen_ok,List.map_toArray,List.map_cons,List.map_nil,hs,hx,hrun];exact hK g cap w' g' h2 h3 h4 h5 h6
def BlV (w:World) (v:Value) (n:Nat) (b:Nat→Bool):Prop :=
 ∃ (A:Option Addr) (c:Nat),v=.slice A n c∧n≤c∧c≤maxLen∧(0 < n→∃ g off,A=some ⟨g,off,none⟩∧∀ i,i < n→w.cell? ⟨g,off+i,none⟩=some (.bool (b i)))
theorem BlV.ext {w w':World} {v:Value} {n:Nat} {b:Nat→Bool} (h:BlV w v n b) (e:Ext w w'):BlV w' v n b:=by
 obtain⟨A,c,hv,h1,h2,h3⟩:=h;refine⟨A,c,hv,h1,h2,fun hn=>?_⟩;obtain⟨g,off,hA,hx⟩:=h3 hn;exact⟨g,off,hA,fun i hi=>e.cell (hx i hi)⟩
theorem BlV.form {w:World} {v:Value} {n:Nat} {b:Nat→Bool} (h:BlV w v n b):∃ (A:Option Addr) (c:Nat),v=.slice A n c∧n≤c∧c≤maxLen:=by
 obtain⟨A,c,hv,h1,h2,-⟩:=h;exact⟨A,c,hv,h1,h2⟩
theorem BlV.addr {w:World} {A:Option Addr} {n c:Nat} {b:Nat→Bool} (h:BlV w (.slice A n c) n b) (hn:0 < n):∃ g off,A=some ⟨g,off,none⟩∧∀ i,i < n→w.cell? ⟨g,off+i,none⟩=some (.bool (b i)):=by
 obtain⟨A',c',hv,-,-,h3⟩:=h;injection hv with e1 e2 e3
 subst e1;exact h3 hn
def bls (n:Nat) (b:Nat→Bool):List Value:=(List.range n).map fun i=>.bool (b i)
theorem bls_succ (n:Nat) (b:Nat→Bool):bls (n+1) b=bls n b ++ [.bool (b n)]:=by simp [bls,List.range_succ]
theorem bls_len (n:Nat) (b:Nat→Bool):(bls n b).length=n:=by simp [bls]
theorem bls_blv {base:Nat} {w:World} {v:Value} {n:Nat} {b:Nat→Bool} (h:GrowO 4 base w v (bls n b)) (hn:0 < n):BlV w v n b:=by
 obtain⟨g,cap,rfl,-,-,h1,h2,-,h3⟩:=h.at_ (by rw [bls_len]; exact hn);rw [bls_len] at h2;refine⟨_,cap,by rw [bls_len],h2,h1,fun _=>⟨g,0,rfl,fun i hi=>?_⟩⟩;rw [Nat.zero_add,h3 i (by rw [bls_len]; exact hi)];simp [bls]
def zS (m n:Nat) (X:Nat→Nat→Rat) (y p:Nat→Rat) (i:Nat):Rat:=if rS m n X p i=0 then 0 else tS m n X y p i
def kS (m n:Nat) (X:Nat→Nat→Rat) (p:Nat→Rat) (i:Nat):Bool:=decide (rS m n X p i≠0)
def RetSts (N:Nat) (w:World) (m n:Nat) (X:Nat→Nat→Rat) (y p:Nat→Rat) (e:Ending) (w':World):Prop :=
 ∃ A c A' c',e=.returned (.tuple #[.slice A m c,.slice A' m c',.int .i64 0])∧LsV N 0 w'.heap.size w' (.slice A m c) m (zS m n X y p)∧BlV w' (.slice A' m c') m (kS m n X p)∧Ext w w'
theorem zS_ht {m n:Nat} {X:Nat→Nat→Rat} {y p:Nat→Rat} (d:Md m n X y p):HtL m 280000000 (zS m n X y p):=fun i hi=>by
 unfold zS; split
 ·exact Ht.zero.mono (by omega)
 ·exact d.t_ht i hi
set_option maxRecDepth 100000 in
theorem sn_Statistics {N lo hi lo2 hi2:Nat} {w:World} {v1 v2 v3:Value} {m n:Nat} {X:Nat→Nat→Rat} {y p:Nat→Rat} (h1:MtV N lo hi w v1 m n X) (h2:LsV N lo2 hi2 w v2 m y) (h3:LsV N lo2 hi2 w v3 m p) (d:Md m n X y p) (hr:Reg n (nmat X p m)) :
  Calls Tryz.prog 34 #[.agg #[v1,v2,v3]] w (RetSts N w m n X y p):=by
 obtain⟨Rf,hRf⟩:=hid_eq (RetSts N w m n X y p);rw [←hRf.out];have HD:=Lib.hid d;have HG:=Lib.hid hr;have hN:=h1.le;have hm0:=d.m0;have hm7:=d.m7;have hn0:=d.n0;have hn4:=d.n4;have hI1:=h1;have hI2:=h2;have hI3:=h3;obtain⟨A1,c1,rfl,hmc,hcm⟩:=h1.form;obtain⟨A2,c2,rfl,hmc2,hcm2⟩:=h2.form;obtain⟨A3,c3,rfl,hmc3,hcm3⟩:=h3.form;unfold maxLen at hcm hcm2 hcm3;clear h1 h2 h3 d hr;go_enter Tryz.func34,Tryz.ntmps34;go_upto_region 1 with (fail);refine boxes1 ?_;intro W hE hsz B0;obtain⟨a0,a1,a2,-⟩:=cells3 B0;go_wp2_with (go_at_call 60; refine Hid.out ?_);refine (sn_solve (hI1.ext hE) (hI2.ext hE) (hI3.ext hE) (lsr_nil (N:=N) (by have:=hE.size; omega) (fun _=>raw 0)) HD.out (fun i hi=>absurd hi (by omega)) rfl HG.out).mono ?_;rintro e w1 ⟨v,rfl,hS,e1⟩;replace hE:=hE.trans e1;replace B0:=e1.block B0;clear a0 a1 a2 e1;obtain⟨A5,c5,A6,c6,A7,c7,AQ,cq,AV,cv,gq,gl,hv6,-⟩:=id hS;subst hv6;go_upto_region 2 with (fail);refine boxes1 ?_;intro w2 e2 hsz2 B6;replace hS:=hS.ext e2;obtain⟨g6,hg6⟩:∃ g6,g6=w1.heap.size:=⟨_,rfl⟩
 rw [←hg6] at B6 ⊢;have hw1:w1.heap.size≤g6:=by omega
 replace hE:=hE.trans e2;replace B0:=e2.block B0;have hg6l:=blk_lt B6;clear e2 hsz2 hg6 hw1;obtain⟨a0,a1,a2,-⟩:=cells3 B0;go_wp2;clear a0 a1 a2;have hN2:N≤w2.heap.size:=by have:=hE.size; omega
 go_loopw [23,7,8] (fun i vL vB wr=>∃ k:Nat,k≤m∧i=.int .i64 k∧Ext w2 wr∧Grow N w2.heap.size wr vL k (zS m n X y p)∧GrowO 4 w2.heap.size wr vB (bls k (kS m n X p))∧Hid (∀ j,vL.ownBlock=some j→vB.ownBlock≠some j)) (fun i _ _ _=>m - (intOf i).toNat)
 case atStart=>exact⟨0,Nat.zero_le _,rfl,Ext.refl _,Grow.nil hN2 (Nat.le_refl _) _,GrowO.nil (Nat.le_refl _),fun j hj=>by simp [Value.ownBlock] at hj⟩
 case round =>
  obtain⟨k,hk,rfl,eR,hL,hB,hD⟩:=hrel;have hER:=hE.trans eR
  by_cases hlt:k < m
  ·have hSr:=hS.ext eR;have B6r:=eR.block B6;obtain⟨o0,o1,o2,o3,o4,o5,-⟩:=cells6 B6r;obtain⟨AL,cL,rfl,-⟩:=hL.form;obtain⟨AB,cB,rfl,-⟩:=hB.form;rw [bls_len] at hB hD ⊢
   by_cases h0:rS m n X p k=0
   ·have HZ:Hid (zS m n X y p k=0):=by rw [Hid]; unfold zS; rw [if_pos h0]
    have HK:Hid (kS m n X p k=false):=by rw [Hid]; unfold kS; simp [h0]
    have H0:=Lib.hid h0;clear h0;go_wp2_with (go_at_call 62; refine Hid.out ?_);refine (sn_statistic0 hSr HD.out rfl hlt H0.out).mono ?_;rintro e w3 ⟨rfl,e3⟩;unfold nilRat;replace eR:=eR.trans e3;replace hL:=hL.ext e3;replace hB:=hB.ext e3;have hs3:=eR.size;have HL3:Hid (∀ j,(Value.slice AL k cL).ownBlock=some j→j < w3.heap.size):=fun j hj=>(grow_lt hL hj).2
    have HB3:Hid (∀ j,(Value.slice AB k cB).ownBlock=some j→j < w3.heap.size):=fun j hj=>(hB.own_lt j hj).2
    clear o0 o1 o2 o3 o4 o5 hSr B6r e3 hER;go_upto_region 10 with (fail);refine boxes1 ?_;intro w4 e4 hsz4 B10;replace eR:=eR.trans e4;replace hL:=hL.ext e4;replace hB:=hB.ext e4;obtain⟨g10,hg10⟩:∃ g10,g10=w3.heap.size:=⟨_,rfl⟩
    rw [←hg10] at B10 HL3 HB3 hs3 ⊢;clear e4 hsz4 hg10;go_wp2_with (go_at_call 80; refine Hid.out ?_);refine (f_whole (N:=N) (by have:=eR.size; omega) 0 (by omega) (by omega)).mono ?_;intro e w5 hh;obtain⟨nb,A9,n9,c9,A8,n8,c8',rfl,hnb,g9,g8,e5⟩:=hh.form;replace eR:=eR.trans e5;replace hL:=hL.ext e5;replace hB:=hB.ext e5;replace B10:=e5.block B10;clear e5;obtain⟨y0,y1,y2,y3,y4,y5,y6,y7⟩:=cells4 B10;go_upto_region 12 with (fail);obtain⟨w6,E6,D6,U6⟩:=ex4 B10 (.bool nb) (.slice A9 n9 c9) (.bool false) (.slice A8 n8 c8');rw [E6];have C6:=U6.chg (NoU.mk B10 (by decide));replace eR:=C6.ext eR hs3;replace hL:=grow_chgB hL C6 (by omega) (fun e=>absurd (HL3.out _ e) (by omega));replace hB:=hB.far C6 (fun j hj=>by have:=HB3.out j hj; omega);replace g9:=g9.chg C6 (by omega);replace g8:=g8.chg C6 (by omega);clear y0 y1 y2 y3 y4 y5 y6 y7 E6 U6 C6 B10;obtain⟨r0,r1,r2,r3,-⟩:=cells4 D6;go_upto_region 12 with (fail);refine wp_region_lit ?_;refine wpList_plain rfl (fun K hK=>?_);go_simp;refine hK _ _ ?_;clear hK K;try simp only [nr]
    refine wpList_plain rfl (fun K hK=>?_);go_simp;refine hK _ _ ?_;clear hK K;try simp only [nr]
    refine wpList_plain rfl (fun K hK=>?_);go_simp;refine hK _ _ ?_;clear hK K;try simp only [nr]
    refine boxes1 ?_;intro w7 e7 hsz7 BB;replace hL:=hL.ext e7;replace hB:=hB.ext e7;replace g9:=g9.ext e7;replace g8:=g8.ext e7;replace eR:=eR.trans e7;clear e7 hsz7 r0 r1 r2 r3;refine wpList_step (fun K hK=>?_);refine step_append_rat_at rfl _ _ 24 Tryz.underlying24 rfl (by rfl) hL (by rfl) BB hnb g9 g8 (by omega) ?_;intro g cap w8 g' hL8 hb8 c8 o8 p8;refine hK _ _ ?_;clear hK K;try simp only [nr]
    have hB8:=hB.far c8 (fun j hj=>by
     rcases o8 with o8 | o8
     ·have h9:j≠g':=fun e9=>hD.out g' o8 (by rw [←e9]; exact hj)
      omega
     ·have:=(hB.own_lt j hj).2
      omega)
    have eR8:Ext w2 w8:=c8.ext eR hb8;have hgl:=(grow_lt hL8 (k:=g) rfl).2;refine wpList_plain rfl (fun K hK=>?_);go_simp;refine hK _ _ ?_;clear hK K;try simp only [nr]
    refine wpList_plain rfl (fun K hK=>?_);go_simp;refine hK _ _ ?_;clear hK K;try simp only [nr]
    refine wpList_plain rfl (fun K hK=>?_);go_simp;refine hK _ _ ?_;clear hK K;try simp only [nr]
    refine boxes1 ?_;intro w9 e9 hsz9 BC;have hB9:=hB8.ext e9;have hL9:=hL8.ext e9;have eR9:=eR8.trans e9;have hs9:=e9.size;refine wpList_append_o one_bool rfl _ _ 62 Tryz.underlying62 rfl (by rfl) hB9 (m:=1) (c:=1) (news:=[.bool false]) (by rfl) (by rfl) (one_new BC) (fun u hu=>by rw [List.mem_singleton.1 hu]; rfl) (by omega) (by rw [bls_len]; omega) ?_;rintro g2 cap2 w10 hB10 p10 ⟨g2',hb10,o10,c10,-⟩;try simp only [nr]
    have hL10:=grow_chgB hL9 c10 (by omega) (fun e9=>by
     obtain rfl:g=g2':=by simpa [Value.ownBlock] using e9
     rcases o10 with o10 | o10
     ·rcases p8 with p8 | p8
      ·exact hD.out g p8 o10
      ·have:=(hB.own_lt g o10).2;omega
     ·omega)
    have hD10:Hid (∀ j,(Value.slice (some ⟨g,0,none⟩) (k+1) cap).ownBlock=some j→(Value.slice (some ⟨g2,0,none⟩) ((bls k (kS m n X p)).length+1) cap2).ownBlock≠some j):=fun j hj hj2=>by
     obtain rfl:g=j:=by simpa [Value.ownBlock] using hj
     obtain rfl:g2=g:=by simpa [Value.ownBlock] using hj2
     rcases p10 with p10 | p10
     ·rcases p8 with p8 | p8
      ·exact hD.out g2 p8 p10
      ·have:=(hB.own_lt g2 p10).2;omega
     ·omega
    rw [bls_len] at hD10 hB10 ⊢;have eR10:Ext w2 w10:=c10.ext eR9 hb10
    have hL11:=hL10.congr (y:=zS m n X y p) (fun j hj=>by
     unfold upd
     split
     ·rename_i e; rw [e,HZ.out]; first | done | rfl
     ·rfl)
    have hB11:GrowO 4 w2.heap.size w10 (.slice (some ⟨g2,0,none⟩) (k+1) cap2) (bls (k+1) (kS m n X p)):=by rw [bls_succ,HK.out]; exact hB10
    clear hL hB hL8 hB8 hL9 hB9 hL10 hB10 c8 c10 BB BC e9 hsz9 o8 p8 o10 p10;refine wpList_plain rfl (fun K hK=>?_);go_simp;refine hK _ _ ?_;clear hK K;try simp only [nr]
    refine wpList_plain rfl (fun K hK=>?_);go_simp;refine hK _ _ ?_;clear hK K;try simp only [nr]
    refine wpList_nil ?_;go_wp2;go_roundw
    case rel=>exact⟨k+1,by omega,by go_num,eR10,hL11,hB11,hD10⟩
    case measure=>simp [intOf]; omega
   ·have HZ:Hid (zS m n X y p k=tS m n X y p k):=by rw [Hid]; unfold zS; rw [if_neg h0]
    have HK:Hid (kS m n X p k=true):=by rw [Hid]; unfold kS; simp [h0]
    have H0:=Lib.hid h0;clear h0;go_wp2_with (go_at_call 62; refine Hid.out ?_);refine (sn_statistic hSr HD.out rfl hlt H0.out).mono ?_;rintro e w3 ⟨v8,rfl,h8,e3⟩;obtain⟨nb,A9,n9,c9,A8,n8,c8',rfl,hnb,g9,g8⟩:=RatV.parts h8;replace eR:=eR.trans e3;replace hL:=hL.ext e3;replace hB:=hB.ext e3;have hs3:=eR.size;have HL3:Hid (∀ j,(Value.slice AL k cL).ownBlock=some j→j < w3.heap.size):=fun j hj=>(grow_lt hL hj).2
    have HB3:Hid (∀ j,(Value.slice AB k cB).ownBlock=some j→j < w3.heap.size):=fun j hj=>(hB.own_lt j hj).2
    clear o0 o1 o2 o3 o4 o5 hSr B6r e3 hER;go_upto_region 10 with (fail);refine boxes1 ?_;intro w4 e4 hsz4 B10;replace eR:=eR.trans e4;replace hL:=hL.ext e4;replace hB:=hB.ext e4;obtain⟨g10,hg10⟩:∃ g10,g10=w3.heap.size:=⟨_,rfl⟩
    rw [←hg10] at B10 HL3 HB3 hs3 ⊢;replace g9:=g9.ext e4;replace g8:=g8.ext e4;clear e4 hsz4 hg10 h8;obtain⟨r0,r1,r2,r3,-⟩:=cells4 B10;go_upto_region 12 with (fail);refine wp_region_lit ?_;refine wpList_plain rfl (fun K hK=>?_);go_simp;refine hK _ _ ?_;clear hK K;try simp only [nr]
    refine wpList_plain rfl (fun K hK=>?_);go_simp;refine hK _ _ ?_;clear hK K;try simp only [nr]
    refine wpList_plain rfl (fun K hK=>?_);go_simp;refine hK _ _ ?_;clear hK K;try simp only [nr]
    refine boxes1 ?_;intro w7 e7 hsz7 BB;replace hL:=hL.ext e7;replace hB:=hB.ext e7;replace g9:=g9.ext e7;replace g8:=g8.ext e7;replace eR:=eR.trans e7;clear e7 hsz7 r0 r1 r2 r3;refine wpList_step (fun K hK=>?_);refine step_append_rat_at rfl _ _ 24 Tryz.underlying24 rfl (by rfl) hL (by rfl) BB hnb g9 g8 (by omega) ?_;intro g cap w8 g' hL8 hb8 c8 o8 p8;refine hK _ _ ?_;clear hK K;try simp only [nr]
    have hB8:=hB.far c8 (fun j hj=>by
     rcases o8 with o8 | o8
     ·have h9:j≠g':=fun e9=>hD.out g' o8 (by rw [←e9]; exact hj)
      omega
     ·have:=(hB.own_lt j hj).2
      omega)
    have eR8:Ext w2 w8:=c8.ext eR hb8;have hgl:=(grow_lt hL8 (k:=g) rfl).2;refine wpList_plain rfl (fun K hK=>?_);go_simp;refine hK _ _ ?_;clear hK K;try simp only [nr]
    refine wpList_plain rfl (fun K hK=>?_);go_simp;refine hK _ _ ?_;clear hK K;try simp only [nr]
    refine wpList_plain rfl (fun K hK=>?_);go_simp;refine hK _ _ ?_;clear hK K;try simp only [nr]
    refine boxes1 ?_;intro w9 e9 hsz9 BC;have hB9:=hB8.ext e9;have hL9:=hL8.ext e9;have eR9:=eR8.trans e9;have hs9:=e9.size;refine wpList_append_o one_bool rfl _ _ 62 Tryz.underlying62 rfl (by rfl) hB9 (m:=1) (c:=1) (news:=[.bool true]) (by rfl) (by rfl) (one_new BC) (fun u hu=>by rw [List.mem_singleton.1 hu]; rfl) (by omega) (by rw [bls_len]; omega) ?_;rintro g2 cap2 w10 hB10 p10 ⟨g2',hb10,o10,c10,-⟩;try simp only [nr]
    have hL10:=grow_chgB hL9 c10 (by omega) (fun e9=>by
     obtain rfl:g=g2':=by simpa [Value.ownBlock] using e9
     rcases o10 with o10 | o10
     ·rcases p8 with p8 | p8
      ·exact hD.out g p8 o10
      ·have:=(hB.own_lt g o10).2;omega
     ·omega)
    have hD10:Hid (∀ j,(Value.slice (some ⟨g,0,none⟩) (k+1) cap).ownBlock=some j→(Value.slice (some ⟨g2,0,none⟩) ((bls k (kS m n X p)).length+1) cap2).ownBlock≠some j):=fun j hj hj2=>by
     obtain rfl:g=j:=by simpa [Value.ownBlock] using hj
     obtain rfl:g2=g:=by simpa [Value.ownBlock] using hj2
     rcases p10 with p10 | p10
     ·rcases p8 with p8 | p8
      ·exact hD.out g2 p8 p10
      ·have:=(hB.own_lt g2 p10).2;omega
     ·omega
    rw [bls_len] at hD10 hB10 ⊢;have eR10:Ext w2 w10:=c10.ext eR9 hb10
    have hL11:=hL10.congr (y:=zS m n X y p) (fun j hj=>by
     unfold upd
     split
     ·rename_i e; rw [e,HZ.out]; first | done | rfl
     ·rfl)
    have hB11:GrowO 4 w2.heap.size w10 (.slice (some ⟨g2,0,none⟩) (k+1) cap2) (bls (k+1) (kS m n X p)):=by rw [bls_succ,HK.out]; exact hB10
    clear hL hB hL8 hB8 hL9 hB9 hL10 hB10 c8 c10 BB BC e9 hsz9 o8 p8 o10 p10;refine wpList_plain rfl (fun K hK=>?_);go_simp;refine hK _ _ ?_;clear hK K;try simp only [nr]
    refine wpList_plain rfl (fun K hK=>?_);go_simp;refine hK _ _ ?_;clear hK K;try simp only [nr]
    refine wpList_nil ?_;go_wp2;go_roundw
    case rel=>exact⟨k+1,by omega,by go_num,eR10,hL11,hB11,hD10⟩
    case measure=>simp [intOf]; omega
  ·obtain rfl:m=k:=by omega
   obtain⟨gL,capL,rfl,-⟩:=hL.some hm0;have hLv:LsV N 0 wr.heap.size wr (.slice (some ⟨gL,0,none⟩) m capL) m (zS m n X y p):=hL.lsv (Nat.zero_le _) rfl;have hBv:=bls_blv hB hm0;obtain⟨AB,cB,rfl,-,-⟩:=hBv.form;go_wp2
   first | go_ret3 | skip
   rw [hRf.out];exact⟨_,_,_,_,rfl,hLv,hBv,hER⟩
end Go.Proofs.YthkkknjcoidioaaGreat
