import Derived.Test.YtphpkhoeplcedaaGreatWb15
import Derived.Laws.Rows
import Derived.RunT
import Derived.Calls
import Derived.Shelf.SlSortCmp.WholeK
set_option linter.all false
set_option maxHeartbeats 8000000
set_option maxRecDepth 100000
namespace Go.Proofs.YtphpkhoeplcedaaGreat
open Go.RowKit
variable {w w':World} {N n lo hi k g i c d K:Nat} {v s:Value} {G:Grd} {l:List Nat} {x:Rat} {R:Raw} {A:Option Addr}
def ArV (N:Nat) (w:World) (cs:Array Value) (o:Nat) (R:Raw):Prop :=
 ∃ s t,cs[o]?=some (.bool R.b1)/\cs[o+1]?=some s/\cs[o+2]?=some (.bool R.b2)/\cs[o+3]?=some t/\Gs N w s R.l1/\Gs N w t R.l2
theorem ArV.ext {cs:Array Value} {o:Nat} (h:ArV N w cs o R) (e:Ext w w'):ArV N w' cs o R:=by
 obtain⟨s,t,h1,h2,h3,h4,h5,h6⟩:=h;exact⟨s,t,h1,h2,h3,h4,h5.ext e,h6.ext e⟩
theorem ArV.chg {cs:Array Value} {o:Nat} (h:ArV N w cs o R) (c:Chg lo hi w w') (hN:N<=lo):ArV N w' cs o R:=by
 obtain⟨s,t,h1,h2,h3,h4,h5,h6⟩:=h;exact⟨s,t,h1,h2,h3,h4,h5.chg c hN,h6.chg c hN⟩
theorem ArV.at4 {cs:Array Value} {o:Nat} (h:ArV N w cs o R) {b:Nat} {t:TypeId} {fr:Nat×Nat} (hb:w.heap[b]?=some (.cells cs t fr)):At4 N w b o R:=by
 obtain⟨s,u,h1,h2,h3,h4,h5,h6⟩:=h;exact⟨s,u,by rw [qh hb]; exact h1,by rw [qh hb]; exact h2,by rw [qh hb]; exact h3,by rw [qh hb]; exact h4,h5,h6⟩
def PtV (N:Nat) (w:World) (cs:Array Value) (o:Nat) (p:Nat->Rat):Prop:=∀ i,i < 3->ArV N w cs (o+i*4) (raw (p i))
theorem PtV.ext {cs:Array Value} {o:Nat} {p:Nat->Rat} (h:PtV N w cs o p) (e:Ext w w'):PtV N w' cs o p:=fun i hi=>(h i hi).ext e
structure q15 (N lo hi:Nat) (w:World) (cs:Array Value) (G:Grd) (a b:Nat->Rat):Prop where
 size:cs.size=30
 one:cs.toList.all (·.oneCell')=true
 grid:∃ A c,cs[0]?=some (.int .i64 G.x0)/\cs[1]?=some (.int .i64 G.y0)/\cs[2]?=some (.int .i64 G.st)/\cs[3]?=some (.int .i64 G.wd)/\cs[4]?=some (.int .i64 G.ht)/\cs[5]?=some (.slice A G.n c)/\yg N lo hi w (.agg #[.int .i64 G.x0,.int .i64 G.y0,.int .i64 G.st,.int .i64 G.wd,.int .i64 G.ht,.slice A G.n c]) G
 a:PtV N w cs 6 a
 b:PtV N w cs 18 b
 le:N<=w.heap.size
theorem q15.ext {cs:Array Value} {a b:Nat->Rat} (h:q15 N lo hi w cs G a b) (e:Ext w w'):q15 N lo hi w' cs G a b:=by
 obtain⟨h1,h2,⟨A,c,g1,g2,g3,g4,g5,g6,g7⟩,h4,h5,h6⟩:=h;exact⟨h1,h2,⟨A,c,g1,g2,g3,g4,g5,g6,g7.ext e⟩,h4.ext e,h5.ext e,q_l h6 e.size⟩
def Jk (N:Nat) (w:World) (p:Nat->Rat) (e:Ending) (w':World):Prop :=
 ∃ cs,e=.returned (.agg cs)/\cs.size=12/\cs.toList.all (·.oneCell')=true/\PtV N w' cs 0 p/\Ext w w'
theorem vJ:(Tryz.prog.info? 116).map (·.size)=some 30:=by kernel_rfl
theorem qE:(Tryz.prog.info? 43).map (·.size)=some 12:=by kernel_rfl
theorem qY {ops:Array Oper} {rest:List Oper} {o:Oper} {a:Act} {Q:Exit->Act->World->Prop} (hgd:o.guard=none) (ty:TypeId) (x y:Operand) (ho:o.op=.store ty x y) {cs old:Array Value} {t:TypeId} (hx:a.eval x=.pointer (some ⟨g,0,none⟩)) (hy:a.eval y=.agg cs)
  (hg:w.heap[g]?=some (.cells old t (0,0))) {sz:Nat} (hi:(Tryz.prog.info? ty).map (·.size)=some sz) (hsz:cs.size=sz) (hold:old.size=cs.size) (h1:cs.toList.all (·.oneCell')=true)
  (h:∀ w',w'.heap[g]?=some (.cells cs t (0,0))->Upd g w w'->wpList Tryz.prog ops Q rest (a.put o.dst undef) w'):wpList Tryz.prog ops Q (o :: rest) a w :=
 wpList_plain hgd fun _ hK=>wp_store_row ty x y ho g _ hx hy t _ hg (by rw [hsz]; exact hi) hold (by rw [<-Array.all_toList]; exact h1) (hK _ _ (h _ (setRow_heap w g old cs t (0,0) hg) ⟨rfl,rfl,rfl,by simp [World.setRow],fun k hk=>setRow_other w g k cs hk⟩))
theorem q3Q {cs:Array Value}:cs.toList.all (·.oneCell')=true↔∀ (k:Nat) (v:Value),cs[k]?=some v->v.oneCell'=true:=by
 rw [List.all_eq_true]
 constructor
 ·intro h k v hv;exact h v (by rw [<-Array.getElem?_toList] at hv; exact List.mem_of_getElem? hv)
 ·intro h v hv;obtain⟨k,hk⟩:=List.getElem?_of_mem hv;exact h k v (by rw [<-Array.getElem?_toList]; exact hk)
theorem q3r (h:Gs N w v l):v.oneCell'=true:=by
 obtain⟨A,n,c,rfl,-⟩:=h.form
 rfl
def yU (N:Nat) (w:World) (b i:Nat) (p:Nat->Rat):Prop :=
 ∃ cs,w.heap[b]?=some (.cells cs 43 (0,0))/\cs.size=12/\cs.toList.all (·.oneCell')=true/\∀ j,j < i->ArV N w cs (j*4) (raw (p j))
theorem yU.ext {b:Nat} {p:Nat->Rat} (h:yU N w b i p) (e:Ext w w'):yU N w' b i p:=by
 obtain⟨cs,h1,h2,h3,h4⟩:=h;exact⟨cs,e.block h1,h2,h3,fun j hj=>(h4 j hj).ext e⟩
theorem yU.lt {b:Nat} {p:Nat->Rat} (h:yU N w b i p):b < w.heap.size:=by
 obtain⟨cs,h1,-⟩:=h;exact qJ h1
theorem yU.there {b:Nat} {p:Nat->Rat} (h:yU N w b i p) {o:Nat} (ho:o < 12):∃ u,w.cell? ⟨b,o,none⟩=some u:=by
 obtain⟨cs,h1,h2,-⟩:=h;rw [qh h1];exact⟨_,Array.getElem?_eq_getElem (by omega)⟩
theorem yU.frozen {b:Nat} {p:Nat->Rat} (h:yU N w b i p) (o:Nat):w.frozen? ⟨b,o,none⟩=false:=by
 obtain⟨cs,h1,-⟩:=h;simp [World.frozen?,h1]
theorem yU.set {b:Nat} {p:Nat->Rat} (h:yU N w b i p) (hi:i < 3) (hN:N<=b) {neg:Bool} {t:Value} (hneg:Hid (neg=decide ((p i).num < 0))) (hs:Gs N w s (dg (p i).num.natAbs)) (ht:Gs N w t (dg (p i).den)) :
  ∃ w',(((w.setCell ⟨b,i*4,none⟩ (.bool neg)).setCell ⟨b,i*4+1,none⟩ s).setCell ⟨b,i*4+2,none⟩ (.bool false)).setCell ⟨b,i*4+3,none⟩ t=w'/\Chg b (b+1) w w'/\w'.heap.size=w.heap.size/\yU N w' b (i+1) p:=by
 obtain⟨cs,h1,h2,h3,h4⟩:=h;obtain⟨w',cs',e1,u,k1,k2,k3,k4,k5,k6,k7⟩:=st4 h1 (o:=i*4) (by omega) (.bool neg) s (.bool false) t;have hc:Chg b (b+1) w w':=u.chg (NoU.mk h1 (by decide));refine⟨w',e1,hc,u.size,cs',k1,by omega,?_,fun j hj=>?_⟩
 ·rw [q3Q] at h3 ⊢;intro k v hv
  by_cases hk:k < i*4\/i*4+4<=k
  ·rw [k3 k hk] at hv; exact h3 k v hv
  ·have hk':k=i*4\/k=i*4+1\/k=i*4+2\/k=i*4+3:=by omega
   rcases hk' with rfl | rfl | rfl | rfl
   ·rw [k4] at hv; cases hv; rfl
   ·rw [k5] at hv; cases hv; exact q3r hs
   ·rw [k6] at hv; cases hv; rfl
   ·rw [k7] at hv; cases hv; exact q3r ht
 ·rcases Nat.lt_or_ge j i with hji | hji
  ·obtain⟨s',t',q1,q2,q3,q4,q5,q6⟩:=h4 j hji;exact⟨s',t',by rw [k3 _ (.inl (by omega))]; exact q1,by rw [k3 _ (.inl (by omega))]; exact q2,by rw [k3 _ (.inl (by omega))]; exact q3,by rw [k3 _ (.inl (by omega))]; exact q4,q5.chg hc hN,q6.chg hc hN⟩
  ·obtain rfl:j=i:=by omega
   exact⟨s,t,by rw [k4,hneg.out]; rfl,k5,k6,k7,hs.chg hc hN,ht.chg hc hN⟩
theorem o_at {cs:Array Value} {vt:Value} {a b:Nat->Rat} {t:Rat} (hs:q15 N lo hi w cs G a b) (ht:qm N w vt t) (hka:∀ i,i < 3->Ht K (a i)) (hkb:∀ i,i < 3->Ht K (b i)) (hkt:Ht K t) (hK:K<=10000000) :
  Calls Tryz.prog 115 #[.agg cs,vt] w (Jk N w (fun i=>lin (a i) (b i) t)):=by
 have hN:=ht.le;have HS:=q_h hs;have HT:=q_h ht;obtain⟨m1,X1,i1,d1,X2,i2,d2,rfl,hm1,gx1,gx2⟩:=ht.parts;obtain⟨p,hp⟩:=qf (fun i=>lin (a i) (b i) t);rw [<-hp.out];clear ht gx1 gx2;have HA:=q_h hka;have HB:=q_h hkb;have HKT:=q_h hkt;clear hka hkb hs hkt;go_enter Tryz.func115,Tryz.ntmps115;go_upto_region 1 with (fail);refine zW ?_;intro W hE hsz B0 B1 B2;have hU:yU N W (w.heap.size+1+1) 0 p:=⟨_,B2,rfl,rfl,fun j hj=>absurd hj (by omega)⟩
 clear B2;have HC:=q_h B0;have HD:=q_h B1;clear B0 B1;go_wp2
 go_loopw [6] (fun iv wr=>∃ i:Nat,i<=3/\iv=.int .i64 i/\yU N wr (w.heap.size+1+1) i p/\Chg (w.heap.size+1+1) (w.heap.size+1+1+1) W wr) (fun iv _=>3 - (intOf iv).toNat)
 case atStart=>exact⟨0,by omega,rfl,hU,Chg.refl _ _ _⟩
 case round =>
  clear hU;obtain⟨i,hi,rfl,hU,hC⟩:=hrel;have hEr:Ext w wr:=hC.ext hE (by omega);have hlt:w.heap.size+1+1 < wr.heap.size:=hU.lt
  by_cases hi3:i < 3
  case neg =>
   obtain rfl:i=3:=by omega
   obtain⟨c0,k1,k2,k3,k4⟩:=hU;have HK4:=q_h k4;have K2:=q_h k2;have hq1:decide (((3:Nat):Int) < 3)=false:=by decide
   clear k4 k2;go_upto_region 6 with (fail);refine wp_region_lit ?_;refine wpList_load_row rfl 43 _ rfl _ (by rfl) _ c0 _ _ k1 Tryz.underlying43 rfl (by rw [K2.out]; exact qE) ?_;try simp only [nr]
   refine qY rfl 43 _ _ rfl (by rfl) (by rfl) k1 qE K2.out (Eq.trans (K2.out) (Eq.symm (K2.out))) k3 ?_;try simp only [nr]
   intro w9 B9 U9;go_wp2;refine bodyPost_ret (results_cell_row rfl _ _ _ _ _ _ _ rfl B9 Tryz.underlying43 rfl (by rw [K2.out]; exact qE)) rfl ?_;exact⟨c0,rfl,K2.out,k3,fun j hj=>by rw [Nat.zero_add]; exact (HK4.out j hj).chg (U9.chg (NoU.mk k1 (by decide))) (by omega),U9.ext hEr (by omega)⟩
  have B0:=hC.blk HC.out (.inl (by omega));have B1:=hC.blk HD.out (.inl (by omega));have hi3':(i:Int) < 3:=by omega
  obtain⟨x0,x1,x2,x3,-⟩:=cells4 B1;have hRx:=HT.out.ext hEr;have hPa:At4 N wr w.heap.size (6+i*4) (raw (a i)):=((HS.out.a i hi3).ext hEr).at4 B0;have hPb:At4 N wr w.heap.size (18+i*4) (raw (b i)):=((HS.out.b i hi3).ext hEr).at4 B0;obtain⟨Ap,np,cp,A'p,n'p,c'p,p0,p1,p2,p3,hRp⟩:=hPa.val;obtain⟨Aq,nq,cq,A'q,n'q,c'q,q0,q1,q2,q3,hRq⟩:=hPb.val;have hAi:=HA.out i hi3;have hBi:=HB.out i hi3;have hD1:Ht (K+K+1) (b i - a i):=hBi.sub hAi;have hM1:Ht (K+(K+K+1)) (t*(b i - a i)):=HKT.out.mul hD1;have HSA:Hid (Sz (a i)):=hAi.sz (by omega);have HSB:Hid (Sz (b i)):=hBi.sz (by omega);have HST:Hid (Sz t):=HKT.out.sz (by omega);have HSD:Hid (Sz (b i - a i)):=hD1.sz (by omega);have HSM:Hid (Sz (t*(b i - a i))):=hM1.sz (by omega);have HPI:Hid (p i=a i+t*(b i - a i)):=by rw [hp.out]; rfl
  clear hAi hBi hD1 hM1 hPa hPb B0 B1;go_upto_region 4 with (fail);refine xe [Mn.i (i:Int),Mn.i (i:Int),Mn.q w.heap.size 6,Mn.q w.heap.size (6+i*4),Mn.rat N (a i),Mn.rat N (t),Mn.i (i:Int),Mn.q w.heap.size 18,Mn.q w.heap.size (18+i*4),Mn.rat N (b i),Mn.i (i:Int),Mn.q w.heap.size 6,Mn.q w.heap.size (6+i*4),Mn.rat N (a i),Mn.rat N (b i - a i),Mn.rat N (t*(b i - a i)),Mn.rat N (a i+t*(b i - a i)),Mn.q (w.heap.size+1+1) (i*4),Mn.any] [some 9,some 10,some 11,some 12,some 13,some 14,some 15,some 16,some 17,some 18,some 19,some 20,some 21,some 22,some 23,some 24,some 25,some 26,none] [18] (rQ 18 1) 1 (by kernel_rfl) ?_ ?_
  ·show ∀ i,i < 19->_
   iterate 19 refine fs ?_ ?_
   ·exact fz
   all_goals intro hl; first | exact absurd hl (by decide) | (clear hl; refine stp rfl ?_; intro ac wi eI hB hA K hK)
   have o5:=oOf (hB 5) rfl
   rotate_left
   have o5:=oOf (hB 5) rfl
   rotate_left
   have o2:=oOf (hB 2) rfl
   rotate_left
   obtain⟨_,s11,rfl⟩:=hA 2 11;obtain⟨_,s10,rfl⟩:=hA 1 10
   rotate_left
   obtain⟨_,s12,rfl⟩:=hA 3 12;clear hB hA;have cc0:=eI.cell p0;have cc1:=eI.cell p1;have cc2:=eI.cell p2;have cc3:=eI.cell p3
   ·go_simp;exact q_k hK (hRp.ext eI)
   have o3:=oOf (hB 3) rfl;clear hB hA;have cc0:=eI.cell x0;have cc1:=eI.cell x1;have cc2:=eI.cell x2;have cc3:=eI.cell x3
   ·go_simp;exact q_k hK (hRx.ext eI)
   have o5:=oOf (hB 5) rfl
   rotate_left
   have o2:=oOf (hB 2) rfl
   rotate_left
   obtain⟨_,s16,rfl⟩:=hA 7 16;obtain⟨_,s15,rfl⟩:=hA 6 15
   rotate_left
   obtain⟨_,s17,rfl⟩:=hA 8 17;clear hB hA;have cc0:=eI.cell q0;have cc1:=eI.cell q1;have cc2:=eI.cell q2;have cc3:=eI.cell q3
   ·go_simp;exact q_k hK (hRq.ext eI)
   have o5:=oOf (hB 5) rfl
   rotate_left
   have o2:=oOf (hB 2) rfl
   rotate_left
   obtain⟨_,s20,rfl⟩:=hA 11 20;obtain⟨_,s19,rfl⟩:=hA 10 19
   rotate_left
   obtain⟨_,s21,rfl⟩:=hA 12 21;clear hB hA;have cc0:=eI.cell p0;have cc1:=eI.cell p1;have cc2:=eI.cell p2;have cc3:=eI.cell p3
   ·go_simp;exact q_k hK (hRp.ext eI)
   obtain⟨x18,s18,j18⟩:=hA 9 18;replace j18:Mn.p (Mn.rat N (b i)) x18 wi:=j18;obtain⟨x22,s22,j22⟩:=hA 13 22;replace j22:Mn.p (Mn.rat N (a i)) x22 wi:=j22;clear hB hA
   ·go_simp;refine (vF j18 j22 HSB.out HSA.out).mono ?_;rintro e wj ⟨vj,rfl,hj,ej⟩;go_wp2_with fail;exact hK.out _ _ ej hj
   obtain⟨x14,s14,j14⟩:=hA 5 14;replace j14:Mn.p (Mn.rat N (t)) x14 wi:=j14;obtain⟨x23,s23,j23⟩:=hA 14 23;replace j23:Mn.p (Mn.rat N (b i - a i)) x23 wi:=j23;clear hB hA
   ·go_simp;refine (QR j14 j23 HST.out HSD.out).mono ?_;rintro e wj ⟨vj,rfl,hj,ej⟩;go_wp2_with fail;exact hK.out _ _ ej hj
   obtain⟨x13,s13,j13⟩:=hA 4 13;replace j13:Mn.p (Mn.rat N (a i)) x13 wi:=j13;obtain⟨x24,s24,j24⟩:=hA 15 24;replace j24:Mn.p (Mn.rat N (t*(b i - a i))) x24 wi:=j24;clear hB hA
   ·go_simp;refine (XD j13 j24 HSA.out HSM.out).mono ?_;rintro e wj ⟨vj,rfl,hj,ej⟩;go_wp2_with fail;exact hK.out _ _ ej hj
   have o4:=oOf (hB 4) rfl;obtain⟨_,s9,rfl⟩:=hA 0 9
   rotate_left
   all_goals clear hB hA; go_simp; exact q_k hK rfl
  intro vals wz eZ hJ;have J25:Mn.p (Mn.rat N (a i+t*(b i - a i))) (vals 16) wz:=hJ 16 (by decide) (by decide);have J26:vals 17=_:=hJ 17 (by decide) (by decide);clear hJ;simp only [pr,Nat.reduceAdd,J26];clear J26
  generalize vals 16=z25 at J25 ⊢
  obtain⟨bz,Az,kz,cz,Az',kz',cz',rfl,hbz,gz1,gz2⟩:=qm.parts J25;replace hU:=hU.ext eZ;obtain⟨u0,v0⟩:=hU.there (o:=i*4) (by omega);obtain⟨u1,v1⟩:=hU.there (o:=i*4+1) (by omega);obtain⟨u2,v2⟩:=hU.there (o:=i*4+2) (by omega);obtain⟨u3,v3⟩:=hU.there (o:=i*4+3) (by omega);have f0:=hU.frozen (i*4);have f1:=hU.frozen (i*4+1);have f2:=hU.frozen (i*4+2);have f3:=hU.frozen (i*4+3);refine qi (i:=18) rfl (by kernel_rfl) (by kernel_rfl) (fun K hK=>?_);go_simp;refine hK.out _ _ ?_;clear hK K;try simp only [nr]
  refine qg (by kernel_rfl) ?_ _;rw [<-HPI.out] at hbz gz1 gz2;obtain⟨w9,E9,C9,S9,hU9⟩:=hU.set hi3 (by omega) hbz gz1 gz2;rw [E9];go_wp2;go_roundw
  case rel=>exact⟨i+1,by omega,by go_num,hU9,(hC.trans (eZ.chg _ _)).trans C9⟩
  case measure=>simp [intOf]; omega
theorem V4 {x0 st:Int} (h0 : -100000000<=x) (h1:x<=100000000) (hx0 : -1048576<=x0) (hx1:x0<=1048576) (hst:2<=st):(flo (kJ x x0 st)).natAbs < 1000000000:=by
 rw [jV];have k0:((-1048576:Int):Rat)<=(x0:Rat):=Rat.intCast_le_intCast.2 hx0;have k1:(x0:Rat)<=((1048576:Int):Rat):=Rat.intCast_le_intCast.2 hx1;have k2:((2:Int):Rat)<=(st:Rat):=Rat.intCast_le_intCast.2 hst;have e0:((-1048576:Int):Rat) = -1048576:=rfl;have e1:((1048576:Int):Rat)=1048576:=rfl;have e2:((2:Int):Rat)=2:=rfl;rw [e0] at k0;rw [e1] at k1;rw [e2] at k2;have hq:kJ x x0 st*(st:Rat)=x - (x0:Rat):=by unfold kJ; exact Rat.div_mul_cancel (by grind)
 generalize kJ x x0 st=q at hq
 have u:q < ((200000000:Int):Rat):=by
  have e3:((200000000:Int):Rat)=200000000:=rfl;rw [e3]
  apply Classical.byContradiction
  intro h;have:=xx (a:=q - 200000000) (b:=(st:Rat)) (by grind) (by grind)
  grind
 have l:((-200000000:Int):Rat)<=q:=by
  have e3:((-200000000:Int):Rat) = -200000000:=rfl;rw [e3]
  apply Classical.byContradiction
  intro h;have:=xx (a:=-200000000 - q) (b:=(st:Rat)) (by grind) (by grind)
  grind
 have h2:=Rat.floor_lt_iff.2 u;have h3:=Rat.le_floor_iff.2 l;omega
theorem q52 {p q t B:Rat} (h0:0<=t) (h1:t<=1) (hp : -B<=p/\p<=B) (hq : -B<=q/\q<=B) : -B<=lin p q t/\lin p q t<=B:=by
 have e:lin p q t=(1 - t)*p+t*q:=by unfold lin; grind
 have k1:=xx (a:=1 - t) (b:=B - p) (by grind) (by grind);have k2:=xx (a:=t) (b:=B - q) h0 (by grind);have k3:=xx (a:=1 - t) (b:=p+B) (by grind) (by grind);have k4:=xx (a:=t) (b:=q+B) h0 (by grind)
 constructor <;> grind
theorem Zt {p q t:Rat} (hp:Ht K p) (hq:Ht K q) (ht:Ht K t):Ht (4*K+2) (lin p q t):=by
 unfold lin;exact (hp.add (ht.mul (hq.sub hp))).mono (by omega)
theorem q0r (hG:GOk G) {y h:Rat} (hx:Ht K x) (hy:Ht K y) (hh:XN G x y=some h):Ht (2*K+200) h:=by
 obtain⟨i,j,r,hr,ht,rfl⟩:=vN hh;have hX:Ht (K+39) (kJ x G.x0 G.st):=((hx.sub (qp (m:=21) (by have:=hG.x0; have:=hG.x1; omega) (by omega))).div (qp (m:=17) (by have:=hG.s0; have:=hG.s1; omega) (by omega))).mono (by omega);have hY:Ht (K+39) (kJ y G.y0 G.st):=((hy.sub (qp (m:=21) (by have:=hG.y0; have:=hG.y1; omega) (by omega))).div (qp (m:=17) (by have:=hG.s0; have:=hG.s1; omega) (by omega))).mono (by omega);have hI:Ht 7 (i:Rat):=qp (m:=7) (by have:=ht.i0; have:=ht.i1; have:=hG.w1; omega) (by omega);have hJ:Ht 7 (j:Rat):=qp (m:=7) (by have:=ht.j0; have:=ht.j1; have:=hG.h1; omega) (by omega);have b0:=q2L hG ht.i0 (by have:=ht.i1; omega) ht.j0 (by have:=ht.j1; omega) ht.z0;have b1:=q4C hG (r:=r) ht.i0 ht.i1 ht.j0 ht.j1 ht.z1;have b2:=q2L hG (i:=i+1) (j:=j+1) (by have:=ht.i0; omega) (by have:=ht.i1; omega) (by have:=ht.j0; omega) (by have:=ht.j1; omega) ht.z2;unfold plT;have k1:Ht (K+47) (fiR (kJ x G.x0 G.st - i) (kJ y G.y0 G.st - j) r):=q5m ((hX.sub hI).mono (by omega)) ((hY.sub hJ).mono (by omega));have k2:Ht (K+47) (seR (kJ x G.x0 G.st - i) (kJ y G.y0 G.st - j) r):=q4J ((hX.sub hI).mono (by omega)) ((hY.sub hJ).mono (by omega));have q1:=k1.mul (qp (k:=thR G i j r - zAt G i j) (m:=22) (by omega) (by omega));have q2:=k2.mul (qp (k:=zAt G (i+1) (j+1) - thR G i j r) (m:=22) (by omega) (by omega))
 exact (((qp (k:=zAt G i j) (m:=22) (by omega) (by omega)).add q1).add q2).mono (by omega)
theorem q2n (hG:GOk G) {a b:Nat->Rat} (ha:∀ i,i < 3->Ht K (a i)) (hb:∀ i,i < 3->Ht K (b i)) {t:Rat} (ht:Ht K t) (h:exF G a b t=some x):Ht (12*K+300) x:=by
 unfold exF at h;obtain⟨q,hq,rfl⟩:=Option.map_eq_some_iff.1 h;exact ((q0r hG (Zt (ha 0 (by omega)) (hb 0 (by omega)) ht) (Zt (ha 1 (by omega)) (hb 1 (by omega)) ht) hq).sub (Zt (ha 2 (by omega)) (hb 2 (by omega)) ht)).mono (by omega)
structure SOk (G:Grd) (K:Nat) (a b:Nat->Rat):Prop where
 g:GOk G
 ka:∀ i,i < 3->Ht K (a i)
 kb:∀ i,i < 3->Ht K (b i)
 ba:∀ i,i < 3->-100000000<=a i/\a i<=100000000
 bb:∀ i,i < 3->-100000000<=b i/\b i<=100000000
def RetEx (N:Nat) (w:World) (o:Option Rat) (e:Ending) (w':World):Prop:=∃ v q,e=.returned (.tuple #[v,.bool o.isSome])/\(∀ x,o=some x->x=q)/\qm N w' v q/\Ext w w'
theorem Qs {cs:Array Value} {vt:Value} {a b:Nat->Rat} {t:Rat} (hs:q15 N lo hi w cs G a b) (ht:qm N w vt t) (hok:SOk G K a b) (hkt:Ht K t) (hK:K<=100000) (h0:0<=t) (h1:t<=1) :
  Calls Tryz.prog 62 #[.agg cs,vt] w (RetEx N w (exF G a b t)):=by
 have hN:=ht.le;have HS:=q_h hs;have HT:=q_h ht;obtain⟨m1,X1,i1,d1,X2,i2,d2,rfl,hm1,gx1,gx2⟩:=ht.parts;obtain⟨o,ho⟩:=qf (exF G a b t);obtain⟨p,hp⟩:=qf (fun i=>lin (a i) (b i) t);rw [<-ho.out];clear ht gx1 gx2;have HO:=q_h hok
 have HP:Hid (∀ i,i < 3->Ht (4*K+2) (p i)/\-100000000<=p i/\p i<=100000000):=by
  rw [hp.out];exact fun i hi=>⟨Zt (hok.ka i hi) (hok.kb i hi) hkt,q52 h0 h1 (hok.ba i hi) (hok.bb i hi)⟩
 have HH:Hid (o=(XN G (p 0) (p 1)).map (fun h=>h - p 2)):=by rw [Hid,ho.out,hp.out]; rfl
 have HKT:=q_h hkt;clear hs hok hkt ho h0 h1;go_enter Tryz.func62,Tryz.ntmps62;go_upto_region 1 with (fail);refine zW ?_;intro W hE hsz B0 B1 B2;obtain⟨x0,x1,x2,x3,-⟩:=cells4 B1;have SZ:=q_h HS.out.size;refine wp_region_lit ?_;refine wpList_load_row rfl 116 _ rfl _ (by rfl) _ cs _ _ B0 Tryz.underlying116 rfl (by rw [SZ.out]; exact vJ) ?_;try simp only [nr]
 go_wp2_with (go_at_call 115; refine q_o ?_);refine (o_at (HS.out.ext hE) (HT.out.ext hE) HO.out.ka HO.out.kb HKT.out (by omega)).mono ?_;rw [<-hp.out];rintro e w1 ⟨ca,rfl,hcp,hco,hpt,e1⟩
 rename_i K9 hK9
 refine hK9 _ _ ?_;clear hK9 K9;try simp only [nr]
 have HCP:=q_h hcp;clear hcp;replace B0:=e1.block B0;replace B1:=e1.block B1;replace B2:=e1.block B2;replace hE:=hE.trans e1;replace hsz:=q_l hsz e1.size;clear x0 x1 x2 x3 e1;refine wpList_plain rfl (fun K hK=>?_);go_simp;refine hK _ _ ?_;clear hK K;try simp only [nr]
 refine ql ?_;intro w2 e2 hsz2 B3;refine qY rfl 43 _ _ rfl (by rfl) (by rfl) B3 qE HCP.out (Eq.trans ((by rfl:Array.size _=12)) (Eq.symm (HCP.out))) hco ?_;try simp only [nr]
 intro w3 B3' U3;obtain⟨g6,hg6⟩:∃ g6,g6=w1.heap.size:=⟨_,rfl⟩
 rw [<-hg6] at B3' U3 hsz2 ⊢;have C3:=U3.chg (NoU.mk (hg6 ▸ B3) (by decide));have hg6':w.heap.size+3<=g6:=by omega
 have hE3:Ext w1 w3:=C3.ext e2 (by omega);replace B0:=hE3.block B0;replace B1:=hE3.block B1;replace B2:=hE3.block B2;replace hpt:=hpt.ext hE3;replace hE:=hE.trans hE3;have hl3:g6 < w3.heap.size:=qJ B3';clear B3 U3 C3 e2 hg6 hE3 hsz hsz2;refine wpList_nil ?_;go_upto_region 2 with (fail);obtain⟨Ag,cg,g0,g1,g2,g3,g4,g5,hgr⟩:=HS.out.grid;replace hgr:=hgr.ext hE;obtain⟨np,Ap,kp,cp,A'p,k'p,c'p,p0,p1,p2,p3,hRp⟩:=((hpt 0 (by omega)).at4 B3').opn;obtain⟨nq,Aq,kq,cq,A'q,k'q,c'q,q0,q1,q2,q3,hRq⟩:=((hpt 1 (by omega)).at4 B3').opn;simp only [Nat.zero_add,Nat.zero_mul,Nat.one_mul,Nat.reduceAdd] at p0 p1 p2 p3 q0 q1 q2 q3;rw [<-qh B0] at g0 g1 g2 g3 g4 g5;obtain⟨h,hh⟩:=qf (XN G (p 0) (p 1));rw [<-hh.out] at HH;go_wp2_with (go_at_call 51; refine q_o ?_);refine (YE hgr HO.out.g hRp hRq (HP.out 0 (by omega)).1 (HP.out 1 (by omega)).1 (by omega) (V4 (HP.out 0 (by omega)).2.1 (HP.out 0 (by omega)).2.2 HO.out.g.x0 HO.out.g.x1 HO.out.g.s0) (V4 (HP.out 1 (by omega)).2.1 (HP.out 1 (by omega)).2.2 HO.out.g.y0 HO.out.g.y1 HO.out.g.s0)).mono ?_;rw [<-hh.out];cases h with
 | some x =>
  have HO2:Hid (o=some (x - p 2)):=HH.out;rintro e w4 ⟨v,rfl,hv,e4⟩;obtain⟨bv,Av,kv,cv,A'v,k'v,c'v,rfl,hbv,yv,zv⟩:=hv.parts;have HX:Hid (Sz x):=(q0r HO.out.g (HP.out 0 (by omega)).1 (HP.out 1 (by omega)).1 hh.out.symm).sz (by omega);go_upto_region 3 with (fail);refine ql ?_;intro w5 e5 hsz5 B4;have B3'':=e5.block (e4.block B3');have B2':=e5.block (e4.block B2);obtain⟨r0,r1,r2,r3,-⟩:=cells4 B4;obtain⟨nm,Am,km,cm,A'm,k'm,c'm,m0,m1,m2,m3,hRm⟩:=(((hpt 2 (by omega)).ext (e4.trans e5)).at4 B3'').opn;simp only [Nat.zero_add,Nat.reduceMul,Nat.reduceAdd] at m0 m1 m2 m3;go_wp2_with (go_at_call 101; refine q_o ?_);refine (vF (hv.ext e5) hRm HX.out ((HP.out 2 (by omega)).1.sz (by omega))).mono ?_;intro e w6 hh6;obtain⟨br,Ar,kr,cr,A'r,k'r,c'r,rfl,hbr,yr,zr,e6⟩:=hh6.form;replace B2':=e6.block B2';have hE6:=((hE.trans e4).trans e5).trans e6;clear r0 r1 r2 r3 m0 m1 m2 m3;obtain⟨s0,s1,s2,s3,t0,t1,t2,t3⟩:=cells4 B2';go_wp2;obtain⟨wR,ER,FR,UR⟩:=ex4 B2' (.bool br) (.slice Ar kr cr) (.bool false) (.slice A'r k'r c'r);rw [ER];have hTR:=NoU.mk B2' (by decide);obtain⟨v0,v1,v2,v3,-⟩:=cells4 FR;have hEF:Ext w wR:=UR.ext hE6 (by omega);have hRR:qm N wR _ _:=qm.mk hbr (yr.upd UR (by omega) hTR) (zr.upd UR (by omega) hTR);refine bodyPost_ret (v:=.tuple #[.agg #[.bool br,.slice Ar kr cr,.bool false,.slice A'r k'r c'r],.bool true]) ?_ rfl ?_
  ·simp [results,Tryz.results62,v0,v1,v2,v3,go_sem]
  rw [HO2.out];exact⟨_,_,rfl,fun y hy=>(Option.some.inj hy).symm,hRR,hEF⟩
 | none =>
  have HO2:Hid (o=none):=HH.out;rintro e w4 ⟨rfl,e4⟩;have hv:Jl N w4 jc 0:=Jl.nil (q_l (by have:=hE.size; omega:N<=w3.heap.size) e4.size);go_upto_region 3 with (fail);refine ql ?_;intro w5 e5 hsz5 B4;have B3'':=e5.block (e4.block B3');have B2':=e5.block (e4.block B2);obtain⟨r0,r1,r2,r3,-⟩:=cells4 B4;obtain⟨nm,Am,km,cm,A'm,k'm,c'm,m0,m1,m2,m3,hRm⟩:=(((hpt 2 (by omega)).ext (e4.trans e5)).at4 B3'').opn;simp only [Nat.zero_add,Nat.reduceMul,Nat.reduceAdd] at m0 m1 m2 m3;go_wp2_with (go_at_call 101; refine q_o ?_);refine (q4S (hv.ext e5) hRm (zT (k:=0) (by decide)) ((HP.out 2 (by omega)).1.sz (by omega))).mono ?_;intro e w6 hh6;obtain⟨br,Ar,kr,cr,A'r,k'r,c'r,rfl,hbr,yr,zr,e6⟩:=hh6.form;replace B2':=e6.block B2';have hE6:=((hE.trans e4).trans e5).trans e6;clear r0 r1 r2 r3 m0 m1 m2 m3;obtain⟨s0,s1,s2,s3,t0,t1,t2,t3⟩:=cells4 B2';go_wp2;obtain⟨wR,ER,FR,UR⟩:=ex4 B2' (.bool br) (.slice Ar kr cr) (.bool false) (.slice A'r k'r c'r);rw [ER];have hTR:=NoU.mk B2' (by decide);obtain⟨v0,v1,v2,v3,-⟩:=cells4 FR;have hEF:Ext w wR:=UR.ext hE6 (by omega);have hRR:qm N wR _ _:=qm.mk hbr (yr.upd UR (by omega) hTR) (zr.upd UR (by omega) hTR);refine bodyPost_ret (v:=.tuple #[.agg #[.bool br,.slice Ar kr cr,.bool false,.slice A'r k'r c'r],.bool false]) ?_ rfl ?_
  ·simp [results,Tryz.results62,v0,v1,v2,v3,go_sem]
  rw [HO2.out];exact⟨_,_,rfl,fun y hy=>(by cases hy),hRR,hEF⟩
theorem jf {p:Nat->Rat} {x0 x1 x2 x3 y0 y1 y2 y3 z0 z1 z2 z3:Value} (h0:qm N w (.agg #[x0,x1,x2,x3]) (p 0)) (h1:qm N w (.agg #[y0,y1,y2,y3]) (p 1)) (h2:qm N w (.agg #[z0,z1,z2,z3]) (p 2)) :
  PtV N w #[x0,x1,x2,x3,y0,y1,y2,y3,z0,z1,z2,z3] 0 p:=by
 obtain⟨s,t,e,g1,g2⟩:=h0;injection e with e
 simp only [Array.mk.injEq,List.cons.injEq,and_true] at e;obtain⟨rfl,rfl,rfl,rfl⟩:=e;obtain⟨s',t',e,g3,g4⟩:=h1;injection e with e
 simp only [Array.mk.injEq,List.cons.injEq,and_true] at e;obtain⟨rfl,rfl,rfl,rfl⟩:=e;obtain⟨s'',t'',e,g5,g6⟩:=h2;injection e with e
 simp only [Array.mk.injEq,List.cons.injEq,and_true] at e;obtain⟨rfl,rfl,rfl,rfl⟩:=e;intro i hi;have hi':i=0\/i=1\/i=2:=by omega
 rcases hi' with rfl | rfl | rfl
 ·exact⟨_,_,rfl,rfl,rfl,rfl,g1,g2⟩
 ·exact⟨_,_,rfl,rfl,rfl,rfl,g3,g4⟩
 ·exact⟨_,_,rfl,rfl,rfl,rfl,g5,g6⟩
structure UV (N:Nat) (w:World) (gS gT:Nat) (G:Grd):Prop where
 cs:∃ cs:Array Value,w.heap[gS]?=some (.cells cs 116 (0,0))/\cs[0]?=some (.int .i64 G.x0)/\cs[1]?=some (.int .i64 G.y0)
 st:jL N w gT ((G.st:Int):Rat)
theorem UV.ext {gS gT:Nat} (h:UV N w gS gT G) (e:Ext w w'):UV N w' gS gT G:=by
 obtain⟨⟨cs,h1,h2,h3⟩,h4⟩:=h;exact⟨⟨cs,e.block h1,h2,h3⟩,h4.ext e⟩
theorem UV.chg {gS gT:Nat} (h:UV N w gS gT G) (c:Chg lo hi w w') (hN:N<=lo) (h1:gS < lo) (h2:gT < lo):UV N w' gS gT G:=by
 obtain⟨⟨cs,k1,k2,k3⟩,k4⟩:=h;exact⟨⟨cs,c.blk k1 (.inl h1),k2,k3⟩,k4.chg c hN (.inl h2)⟩
theorem o_u {gS gT:Nat} {cp:Array Value} {p:Nat->Rat} (h:UV N w gS gT G) (hp:PtV N w cp 0 p) (hsz:cp.size=12) (hG:GOk G) (hk:Ht K (p 0)) (hK:K<=1000000) :
  Calls Tryz.prog 165 #[.agg cp,.pointer (some ⟨gS,0,none⟩),.pointer (some ⟨gT,0,none⟩)] w (yJ N w (sx G (p 0))):=by
 have hN:N<=w.heap.size:=by obtain⟨s,t,-,-,-,-,hs,-⟩:=hp 0 (by omega); exact hs.1
 have HU:=q_h h;have HP:=q_h hp;have HZ:=q_h hsz;have HST:Hid (((G.st:Int):Rat)≠0):=by have:=hG.s0; rw [Hid,Ne,Rat.intCast_eq_zero_iff]; omega
 have HSS:Hid (Sz ((G.st:Int):Rat)):=zT (by have:=hG.s0; have:=hG.s1; omega);have HS0:Hid (Sz (p 0)):=hk.sz (by omega);have HS1:Hid (Sz (p 0 - ((G.x0:Int):Rat))):=(hk.sub (qp (m:=21) (by have:=hG.x0; have:=hG.x1; omega) (by omega))).sz (by omega);have b0:=hG.x0;have b1:=hG.x1;obtain⟨q,hq⟩:=qf (sx G (p 0));rw [<-hq.out];clear h hp hsz hG hk;go_enter Tryz.func165,Tryz.ntmps165;go_upto_region 1 with (fail);refine kE ?_;intro W hE hsz B0 B1;obtain⟨⟨cs,c0,c1,c2⟩,hB⟩:=HU.out.ext hE;rw [<-qh c0] at c1 c2;obtain⟨ns,As,ks,cs,A's,k's,c's,Bs,hbs,ys,zs⟩:=hB;obtain⟨s0,s1,s2,s3,-⟩:=cells4 Bs;have hRs:qm N W (.agg #[.bool ns,.slice As ks cs,.bool false,.slice A's k's c's]) (((G.st:Int):Rat)):=qm.mk hbs ys zs;obtain⟨na,Aa,ka,ca,A'a,k'a,c'a,a0,a1,a2,a3,hRa⟩:=(((HP.out 0 (by omega)).ext hE).at4 B0).opn;simp only [Nat.zero_add,Nat.zero_mul,Nat.one_mul,Nat.reduceAdd] at a0 a1 a2 a3;clear hbs ys zs Bs c0;obtain⟨r0,r1,r2,r3,r4,r5,r6,r7⟩:=cells4 B1;refine xe [Mn.q w.heap.size 0,Mn.rat N (p 0),Mn.q gS 0,Mn.q gS 0,Mn.i G.x0,Mn.rat N ((G.x0:Int):Rat),Mn.rat N (p 0 - ((G.x0:Int):Rat)),Mn.rat N (((G.st:Int):Rat)),Mn.rat N q,Mn.any] [some 5,some 6,some 7,some 8,some 9,some 10,some 11,some 12,some 13,none] [9] (rQ 9 1) 1 (by kernel_rfl) ?_ ?_
 ·show ∀ i,i < 10->_
  iterate 10 refine fs ?_ ?_
  ·exact fz
  all_goals intro hl; first | exact absurd hl (by decide) | (clear hl; refine stp rfl ?_; intro ac wi eI hB hA K hK)
  have o3:=oOf (hB 3) rfl
  rotate_left
  obtain⟨_,s5,rfl⟩:=hA 0 5;clear hB hA;have cc0:=eI.cell a0;have cc1:=eI.cell a1;have cc2:=eI.cell a2;have cc3:=eI.cell a3
  ·go_simp;exact q_k hK (hRa.ext eI)
  have o1:=oOf (hB 1) rfl
  rotate_left
  obtain⟨_,s7,rfl⟩:=hA 2 7
  rotate_left
  obtain⟨_,s8,rfl⟩:=hA 3 8;have cc0:=eI.cell c1
  rotate_left
  obtain⟨_,s9,rfl⟩:=hA 4 9;clear hB hA
  ·go_simp;refine (qQ (q_l (by omega:N<=W.heap.size) eI.size) G.x0 (by omega) (by omega)).mono ?_;rintro e wj ⟨vj,rfl,hj,ej⟩;go_wp2_with fail;exact hK.out _ _ ej hj
  obtain⟨x6,s6,j6⟩:=hA 1 6;replace j6:Mn.p (Mn.rat N (p 0)) x6 wi:=j6;obtain⟨x10,s10,j10⟩:=hA 5 10;replace j10:Mn.p (Mn.rat N ((G.x0:Int):Rat)) x10 wi:=j10;clear hB hA
  ·go_simp;refine (vF j6 j10 HS0.out (zT (by omega))).mono ?_;rintro e wj ⟨vj,rfl,hj,ej⟩;go_wp2_with fail;exact hK.out _ _ ej hj
  have o2:=oOf (hB 2) rfl;clear hB hA;have cc0:=eI.cell s0;have cc1:=eI.cell s1;have cc2:=eI.cell s2;have cc3:=eI.cell s3
  ·go_simp;exact q_k hK (hRs.ext eI)
  obtain⟨x11,s11,j11⟩:=hA 6 11;replace j11:Mn.p (Mn.rat N (p 0 - ((G.x0:Int):Rat))) x11 wi:=j11;obtain⟨x12,s12,j12⟩:=hA 7 12;replace j12:Mn.p (Mn.rat N (((G.st:Int):Rat))) x12 wi:=j12;clear hB hA
  ·go_simp;refine (QQ j11 j12 HS1.out HSS.out HST.out).mono ?_;rw [show (p 0 - ((G.x0:Int):Rat)) / ((G.st:Int):Rat)=q from hq.out.symm];rintro e wj ⟨vj,rfl,hj,ej⟩;go_wp2_with fail;exact hK.out _ _ ej hj
  all_goals clear hB hA; go_simp; exact q_k hK rfl
 intro vals wz eZ hJ;have J13:Mn.p (Mn.rat N q) (vals 8) wz:=hJ 8 (by decide) (by decide);clear hJ;simp only [pr,Nat.reduceAdd]
 generalize vals 8=z13 at J13 ⊢
 obtain⟨bz,Az,kz,cz,Az',kz',cz',rfl,hbz,gz1,gz2⟩:=qm.parts J13;replace B1:=eZ.block B1;clear r0 r1 r2 r3 r4 r5 r6 r7;obtain⟨r0,r1,r2,r3,r4,r5,r6,r7⟩:=cells4 B1;refine qi (i:=9) rfl (by kernel_rfl) (by kernel_rfl) (fun K hK=>?_);go_simp;refine hK.out _ _ ?_;clear hK K;try simp only [nr]
 refine qg (by kernel_rfl) ?_ _;go_wp2;exact qO rfl rfl rfl (hE.trans eZ) B1 (by omega) hN gz1 gz2 hbz
theorem o_v {gS gT:Nat} {cp:Array Value} {p:Nat->Rat} (h:UV N w gS gT G) (hp:PtV N w cp 0 p) (hsz:cp.size=12) (hG:GOk G) (hk:Ht K (p 1)) (hK:K<=1000000) :
  Calls Tryz.prog 166 #[.agg cp,.pointer (some ⟨gS,0,none⟩),.pointer (some ⟨gT,0,none⟩)] w (yJ N w (sy G (p 1))):=by
 have hN:N<=w.heap.size:=by obtain⟨s,t,-,-,-,-,hs,-⟩:=hp 0 (by omega); exact hs.1
 have HU:=q_h h;have HP:=q_h hp;have HZ:=q_h hsz;have HST:Hid (((G.st:Int):Rat)≠0):=by have:=hG.s0; rw [Hid,Ne,Rat.intCast_eq_zero_iff]; omega
 have HSS:Hid (Sz ((G.st:Int):Rat)):=zT (by have:=hG.s0; have:=hG.s1; omega);have HS0:Hid (Sz (p 1)):=hk.sz (by omega);have HS1:Hid (Sz (p 1 - ((G.y0:Int):Rat))):=(hk.sub (qp (m:=21) (by have:=hG.y0; have:=hG.y1; omega) (by omega))).sz (by omega);have b0:=hG.y0;have b1:=hG.y1;obtain⟨q,hq⟩:=qf (sy G (p 1));rw [<-hq.out];clear h hp hsz hG hk;go_enter Tryz.func166,Tryz.ntmps166;go_upto_region 1 with (fail);refine kE ?_;intro W hE hsz B0 B1;obtain⟨⟨cs,c0,c1,c2⟩,hB⟩:=HU.out.ext hE;rw [<-qh c0] at c1 c2;obtain⟨ns,As,ks,cs,A's,k's,c's,Bs,hbs,ys,zs⟩:=hB;obtain⟨s0,s1,s2,s3,-⟩:=cells4 Bs;have hRs:qm N W (.agg #[.bool ns,.slice As ks cs,.bool false,.slice A's k's c's]) (((G.st:Int):Rat)):=qm.mk hbs ys zs;obtain⟨na,Aa,ka,ca,A'a,k'a,c'a,a0,a1,a2,a3,hRa⟩:=(((HP.out 1 (by omega)).ext hE).at4 B0).opn;simp only [Nat.zero_add,Nat.zero_mul,Nat.one_mul,Nat.reduceAdd] at a0 a1 a2 a3;clear hbs ys zs Bs c0;obtain⟨r0,r1,r2,r3,r4,r5,r6,r7⟩:=cells4 B1;refine xe [Mn.q w.heap.size 4,Mn.rat N (p 1),Mn.q gS 0,Mn.q gS 1,Mn.i G.y0,Mn.rat N ((G.y0:Int):Rat),Mn.rat N (p 1 - ((G.y0:Int):Rat)),Mn.rat N (((G.st:Int):Rat)),Mn.rat N q,Mn.any] [some 5,some 6,some 7,some 8,some 9,some 10,some 11,some 12,some 13,none] [9] (rQ 9 1) 1 (by kernel_rfl) ?_ ?_
 ·show ∀ i,i < 10->_
  iterate 10 refine fs ?_ ?_
  ·exact fz
  all_goals intro hl; first | exact absurd hl (by decide) | (clear hl; refine stp rfl ?_; intro ac wi eI hB hA K hK)
  have o3:=oOf (hB 3) rfl
  rotate_left
  obtain⟨_,s5,rfl⟩:=hA 0 5;clear hB hA;have cc0:=eI.cell a0;have cc1:=eI.cell a1;have cc2:=eI.cell a2;have cc3:=eI.cell a3
  ·go_simp;exact q_k hK (hRa.ext eI)
  have o1:=oOf (hB 1) rfl
  rotate_left
  obtain⟨_,s7,rfl⟩:=hA 2 7
  rotate_left
  obtain⟨_,s8,rfl⟩:=hA 3 8;have cc0:=eI.cell c2
  rotate_left
  obtain⟨_,s9,rfl⟩:=hA 4 9;clear hB hA
  ·go_simp;refine (qQ (q_l (by omega:N<=W.heap.size) eI.size) G.y0 (by omega) (by omega)).mono ?_;rintro e wj ⟨vj,rfl,hj,ej⟩;go_wp2_with fail;exact hK.out _ _ ej hj
  obtain⟨x6,s6,j6⟩:=hA 1 6;replace j6:Mn.p (Mn.rat N (p 1)) x6 wi:=j6;obtain⟨x10,s10,j10⟩:=hA 5 10;replace j10:Mn.p (Mn.rat N ((G.y0:Int):Rat)) x10 wi:=j10;clear hB hA
  ·go_simp;refine (vF j6 j10 HS0.out (zT (by omega))).mono ?_;rintro e wj ⟨vj,rfl,hj,ej⟩;go_wp2_with fail;exact hK.out _ _ ej hj
  have o2:=oOf (hB 2) rfl;clear hB hA;have cc0:=eI.cell s0;have cc1:=eI.cell s1;have cc2:=eI.cell s2;have cc3:=eI.cell s3
  ·go_simp;exact q_k hK (hRs.ext eI)
  obtain⟨x11,s11,j11⟩:=hA 6 11;replace j11:Mn.p (Mn.rat N (p 1 - ((G.y0:Int):Rat))) x11 wi:=j11;obtain⟨x12,s12,j12⟩:=hA 7 12;replace j12:Mn.p (Mn.rat N (((G.st:Int):Rat))) x12 wi:=j12;clear hB hA
  ·go_simp;refine (QQ j11 j12 HS1.out HSS.out HST.out).mono ?_;rw [show (p 1 - ((G.y0:Int):Rat)) / ((G.st:Int):Rat)=q from hq.out.symm];rintro e wj ⟨vj,rfl,hj,ej⟩;go_wp2_with fail;exact hK.out _ _ ej hj
  all_goals clear hB hA; go_simp; exact q_k hK rfl
 intro vals wz eZ hJ;have J13:Mn.p (Mn.rat N q) (vals 8) wz:=hJ 8 (by decide) (by decide);clear hJ;simp only [pr,Nat.reduceAdd]
 generalize vals 8=z13 at J13 ⊢
 obtain⟨bz,Az,kz,cz,Az',kz',cz',rfl,hbz,gz1,gz2⟩:=qm.parts J13;replace B1:=eZ.block B1;clear r0 r1 r2 r3 r4 r5 r6 r7;obtain⟨r0,r1,r2,r3,r4,r5,r6,r7⟩:=cells4 B1;refine qi (i:=9) rfl (by kernel_rfl) (by kernel_rfl) (fun K hK=>?_);go_simp;refine hK.out _ _ ?_;clear hK K;try simp only [nr]
 refine qg (by kernel_rfl) ?_ _;go_wp2;exact qO rfl rfl rfl (hE.trans eZ) B1 (by omega) hN gz1 gz2 hbz
def VZ (N base:Nat) (w:World) (v:Value) (l:List Rat):Prop:=Grow N base w v l.length (fun i=>l[i]?.getD 0)
structure Vl (N lo:Nat) (w:World) (gO:Nat) (l:List Rat):Prop where
 out:∃ A c,w.heap[gO]?=some (.cells #[.slice A l.length c] 45 (0,0))/\VZ N lo w (.slice A l.length c) l
 le:N<=lo
 lo:lo<=gO
theorem Vl.lt {gO:Nat} {l:List Rat} (h:Vl N lo w gO l):gO < w.heap.size:=by
 obtain⟨⟨A,c,h1,-⟩,-,-⟩:=h;exact qJ h1
theorem Vl.ext {gO:Nat} {l:List Rat} (h:Vl N lo w gO l) (e:Ext w w'):Vl N lo w' gO l:=by
 obtain⟨⟨A,c,h1,h2⟩,h3,h4⟩:=h;exact⟨⟨A,c,e.block h1,Grow.ext h2 e⟩,h3,h4⟩
theorem Vl.apart {gO:Nat} {l:List Rat} (h:Vl N lo w gO l) (hb:w.heap[gO]?=some (.cells #[.slice A l.length c] 45 (0,0))) (hg:VZ N lo w (.slice A l.length c) l) (hk:(Value.slice A l.length c).ownBlock=some k):k≠gO:=by
 rintro rfl;obtain⟨-,-,⟨e,-⟩ | ⟨g,cap,e,-,-,hr⟩⟩:=hg
 ·rw [e] at hk; cases hk
 ·rw [e] at hk;obtain rfl:g=k:=by simpa [Value.ownBlock] using hk
  obtain⟨-,-,⟨cs,hc,-⟩,-⟩:=hr;rw [hb] at hc;injection hc with hc
  injection hc with _ hc _
  exact absurd hc (by decide)
structure q4t (N lo a b:Nat) (w:World) (gO:Nat) (l:List Rat):Prop where
 out:∃ A c,w.heap[gO]?=some (.cells #[.slice A l.length c] 45 (0,0))/\VZ N lo w (.slice A l.length c) l/\∀ k,(Value.slice A l.length c).ownBlock=some k->k < a\/b<=k
 le:N<=lo
 lo:lo<=gO
theorem q4t.ext {a b gO:Nat} {l:List Rat} (h:q4t N lo a b w gO l) (e:Ext w w'):q4t N lo a b w' gO l:=by
 obtain⟨⟨A,c,h1,h2,h5⟩,h3,h4⟩:=h;exact⟨⟨A,c,e.block h1,Grow.ext h2 e,h5⟩,h3,h4⟩
theorem q4t.b {a b gO:Nat} {l:List Rat} (h:q4t N lo a b w gO l):Vl N lo w gO l:=by
 obtain⟨⟨A,c,h1,h2,-⟩,h3,h4⟩:=h;exact⟨⟨A,c,h1,h2⟩,h3,h4⟩
theorem Vl.q {gO:Nat} {l:List Rat} (h:Vl N lo w gO l) (e:Ext w w') (b:Nat):q4t N lo w.heap.size b w' gO l:=by
 obtain⟨⟨A,c,h1,h2⟩,h3,h4⟩:=h;exact⟨⟨A,c,e.block h1,Grow.ext h2 e,fun k hk=>.inl (q0s h2 hk).2⟩,h3,h4⟩
def Mid (a b:Nat) (w w':World):Prop:=∀ k,a<=k->k < b->w'.heap[k]?=w.heap[k]?
def QB (lo:Nat) (w w':World):Prop:=∃ hi,Chg lo hi w w'
theorem QB.refl (lo:Nat) (w:World):QB lo w w:=⟨0,Chg.refl _ _ _⟩
theorem QB.trans {a b c:World} (h:QB lo a b) (h':QB lo b c):QB lo a c:=by
 obtain⟨h1,k1⟩:=h;obtain⟨h2,k2⟩:=h';exact⟨h1+h2,(k1.wide (q_r) (by omega)).trans (k2.wide (q_r) (by omega))⟩
theorem Ext.chgU (h:Ext w w') (lo:Nat):QB lo w w':=⟨0,h.chg _ _⟩
theorem Chg.u {lo':Nat} (h:Chg lo hi w w') (hl:lo'<=lo):QB lo' w w':=⟨hi,h.wide hl (q_r)⟩
theorem QB.ext {a:World} (h:QB lo w w') (e:Ext a w) (hl:a.heap.size<=lo):Ext a w':=by
 obtain⟨hi,k⟩:=h;exact k.ext e hl
theorem QB.size (h:QB lo w w'):w.heap.size<=w'.heap.size:=by
 obtain⟨hi,k⟩:=h;exact k.size
theorem QB.blk (h:QB lo w w') {o:Obj} (hk:w.heap[k]?=some o) (hc:k < lo):w'.heap[k]?=some o:=by
 obtain⟨hi,c⟩:=h;exact c.blk hk (.inl hc)
theorem qm.chgU {q:Rat} (h:qm N w v q) (c:QB lo w w') (hN:N<=lo):qm N w' v q:=by
 obtain⟨hi,c⟩:=c;exact h.chg c hN
theorem Mid.trans {a b:Nat} {w'':World} (h:Mid a b w w') (h':Mid a b w' w''):Mid a b w w'':=fun k h1 h2=>(h' k h1 h2).trans (h k h1 h2)
theorem Ext.mid {a b:Nat} (h:Ext w w') (hb:b<=w.heap.size):Mid a b w w':=fun k _ h2=>Below.block h k (by omega)
def q1Y (p q:Rat) (low:Int) (i:Nat):Rat:=(((low+(i:Int):Int):Rat) - p) / (q - p)
def XH (p q:Rat) (low:Int) (n:Nat):List Rat:=((List.range n).map (q1Y p q low)).filter fun t=>decide (0 < t/\t < 1)
def Xd (p q:Rat) (low high:Int):List Rat:=if q - p=0 then [] else XH p q low (high+1 - low).toNat
theorem q07 (p q:Rat) (low:Int) (n:Nat):XH p q low (n+1)=XH p q low n ++ if 0 < q1Y p q low n/\q1Y p q low n < 1 then [q1Y p q low n] else []:=by
 unfold XH;rw [List.range_succ,List.map_append,List.filter_append]
 congr 1
 by_cases h:0 < q1Y p q low n/\q1Y p q low n < 1
 ·rw [if_pos h]; simp [h]
 ·rw [if_neg h]; simp [h]
theorem YP (p q:Rat) (low:Int) (n:Nat):(XH p q low n).length<=n:=by
 unfold XH;exact q_l (List.length_filter_le _ _) (by simp)
def RetLn (N lo gO:Nat) (w:World) (l:List Rat) (e:Ending) (w':World):Prop:=e=.returned (.tuple #[])/\Vl N lo w' gO l/\QB lo w w'
theorem zD {t:Rat}:0 < t.num.sign↔0 < t:=by
 rw [Int.sign_pos_iff,Rat.lt_iff]
 simp
theorem cmp_neg {y:Rat}:Va x y < 0↔x < y:=by
 have:=Q4 (x:=x) (y:=y)
 constructor
 ·intro h
  apply Classical.byContradiction
  intro h';exact absurd (this.2 (by grind)) (by omega)
 ·intro h
  apply Classical.byContradiction
  intro h';have:=this.1 (by omega)
  grind
theorem JJ {gO:Nat} {vf vt:Value} {p q:Rat} {low high:Int} {l:List Rat} (hf:qm N w vf p) (ht:qm N w vt q) (hO:Vl N lo w gO l) (hlen:l.length<=1000) (hkp:Ht K p) (hkq:Ht K q) (hK:K<=1000000) (hl0 : -100<=low) (hh0:high<=100) (hlh:low<=high+1) :
  Calls Tryz.prog 167 #[vf,vt,.int .i64 low,.int .i64 high,.pointer (some ⟨gO,0,none⟩)] w (RetLn N lo gO w (l ++ Xd p q low high)):=by
 have hN:=hf.le;have HF:=q_h hf;have HT:=q_h ht;obtain⟨m1,X1,i1,d1,X2,i2,d2,rfl,hm1,gx1,gx2⟩:=hf.parts;obtain⟨m2,Y1,i3,d3,Y2,i4,d4,rfl,hm2,gy1,gy2⟩:=ht.parts;obtain⟨res,hres⟩:=qf (l ++ Xd p q low high);rw [<-hres.out];have HSP:Hid (Sz p):=hkp.sz (by omega);have HSQ:Hid (Sz q):=hkq.sz (by omega);have hkd:Ht (2*K+1) (q - p):=(hkq.sub hkp).mono (by omega);have HKP:=q_h hkp;have HKD:=q_h hkd;have HSD:Hid (Sz (q - p)):=hkd.sz (by omega);have HOB:=q_h hO;have hgO:=hO.lt;have hlo:=hO.lo;have HLN:=q_h hlen;clear hf ht hO hkp hkq hkd gx1 gx2 gy1 gy2 hlen;go_enter Tryz.func167,Tryz.ntmps167;go_upto_region 1 with (fail);refine kE ?_;intro W hE hsz B0 B1;obtain⟨a0,a1,a2,a3,-⟩:=cells4 B0;obtain⟨b0,b1,b2,b3,-⟩:=cells4 B1;obtain⟨d,hd⟩:=qf (q - p);go_wp2_with (go_at_call 101; refine q_o ?_);refine (vF (HT.out.ext hE) (HF.out.ext hE) HSQ.out HSP.out).mono ?_;rw [<-hd.out] at HSD HKD ⊢;intro e w1 hh;obtain⟨b3',A3,k3,c3,A4,k4,c4,rfl,hb3,g3,g4,e1⟩:=hh.form;clear a0 a1 a2 a3 b0 b1 b2 b3;go_upto_region 2 with (fail);refine ql ?_;intro w2 e2 hsz2 B2;obtain⟨gD,hgD⟩:∃ gD,gD=w1.heap.size:=⟨_,rfl⟩
 rw [<-hgD] at B2 ⊢;have hsD:w.heap.size+2<=gD:=by have:=e1.size; omega
 have hsD2:gD < w2.heap.size:=qJ B2;clear hgD;replace B0:=e2.block (e1.block B0);replace hE:=(hE.trans e1).trans e2;have hRD:qm N w2 _ d:=qm.mk hb3 (g3.ext e2) (g4.ext e2);obtain⟨s0,s1,s2,s3,-⟩:=cells4 B2;obtain⟨sg,hsg⟩:=qf d.num.sign;go_wp2_with (go_at_call 59; refine q_o ?_);refine (xy hRD HSD.out).mono ?_;rw [<-hsg.out];rintro e w3 ⟨rfl,e3⟩;replace B0:=e3.block B0;replace B2:=e3.block B2;replace hE:=hE.trans e3;replace hRD:=hRD.ext e3;replace hsD2:=Nat.lt_of_lt_of_le hsD2 e3.size;clear s0 s1 s2 s3 e1 e2 e3 hsz hsz2 B1 g3 g4 hb3
 by_cases h0:sg=0
 case pos =>
  have HR:Hid (l=res):=by
   have h1:d=0:=vG.1 (by rw [<-hsg.out]; exact h0);rw [Hid,hres.out];unfold Xd;rw [if_pos (by rw [<-hd.out]; exact h1),List.append_nil]
  have t0:(sg == 0)=true:=beq_iff_eq.2 h0;clear h0;go_wp2;refine bodyPost_ret (results_none rfl _ _ _) rfl ?_;exact⟨rfl,by rw [<-HR.out]; exact HOB.out.ext hE,hE.chgU _⟩
 have t0:(sg == 0)=false:=beq_eq_false_iff_ne.2 h0;have HD0:Hid (d≠0):=fun h1=>h0 (by rw [hsg.out,h1]; rfl)
 obtain⟨n,hn⟩:=qf (high+1 - low).toNat;have hn1:(n:Int)=high+1 - low:=by rw [hn.out]; omega
 have hn2:n<=201:=by omega
 have HR:Hid (l ++ XH p q low n=res):=by
  rw [Hid,hres.out,hn.out];unfold Xd;rw [if_neg (by rw [<-hd.out]; exact HD0.out)]
 have HC:=q_h B0;have HE:=q_h B2;have HRD:=q_h hRD;have HX:=HOB.out.ext hE;clear h0 hres B0 B2 hRD hn;go_wp2
 go_loopw [10] (fun iv wr=>∃ i:Nat,i<=n/\iv=.int .i64 (low+i)/\q4t N lo w.heap.size w3.heap.size wr gO (l ++ XH p q low i)/\QB lo w3 wr/\Mid w.heap.size w3.heap.size w3 wr) (fun iv _=>n - (intOf iv - low).toNat)
 case atStart=>exact⟨0,by omega,by simp,by rw [show XH p q low 0=[] from rfl,List.append_nil]; exact HOB.out.q hE _,QB.refl _ _,fun _ _ _=>rfl⟩
 case round =>
  clear HX;obtain⟨i,hi,rfl,hO,hC,hM⟩:=hrel;have hsr:=hC.size;obtain⟨kk,hkk⟩:=qf (low+(i:Int));have hk1:kk=low+i:=hkk.out;have hw1:IntKind.i64.wrap (kk+1)=kk+1:=IntWalk.i64_in _ (by omega);rw [<-hkk.out]
  by_cases hlt:i < n
  case neg =>
   obtain rfl:i=n:=by omega
   have t1:decide (kk<=high)=false:=q_f (by omega);have hF:QB lo w wr:=(hE.chgU lo).trans hC;clear hk1;go_wp2;refine bodyPost_end (results_none rfl _ _ _) rfl ?_;exact⟨rfl,by rw [<-HR.out]; exact hO.b,hF⟩
  have t1:decide (kk<=high)=true:=q_t (by omega);have kb0 : -301<=kk:=by omega
  have kb1:kk<=301:=by omega
  have hnk:kk+1=low+((i+1:Nat):Int):=by omega
  have HNK:=q_h hnk;clear hk1 hnk;have hNl:N<=lo:=hO.le;have hRf:qm N wr _ p:=(HF.out.ext hE).chgU hC hNl;have hRD:qm N wr _ d:=HRD.out.chgU hC hNl;have B0:=(hM w.heap.size (q_r) (by omega)).trans HC.out;have B2:=(hM gD (by omega) hsD2).trans HE.out;obtain⟨a0,a1,a2,a3,-⟩:=cells4 B0;obtain⟨s0,s1,s2,s3,-⟩:=cells4 B2;obtain⟨t,ht⟩:=qf (q1Y p q low i);have HTE:Hid ((((kk:Int):Rat) - p) / d=t):=by rw [Hid,ht.out,hd.out,hkk.out]; rfl
  have hk9:Ht (K+10) (((kk:Int):Rat) - p):=((qp (k:=kk) (m:=9) (by omega) (by omega)).sub HKP.out).mono (by omega);have HS9:Hid (Sz (((kk:Int):Rat) - p)):=hk9.sz (by omega);have hkt:Ht (3*K+11) t:=by rw [<-HTE.out]; exact (hk9.div HKD.out).mono (by omega)
  have HSt:Hid (Sz t):=hkt.sz (by omega);clear hk9 hkt;go_upto_region 6 with (fail);refine xe [Mn.i kk,Mn.rat N ((kk:Int):Rat),Mn.rat N (p),Mn.rat N (((kk:Int):Rat) - p),Mn.rat N (d),Mn.rat N t,Mn.blk wr.heap.size (.cells #[.bool false,.slice none 0 0,.bool false,.slice none 0 0] 29 (0,0)),Mn.any] [some 24,some 25,some 26,some 27,some 28,some 29,some 11,none] [7] (rQ 7 1) 1 (by kernel_rfl) ?_ ?_
  ·show ∀ i,i < 8->_
   iterate 8 refine fs ?_ ?_
   ·exact fz
   all_goals intro hl; first | exact absurd hl (by decide) | (clear hl; refine stp rfl ?_; intro ac wi eI hB hA K hK)
   have o10:=oOf (hB 10) rfl
   rotate_left
   obtain⟨_,s24,rfl⟩:=hA 0 24;clear hB hA
   ·go_simp;refine (qQ (q_l (by omega:N<=wr.heap.size) eI.size) kk (by omega) (by omega)).mono ?_;rintro e wj ⟨vj,rfl,hj,ej⟩;go_wp2_with fail;exact hK.out _ _ ej hj
   have o5:=oOf (hB 5) rfl;clear hB hA;have cc0:=eI.cell a0;have cc1:=eI.cell a1;have cc2:=eI.cell a2;have cc3:=eI.cell a3
   ·go_simp;exact q_k hK (hRf.ext eI)
   obtain⟨x25,s25,j25⟩:=hA 1 25;replace j25:Mn.p (Mn.rat N ((kk:Int):Rat)) x25 wi:=j25;obtain⟨x26,s26,j26⟩:=hA 2 26;replace j26:Mn.p (Mn.rat N (p)) x26 wi:=j26;clear hB hA
   ·go_simp;refine (vF j25 j26 (zT (by omega)) HSP.out).mono ?_;rintro e wj ⟨vj,rfl,hj,ej⟩;go_wp2_with fail;exact hK.out _ _ ej hj
   have o9:=oOf (hB 9) rfl;clear hB hA;have cc0:=eI.cell s0;have cc1:=eI.cell s1;have cc2:=eI.cell s2;have cc3:=eI.cell s3
   ·go_simp;exact q_k hK (hRD.ext eI)
   obtain⟨x27,s27,j27⟩:=hA 3 27;replace j27:Mn.p (Mn.rat N (((kk:Int):Rat) - p)) x27 wi:=j27;obtain⟨x28,s28,j28⟩:=hA 4 28;replace j28:Mn.p (Mn.rat N (d)) x28 wi:=j28;clear hB hA
   ·go_simp;refine (QQ j27 j28 HS9.out HSD.out HD0.out).mono ?_;rw [HTE.out];rintro e wj ⟨vj,rfl,hj,ej⟩;go_wp2_with fail;exact hK.out _ _ ej hj
   clear hB hA
   ·go_simp;refine ql ?_;intro wj ej hszj BJ;exact hK.out _ _ ej ⟨_,rfl,eI.size,BJ⟩
   all_goals clear hB hA; go_simp; exact q_k hK rfl
  intro vals wz eZ hJ;have J29:Mn.p (Mn.rat N t) (vals 5) wz:=hJ 5 (by decide) (by decide);have J11:Mn.p (Mn.blk wr.heap.size (.cells #[.bool false,.slice none 0 0,.bool false,.slice none 0 0] 29 (0,0))) (vals 6) wz:=hJ 6 (by decide) (by decide);clear hJ;simp only [pr,Nat.reduceAdd]
  generalize vals 5=z29 at J29 ⊢
  generalize vals 6=z11 at J11 ⊢
  obtain⟨gt,rfl,hgt,BT⟩:=J11;obtain⟨bz,Az,kz,cz,Az',kz',cz',rfl,hbz,gz1,gz2⟩:=qm.parts J29;obtain⟨y0,y1,y2,y3,y4,y5,y6,y7⟩:=cells4 BT;refine qi (i:=7) rfl (by kernel_rfl) (by kernel_rfl) (fun K hK=>?_);go_simp;refine hK.out _ _ ?_;clear hK K;try simp only [nr]
  refine qg (by kernel_rfl) ?_ _;obtain⟨wT,ET,hBT,KT,hsT⟩:=zU (q:=t) BT (by omega) hbz gz1 gz2;rw [ET];have hET:Ext wr wT:=KT.ext eZ hgt;have hgtl:gt < wT.heap.size:=by have:=qJ BT; omega
  clear a0 a1 a2 a3 s0 s1 s2 s3 hRf hRD B0 B2 y0 y1 y2 y3 y4 y5 y6 y7 ET KT BT hsT hbz gz1 gz2 eZ;have hgt3:w3.heap.size<=gt:=q_l hsr hgt;replace hO:=hO.ext hET;replace hC:=hC.trans (hET.chgU lo);replace hM:=hM.trans (hET.mid hsr);replace hsr:=q_l hsr hET.size;obtain⟨w6,hw6⟩:∃ w6,w6=wT:=⟨_,rfl⟩
  subst hw6;clear hET;clear hgt;go_upto_region 7 with (fail);obtain⟨nx,Ax,kx,cx,A'x,k'x,c'x,Bx,hbx,yx,zx⟩:=hBT;obtain⟨x0,x1,x2,x3,-⟩:=cells4 Bx;have hRx:qm N w6 (.agg #[.bool nx,.slice Ax kx cx,.bool false,.slice A'x k'x c'x]) (t):=qm.mk hbx yx zx;obtain⟨st,hst⟩:=qf t.num.sign;have hx1:Hid (Sz (1:Rat)):=Ht.one.sz (by omega);obtain⟨l9,hl9⟩:=qf (l ++ XH p q low i)
  have HL9:Hid (l9.length<=1300):=by
   have h1:=HLN.out;have h2:=YP p q low i;rw [Hid,hl9.out,List.length_append];omega
  have HNX:Hid (l ++ XH p q low (i+1)=l9 ++ if 0 < t/\t < 1 then [t] else []):=by rw [Hid,q07,<-List.append_assoc,<-hl9.out,<-ht.out]
  rw [<-hl9.out] at hO
  by_cases hs1:0 < st
  case neg =>
   have p1:decide (0 < st)=false:=q_f hs1
   have HN2:Hid (l9=l ++ XH p q low (i+1)):=by
    rw [Hid,HNX.out,if_neg (fun h=>hs1 (by rw [hst.out]; exact zD.2 h.1)),List.append_nil]
   refine xe [Mn.rat N (t),Mn.i st,Mn.t false,Mn.t false,Mn.eq undef,Mn.eq undef,Mn.eq undef,Mn.eq undef,Mn.t false] (sM [30,31,32,33,34,35,36,37,38]) [] (rQ 9 0) 0 (by kernel_rfl) ?_ ?_
   ·show ∀ i,i < 9->_
    iterate 9 refine fs ?_ ?_
    ·exact fz
    all_goals intro hl; clear hl; refine stp rfl ?_; intro ac wi eI hB hA K hK
    have o11:=oOf (hB 11) rfl;clear hB hA;have cc0:=eI.cell x0;have cc1:=eI.cell x1;have cc2:=eI.cell x2;have cc3:=eI.cell x3
    ·go_simp;exact q_k hK (hRx.ext eI)
    obtain⟨x30,s30,j30⟩:=hA 0 30;replace j30:Mn.p (Mn.rat N (t)) x30 wi:=j30;clear hB hA
    ·go_simp;refine (xy j30 HSt.out).mono ?_;rw [<-hst.out];rintro e wj ⟨rfl,ej⟩;go_wp2_with fail;exact hK.out _ _ ej rfl
    obtain⟨_,s31,rfl⟩:=hA 1 31
    rotate_left
    obtain⟨_,s32,rfl⟩:=hA 2 32
    rotate_left
    iterate 4 (obtain⟨_,s33,rfl⟩:=hA 3 33; clear hB hA; rw [if_neg (by simp [Region.wanted,yielded,s33,undef])]; exact q_k hK rfl)
    obtain⟨_,s33,rfl⟩:=hA 3 33;obtain⟨_,s37,rfl⟩:=hA 7 37
    rotate_left
    all_goals clear hB hA; go_simp; exact q_k hK rfl
   intro vals wz eZ hJ;have J38:vals 8=_:=hJ 8 (by decide) (by decide);clear hJ;simp only [pr,Nat.reduceAdd,J38];clear J38;refine qg (by kernel_rfl) ?_ _;rw [HN2.out] at hO;have e1:Ext w6 wz:=eZ;clear x0 x1 x2 x3 hbx yx zx Bx hRx hs1;go_wp2;go_roundw
   case rel=>exact⟨i+1,by omega,by rw [HNK.out],hO.ext e1,hC.trans (e1.chgU lo),hM.trans (e1.mid hsr)⟩
   case measure=>have:=HNK.out; simp [intOf]; omega
  have p1:decide (0 < st)=true:=q_t hs1;obtain⟨ct,hct⟩:=qf (Va t 1);obtain⟨pc,hpc⟩:=qf (decide (ct < 0));have p2:decide (ct < 0)=pc:=hpc.out.symm;refine xe [Mn.rat N (t),Mn.i st,Mn.t true,Mn.t true,Mn.rat N (t),Mn.rat N (((1:Int):Rat)),Mn.i ct,Mn.t pc,Mn.t pc] (sM [30,31,32,33,34,35,36,37,38]) [] (rQ 9 0) 0 (by kernel_rfl) ?_ ?_
  ·show ∀ i,i < 9->_
   iterate 9 refine fs ?_ ?_
   ·exact fz
   all_goals intro hl; clear hl; refine stp rfl ?_; intro ac wi eI hB hA K hK
   have o11:=oOf (hB 11) rfl;clear hB hA;have cc0:=eI.cell x0;have cc1:=eI.cell x1;have cc2:=eI.cell x2;have cc3:=eI.cell x3
   ·go_simp;exact q_k hK (hRx.ext eI)
   obtain⟨x30,s30,j30⟩:=hA 0 30;replace j30:Mn.p (Mn.rat N (t)) x30 wi:=j30;clear hB hA
   ·go_simp;refine (xy j30 HSt.out).mono ?_;rw [<-hst.out];rintro e wj ⟨rfl,ej⟩;go_wp2_with fail;exact hK.out _ _ ej rfl
   obtain⟨_,s31,rfl⟩:=hA 1 31
   rotate_left
   obtain⟨_,s32,rfl⟩:=hA 2 32
   rotate_left
   obtain⟨_,s33,rfl⟩:=hA 3 33;have o11:=oOf (hB 11) rfl;clear hB hA;rw [if_pos (by simp [Region.wanted,yielded,s33])];have cc0:=eI.cell x0;have cc1:=eI.cell x1;have cc2:=eI.cell x2;have cc3:=eI.cell x3
   ·go_simp;exact q_k hK (hRx.ext eI)
   obtain⟨_,s33,rfl⟩:=hA 3 33;clear hB hA;rw [if_pos (by simp [Region.wanted,yielded,s33])]
   ·go_simp;refine (qQ (q_l (by omega:N<=w6.heap.size) eI.size) 1 (by omega) (by omega)).mono ?_;rintro e wj ⟨vj,rfl,hj,ej⟩;go_wp2_with fail;exact hK.out _ _ ej hj
   obtain⟨_,s33,rfl⟩:=hA 3 33;obtain⟨x34,s34,j34⟩:=hA 4 34;replace j34:Mn.p (Mn.rat N (t)) x34 wi:=j34;obtain⟨x35,s35,j35⟩:=hA 5 35;replace j35:Mn.p (Mn.rat N (((1:Int):Rat))) x35 wi:=j35;clear hB hA;rw [if_pos (by simp [Region.wanted,yielded,s33])]
   ·go_simp;refine (jX j34 j35 HSt.out (zT (by decide))).mono ?_;rw [show (t.num*(((1:Int):Rat)).den - (((1:Int):Rat)).num*t.den).sign=ct from hct.out.symm];rintro e wj ⟨rfl,ej⟩;go_wp2_with fail;exact hK.out _ _ ej rfl
   obtain⟨_,s33,rfl⟩:=hA 3 33;obtain⟨_,s36,rfl⟩:=hA 6 36;rw [if_pos (by simp [Region.wanted,yielded,s33])]
   rotate_left
   obtain⟨_,s33,rfl⟩:=hA 3 33;obtain⟨_,s37,rfl⟩:=hA 7 37
   rotate_left
   all_goals clear hB hA; go_simp; exact q_k hK rfl
  intro vals wz eZ hJ;have J38:vals 8=_:=hJ 8 (by decide) (by decide);clear hJ;simp only [pr,Nat.reduceAdd,J38];clear J38;refine qg (by kernel_rfl) ?_ _;have e1:Ext w6 wz:=eZ;clear eZ;have hTp:0 < t:=zD.1 (by rw [<-hst.out]; exact hs1);have hO2:=hO.ext e1;have hC2:=hC.trans (e1.chgU lo);have hM2:=hM.trans (e1.mid hsr);replace hsr:=q_l hsr e1.size;cases pc with
  | false =>
   have HN2:Hid (l9=l ++ XH p q low (i+1)):=by
    rw [Hid,HNX.out,if_neg (fun h=>absurd (cmp_neg.2 h.2) (by rw [<-hct.out]; exact of_decide_eq_false p2)),List.append_nil]
   rw [HN2.out] at hO2;clear x0 x1 x2 x3 hbx yx zx Bx hRx hs1 hO hC hM e1 hTp;go_wp2;go_roundw
   case rel=>exact⟨i+1,by omega,by rw [HNK.out],hO2,hC2,hM2⟩
   case measure=>have:=HNK.out; simp [intOf]; omega
  | true =>
   have HN2:Hid (l9 ++ [t]=l ++ XH p q low (i+1)):=by
    rw [Hid,HNX.out,if_pos ⟨hTp,cmp_neg.1 (by rw [<-hct.out]; exact of_decide_eq_true p2)⟩]
   clear hO hC hM hTp;obtain⟨⟨A,c,BO,hG,hown⟩,-,-⟩:=hO2;have hap:=fun k=>Vl.apart ⟨⟨A,c,BO,hG⟩,hNl,hlo⟩ BO hG (k:=k)
   have hgOl:gO < w6.heap.size:=by omega
   replace x0:=e1.cell x0;replace x1:=e1.cell x1;replace x2:=e1.cell x2;replace x3:=e1.cell x3;replace yx:=yx.ext e1;replace zx:=zx.ext e1;obtain⟨o0,-⟩:=zA BO;have HG:=q_h hG;have HAP:=q_h hap;have HOW:=q_h hown;have HBO:=q_h BO;obtain⟨n9,hn9⟩:=qf l9.length;rw [<-hn9.out] at o0 HL9;clear hG hap hown BO hs1 p1 p2;go_wp2_with (at_builtin; refine q_o ?_);refine ql ?_;intro w8 e8 hsz8 BX;have hG8:Grow N lo w8 (.slice A n9 c) n9 (fun i=>l9[i]?.getD 0):=by rw [hn9.out]; exact Grow.ext HG.out e8
   refine kN rfl _ _ 45 Tryz.underlying45 rfl rfl hG8 rfl BX hbx (yx.ext e8) (zx.ext e8) (by have:=HL9.out; omega) ?_;rintro g' cap w9 gp hG9 hlo9 C9 hp9 ho9
   have hown:∀ k,((Value.slice A n9 c).ownBlock=some k\/k=w8.heap.size)->k≠gO/\(k < w.heap.size\/w3.heap.size<=k):=by
    rintro k (hk | rfl)
    ·rw [hn9.out] at hk;exact⟨HAP.out k hk,HOW.out k hk⟩
    ·exact⟨by omega,.inr (by omega)⟩
   have hgp:=hown _ hp9;have hg':=hown _ ho9;have BO9:=C9.blk (e8.block HBO.out) (by omega);obtain⟨o9,f9⟩:=zA BO9
   have hGL:VZ N lo w9 (.slice (some ⟨g',0,none⟩) (n9+1) cap) (l9 ++ [t]):=by
    unfold VZ;rw [List.length_append,<-hn9.out];refine hG9.congr (fun j hj=>?_);unfold upd
    rcases Nat.lt_or_ge j n9 with h | h
    ·rw [if_neg (by omega),List.getElem?_append_left (by rw [<-hn9.out]; exact h)]
    ·have h9:j=l9.length:=by rw [<-hn9.out]; omega
     rw [if_pos (by omega),h9]
     simp
   clear hG8 hG9 x0 x1 x2 x3 yx zx BX hbx o0 hRx Bx hp9 ho9 hown;have hs8:=e8.size;have hs9:=C9.size;go_wp2;obtain⟨wS,ES,FS,US⟩:=ex1 BO9 (.slice (some ⟨g',0,none⟩) (n9+1) cap);rw [ES];have CS:=US.chg (NoU.mk BO9 (by decide));go_roundw
   case rel =>
    refine⟨i+1,by omega,by rw [HNK.out],?_,hC2.trans ((e8.chgU lo).trans ((C9.u hlo9).trans (CS.u hlo))),(hM2.trans (e8.mid hsr)).trans (Mid.trans (w':=w9) (fun k h1 h2=>?_) (fun k h1 h2=>US.block k (by omega)))⟩
    ·rw [<-HN2.out];refine⟨⟨some ⟨g',0,none⟩,cap,?_,XO ?_ CS (by omega) ?_,fun k hk=>?_⟩,hNl,hlo⟩
     ·rw [FS,List.length_append,<-hn9.out]; rfl
     ·have:=hGL;unfold VZ at this;rw [List.length_append,<-hn9.out] at this ⊢;exact this
     ·simp only [Value.ownBlock,ne_eq,Option.some.injEq]; exact hg'.1
     ·obtain rfl:g'=k:=by simpa [Value.ownBlock] using hk
      exact hg'.2
    ·have hkl:k < w8.heap.size:=by omega
     exact C9.block k hkl (by have:=hgp.2; omega)
   case measure=>have:=HNK.out; simp [intOf]; omega
end Go.Proofs.YtphpkhoeplcedaaGreat
namespace Go.Proofs.YtphpkhoeplcedaaGreat
open Go
variable {w w':World} {N n lo hi k g i c d K:Nat} {v s:Value} {G:Grd} {l:List Nat} {x:Rat} {R:Raw} {A:Option Addr}
theorem X5 {p:Program} {a:Addr} {u:TypeId} {k:Addr} {at_:Bool} {r:World×List Addr} (h:World.viewStore p w a u k v at_=.ok r):r.1.drawn=w.drawn:=by
 unfold World.viewStore at h;simp only [bind,Except.bind,pure,Except.pure] at h
 repeat' split at h
 all_goals first | (cases h; rfl) | (cases h)
theorem XW {p:Program} {a:Addr} {at_:Bool} {l:List Addr} (h:World.farStore p w a v at_=.ok (w',l)):w'.drawn=w.drawn:=by
 unfold World.farStore at h
 split at h
 ·split at h
  ·rename_i r hr
   cases h
   exact X5 hr
  ·cases h
 ·cases h
theorem Z7 (w:World) (a:Addr) (n:Nat):(w.freeze a n).drawn=w.drawn:=by
 unfold World.freeze
 split <;> rfl
theorem XY {α:Type} (x:Ask α):∀ w:World,w.drawn<=(w.ask x).2.drawn:=by
 induction x with
 | done a=>intro w; exact q_r
 | ask what range k ih =>
  intro w;unfold World.ask
  dsimp only
  split
  ·exact ih _ _
  ·exact q_l (Nat.le_succ _) (ih _ { w with drawn:=w.drawn+1 })
theorem XU (w:World) (c:Sys):w.drawn<=(w.sys c).2.drawn:=by
 unfold World.sys;have h:=XY (Kernel.perform c w.os) w
 split
 ·exact q_r
 ·rename_i r os w' _ heq
  rw [heq] at h;exact h
def q5q {α:Type}:Result α->World
 | .ok _ w=>w
 | .halt _ w=>w
theorem jY {α:Type} (p:Program) (x:Sem α):∀ w:World,w.drawn<=(q5q (x.run p w)).drawn:=by
 induction x with
 | pure a=>intro w; exact q_r
 | halt h=>intro w; exact q_r
 | load m a k ih =>
  intro w;simp only [Sem.run]
  split
  ·exact ih _ _
  ·split
   ·exact ih _ _
   ·exact q_r
 | store m a v k ih =>
  intro w
  by_cases hv:(∃ c,v=.agg c)\/(∃ c,v=.tuple c)
  ·rcases hv with ⟨c,rfl⟩ | ⟨c,rfl⟩ <;> exact q_r
  ·rw [Sem.run]
   ·split
    ·split
     ·exact q_r
     ·exact ih (w.setCell a v)
    ·split
     ·rename_i h
      rw [<-XW h];exact ih _
     ·exact q_r
   ·intro c h; exact hv (.inl ⟨c,h⟩)
   ·intro c h; exact hv (.inr ⟨c,h⟩)
 | new o k ih=>intro w; exact ih w.heap.size { w with heap:=w.heap.push o }
 | shape r k ih=>intro w; exact ih _ _
 | freeze a n k ih=>intro w; rw [<-Z7 w a n]; exact ih _
 | frozen a k ih=>intro w; exact ih _ _
 | getObj r k ih =>
  intro w;simp only [Sem.run]
  split
  ·exact q_r
  ·exact ih _ _
  ·exact q_r
 | setObj r o k ih =>
  intro w;simp only [Sem.run]
  split
  ·exact q_r
  ·exact ih { w with heap:=w.heap.setIfInBounds r o }
  ·exact q_r
 | choose q k ih =>
  intro w;simp only [Sem.run]
  split
  ·exact ih _ _
  ·exact q_l (Nat.le_succ _) (ih _ { w with drawn:=w.drawn+1 })
 | sys c k ih=>intro w; exact q_l (XU w c) (ih _ _)
 | program k ih=>intro w; exact ih _ _
 | mark m k ih=>intro w; exact ih _
theorem qV {α:Type} {p:Program} {x:Sem α} {a:α} (h:x.run p w=.ok a w'):w.drawn<=w'.drawn:=by
 have k:=jY p x w;rw [h] at k;exact k
theorem Z4 {α:Type} {p:Program} {x:Sem α} {a:Halt} (h:x.run p w=.halt a w'):w.drawn<=w'.drawn:=by
 have k:=jY p x w;rw [h] at k;exact k
theorem kK {α:Type} {p:Program} {x:Sem α} {a:α} {es es':Array Event} (h:x.runT p w es=(.ok a w',es')):w.drawn<=w'.drawn :=
 qV (x:=x) (a:=a) (by rw [<-Sem.runT_fst p x w es,h])
theorem kU {α:Type} {p:Program} {x:Sem α} {a:Halt} {es es':Array Event} (h:x.runT p w es=(.halt a w',es')):w.drawn<=w'.drawn :=
 Z4 (x:=x) (a:=a) (by rw [<-Sem.runT_fst p x w es,h])
theorem Yd {α:Type} {p:Program} {x:Sem α} {a:α} {es:Array Event} (h:(x.runT p w es).1=.ok a w'):w.drawn<=w'.drawn :=
 qV (x:=x) (a:=a) (by rw [<-Sem.runT_fst p x w es,h])
def qN (d:Nat):GStep->Prop
 | .go _ w _=>d<=w.drawn
 | .comm _ _ _ _ w _=>d<=w.drawn
 | .spawn _ _ w _=>d<=w.drawn
 | .count _ w _=>d<=w.drawn
 | .timer _ _ w _=>d<=w.drawn
 | .alone _ _ w _=>d<=w.drawn
 | .newcoro _ _ _ w _=>d<=w.drawn
 | .coroswitch _ _ _ w _=>d<=w.drawn
 | .collect _ w _=>d<=w.drawn
 | .watch _ w _=>d<=w.drawn
 | .ended _ _ _=>True
theorem qN.after {s:GStep} (h:qN d s) (es:Array Event):qN d (GStep.after es s):=by
 cases s <;> exact h
theorem XV {c:Prop} [Decidable c] {a b:GStep} (ha:qN d a) (hb:qN d b):qN d (if c then a else b):=by
 split
 ·exact ha
 ·exact hb
theorem X6 (w:World) (fd:Nat) (t:ByteArray) (o:Outcome) (d:Nat):qN d (endWith w fd t o):=by
 unfold endWith
 dsimp only
 repeat' split
 all_goals trivial
theorem Yf (fr:Frame) (ahead:List ByteArray) (m:String) (b:Bool) (w:World):qN w.drawn (dieOf fr ahead m b w):=q_r
theorem jh (fr:Frame) (m:String) (w:World):qN w.drawn (endThrow fr m w):=q_r
theorem jo (p:Program) (fr:Frame) (v:Value) (w:World):qN w.drawn (endPrinting p fr v w):=by
 unfold endPrinting
 dsimp only
 split
 ·exact jh _ _ _
 ·trivial
theorem qN.le {d':Nat} {s:GStep} (h:qN d s) (hd:d'<=d):qN d' s:=by
 cases s <;> first | trivial | exact q_l hd h
theorem yO (p:Program) (fr:Frame) (callers:List Frame) (dying:Option Dying) (m:String) (w:World):qN w.drawn (endFatal p fr callers dying m w):=by
 unfold endFatal
 extract_lets chain raw shown
 split
 ·exact (Yf _ _ _ _ _).le (qV (by assumption))
 ·trivial
 ·trivial
theorem X4 (p:Program) (fr:Frame) (d:Dying) (f:Fatal) (w:World):qN w.drawn (writeOn p fr d f w):=by
 unfold writeOn
 extract_lets on
 split
 ·trivial
 ·extract_lets write
  split
  ·exact kK (by assumption)
  ·exact kU (by assumption)
  ·trivial
  ·trivial
theorem q0G (p:Program) (fr:Frame) (d:Dying) (w:World):qN w.drawn (die p fr d w):=by
 unfold die
 split
 ·exact X4 _ _ _ _ _
 ·split
  ·split
   ·exact q_r
   ·exact X6 _ _ _ _ _
  ·extract_lets d'
   split
   ·exact q_r
   ·split
    ·exact qV (by assumption)
    ·trivial
   ·split
    rename_i r es hr
    refine qN.after ?_ _
    split
    ·exact kK (by assumption)
    ·exact kK (by assumption)
    ·trivial
    ·exact (jo _ _ _ _).le (kU (by assumption))
    ·trivial
   ·trivial
theorem Ye (p:Program) (fr:Frame) (callers:List Frame) (dying:Option Dying) (g:Nat) (w:World):qN w.drawn (early p fr callers dying g w):=by
 unfold early
 extract_lets refuse notYet
 have hn:∀ w,qN w.drawn (notYet w):=by
  intro w
  dsimp only [notYet]
  split
  ·exact q_r
  ·trivial
 split
 ·exact hn _
 ·split
  ·trivial
  ·extract_lets there
   have ht:∀ w,qN w.drawn (there w):=fun w=>q_r
   repeat' split
   all_goals first
    | trivial
    | exact hn _
    | exact ht _
    | exact (hn _).le (qV (by assumption))
    | exact (ht _).le (qV (by assumption))
theorem ji (p:Program) (main:Bool) (fr:Frame) (callers:List Frame) (dying:Option Dying) (v:Value) (w:World):qN w.drawn (doReturn p main fr callers dying v w):=by
 unfold doReturn
 repeat' split
 all_goals first | trivial | exact q_r
theorem vS (p:Program) (fr:Frame) (callers:List Frame) (dying:Option Dying) (d:Deferred) (w:World):qN w.drawn (callDeferred p fr callers dying d w):=by
 unfold callDeferred;refine XV trivial ?_
 ·split
  rename_i r es hr
  extract_lets es'
  refine qN.after ?_ _
  split
  all_goals first
   | trivial
   | exact kK (by assumption)
   | exact kU (by assumption)
   | exact (yO _ _ _ _ _ _).le (kU (by assumption))
   | exact (jh _ _ _).le (kU (by assumption))
   | (split <;> exact kK (by assumption))
theorem XT (p:Program) (main:Bool) (fr:Frame) (callers:List Frame) (dying:Option Dying) (w:World):qN w.drawn (unwind p main fr callers dying w):=by
 unfold unwind
 split
 ·split
  refine qN.after ?_ _
  split
  ·exact kK (by assumption)
  ·trivial
 ·exact vS _ _ _ _ _ _
 ·split
  ·trivial
  ·split
   ·trivial
   ·split
    ·exact q_r
    ·split
     ·split
      ·exact q_r
      ·split
       ·exact qV (by assumption)
       ·trivial
       ·trivial
     ·split
      ·exact jo _ _ _ _
      ·trivial
  ·split
   ·exact ji _ _ _ _ _ _ _
   ·split
    refine qN.after ?_ _
    split
    ·exact (ji _ _ _ _ _ _ _).le (kK (by assumption))
    ·trivial
    ·trivial
theorem jF (p:Program) (fr:Frame) (callers:List Frame) (dying:Option Dying) (s:Sem Next) (w:World) (listen:Bool):qN w.drawn (stepG.apply p listen fr callers dying s w):=by
 unfold stepG.apply
 extract_lets go kind
 have hgo:∀ fr w,qN w.drawn (go fr w):=fun fr w=>q_r
 split
 rename_i r es hr
 extract_lets es1 es2 es3
 refine qN.after ?_ _
 have hk:w.drawn<=(q5q r).drawn:=by
  have h:=jY p s w
  split at hr
  ·rw [<-Sem.runT_fst p s w #[],hr] at h; exact h
  ·cases hr; exact h
 clear hr
 repeat' split
 all_goals first
  | trivial
  | exact hk
  | exact (hgo _ _).le hk
  | exact (yO _ _ _ _ _ _).le hk
  | exact (jh _ _ _).le hk
  | exact (Ye _ _ _ _ _ _).le hk
theorem VO (p:Program) (fr:Frame) (callers:List Frame) (dying:Option Dying) (w:World) (listen:Bool):qN w.drawn (stepG.oper p listen fr callers dying w):=by
 unfold stepG.oper
 split
 ·trivial
 ·split <;> exact jF _ _ _ _ _ _ _
theorem ZF {α:Type} {o:Option α} {a:GStep} {f:α->GStep} (h:qN d a) (h':∀ x,qN d (f x)):qN d (o.elim a f):=by
 cases o <;> first | exact h | exact h' _
theorem VQ (p:Program) (main:Bool) (fr:Frame) (callers:List Frame) (dying:Option Dying) (w:World) (listen:Bool):qN w.drawn (stepG.exec p main listen fr callers dying w):=by
 unfold stepG.exec
 extract_lets go tox lost leave
 have hgo:∀ fr w,qN w.drawn (go fr w):=fun fr w=>q_r
 have hto:∀ t,qN w.drawn (tox t):=fun t=>q_r
 have hlost:∀ t,qN w.drawn (lost t):=fun t=>trivial
 have hleave:∀ j,qN w.drawn (leave j):=by
  intro j
  dsimp only [leave]
  split
  ·exact XV (hgo _ _) (hlost _)
  ·refine qN.after ?_ _
   split
   ·exact (ji _ _ _ _ _ _ _).le (Yd (by assumption))
   ·trivial
 clear_value tox lost leave
 split
 all_goals first
  | trivial
  | exact hto _
  | exact hleave _
  | exact hgo _ _
  | exact jF _ _ _ _ _ _ _
  | exact ZF (hleave _) (fun _=>hto _)
  | exact ZF (hlost _) (fun _=>jF _ _ _ _ _ _ _)
  | (split <;> first | exact hto _ | exact hlost _)
  | (split; exact VO _ _ _ _ _ _; exact hgo _ _)
  | (
   split
   refine qN.after ?_ _
   split
   ·exact (jF _ _ _ _ _ _ _).le (kK (by assumption))
   ·trivial)
  | (
   split
   refine qN.after ?_ _
   split
   ·exact (hgo _ _).le (kK (by assumption))
   ·exact (hgo _ _).le (kU (by assumption))
   ·trivial)
  | (
   split
   ·exact hto _
   ·split
    ·exact (hgo _ _).le (qV (by assumption))
    ·trivial)
theorem Yb (p:Program) (main:Bool) (g:Goroutine) (w:World) (listen:Bool):qN w.drawn (stepG p main g w listen):=by
 unfold stepG
 split
 split
 ·exact q0G _ _ _ _
 ·exact VQ _ _ _ _ _ _ _
 ·exact XT _ _ _ _ _ _
def jK (d:Nat):Stepped->Prop
 | .next m=>d<=m.world.drawn
 | .ended _ _=>True
theorem jK.le {d':Nat} {s:Stepped} (h:jK d s) (hd:d'<=d):jK d' s:=by
 cases s <;> first | trivial | exact q_l hd h
theorem ZE (p:Program) (gs:Array Goroutine) (rest:Rest) (w:World):jK w.drawn (look p gs rest w):=by
 unfold look
 split
 ·dsimp only
  split
  ·trivial
  ·split
   ·trivial
   ·split
    ·rename_i hrun
     have hk:=qV hrun;exact hk
    ·trivial
    ·trivial
 ·trivial
theorem Zl (w:World) (c:Nat):(drain w c).2.drawn=w.drawn:=by
 unfold drain
 split <;> rfl
theorem jZ (m:Machine) (k:Nat) (t:Timer) (a b:Nat):(retime m k t a b).2.world.drawn=m.world.drawn:=by
 unfold retime;cases t.chan with
 | none=>rfl
 | some c=>exact Zl _ _
theorem Qk {m m':Machine} {op:TimerOp} (h:timerOp m op=.ok (v,m')):m'.world.drawn=m.world.drawn:=by
 unfold timerOp at h
 split at h
 ·split at h
  ·cases h; rfl
  ·split at h
   ·split at h
    ·cases h
    ·cases h; rfl
   ·cases h
 ·unfold timerOp.named at h
  split at h
  ·simp only [Except.ok.injEq] at h
   rename_i cc _
   have hk:=jZ m cc _ _ _ |>.symm.trans (congrArg (fun z=>z.2.world.drawn) h)
   exact hk.symm
  ·cases h
 ·split at h
  ·rename_i m2 ho
   have hm:m2.world.drawn=m.world.drawn:=by
    unfold timerOp.opened at ho
    split at ho
    ·split at ho
     ·cases ho; rfl
     ·cases ho
    ·cases ho; rfl
   unfold timerOp.named at h
   split at h
   ·simp only [Except.ok.injEq] at h
    rename_i cc _
    have hk:=jZ m2 cc _ _ _ |>.symm.trans (congrArg (fun z=>z.2.world.drawn) h)
    exact hk.symm.trans hm
   ·cases h
  ·cases h
 ·cases h; rfl
theorem vP {rest:Rest} {cases:Array CommCase} (h:waitingAt rest cases w=some w'):w'.drawn=w.drawn:=by
 unfold waitingAt at h
 split at h
 ·split at h
  ·cases h; rfl
  ·cases h
 ·cases h; rfl
theorem wY (p:Program) (rest:Rest) (gs:Array Goroutine) (i:Nat) (g:Goroutine) (cases:Array CommCase) (blocking:Bool) (shape:CommShape) (w:World):jK w.drawn (communicate p rest gs i g cases blocking shape w).1:=by
 unfold communicate
 extract_lets put illMade me other
 split
 ·trivial
 ·split
  ·split
   ·split
    ·exact Nat.le_of_eq (vP (by assumption)).symm
    ·trivial
   ·exact q_r
  ·split
   ·trivial
   ·rename_i hw
    have hk:=qV hw
    dsimp only
    split
    ·split
     ·exact q_l hk (Z4 (by assumption))
     ·trivial
    ·exact hk
    ·exact hk
    ·split
     ·exact hk
     ·split
      ·rename_i h2
       have hk2:=qV h2;exact q_l hk hk2
      ·trivial
    ·exact hk
    ·exact hk
    ·trivial
theorem Yc (p:Program) (m:Machine) (k:Nat):jK m.world.drawn (serve p m k):=by
 unfold serve
 split
 ·trivial
 ·exact q_r
 ·dsimp only
  split
  ·trivial
  ·exact q_r
theorem Z5 (p:Program) (m:Machine) (i:Nat) (listen:Bool):jK m.world.drawn (runT p m i listen).1:=by
 unfold runT
 extract_lets rest world
 split
 extract_lets wake fn pos s ops done
 have hs:qN world.drawn s:=Yb _ _ _ _ _
 clear_value s
 cases s with
 | ended o w e=>trivial
 | comm g c b sh w e=>exact (wY _ _ _ _ _ _ _ _ _).le hs
 | go g w e=>exact hs
 | spawn g c w e=>exact hs
 | count g w e =>
  dsimp only [done]
  split
  ·trivial
  ·exact hs
 | alone g o w e=>exact hs
 | collect g w e=>exact (ZE _ _ _ _).le hs
 | watch g w e=>exact hs
 | newcoro g c d w e=>exact hs
 | coroswitch g c x w e =>
  dsimp only [done]
  split
  ·exact hs
  ·exact hs
  ·trivial
 | timer g op w e =>
  dsimp only [done]
  split
  ·rename_i h
   exact q_l hs (Nat.le_of_eq (Qk h).symm)
  ·exact hs
  ·trivial
  ·trivial
def Z8 (d:Nat):Move->Prop
 | .goroutine m _=>d<=m.world.drawn
 | .machine s _=>jK d s
theorem Z8.le {d':Nat} {s:Move} (h:Z8 d s) (hd:d'<=d):Z8 d' s:=by
 cases s with
 | goroutine m i=>exact q_l hd h
 | machine s o=>exact jK.le h hd
theorem yS (p:Program) (m:Machine):Z8 m.world.drawn (askOn p m):=by
 unfold askOn
 extract_lets mono rs ds pick
 have hpick:∀ m,Z8 m.world.drawn (pick m):=by
  intro m
  dsimp only [pick]
  split
  ·trivial
  ·rename_i h1
   have k1:=qV h1
   split
   ·exact k1
   ·split
    ·trivial
    ·rename_i h2
     have k2:=qV h2;exact q_l k1 k2
 clear_value pick
 split
 ·trivial
 ·rename_i h1
  have k1:=qV h1;clear h1
  extract_lets m1
  split
  ·exact (Yc _ _ _).le k1
  ·clear_value rs
   cases rs with
   | nil =>
    dsimp only
    split
    ·exact k1
    ·split
     ·exact k1
     ·split
      ·trivial
      ·trivial
   | cons r0 rs' =>
    dsimp only
    split
    ·exact (hpick _).le k1
    ·split
     ·trivial
     ·rename_i h2
      have k2:=qV h2;exact (hpick _).le (q_l k1 k2)
     ·rename_i h2
      have k2:=qV h2;exact q_l k1 k2
     ·rename_i h2
      have k2:=qV h2;exact (hpick _).le (q_l k1 k2)
theorem XX (p:Program) (m:Machine):Z8 m.world.drawn (ask p m):=by
 unfold ask
 split
 ·split
  ·trivial
  ·rename_i W h1
   have k1:=qV h1;have k2:=ZE p m.gs m.rest W
   split
   ·rename_i m' h3
    rw [h3] at k2;exact (yS _ _).le (q_l k1 k2)
   ·exact jK.le k2 k1
  ·rename_i h1
   exact (yS _ _).le (qV h1)
 ·exact yS _ _
theorem VP (p:Program) (m:Machine):Z8 m.world.drawn (move p m):=by
 unfold move
 split
 ·split
  ·exact q_r
  ·trivial
 ·split
  ·split
   ·exact q_r
   ·exact XX p { m with rest:={ m.rest with slice:=none } }
  ·exact XX _ _
theorem VN (p:Program) (m:Machine):jK m.world.drawn (step p m):=by
 unfold step stepT;have h:=VP p m
 split
 ·rename_i m' i hm
  rw [hm] at h;exact (Z5 p m' i true).le h
 ·rename_i s o hm
  rw [hm] at h;exact h
theorem Zz (p:Program):∀ (n:Nat) (m:Machine),jK m.world.drawn (runN p n m)
 | 0,m=>q_r
 | n+1,m=>by
  unfold runN;have h:=VN p m
  split
  ·rename_i m' hm
   rw [hm] at h;exact (Zz p n m').le h
  ·exact h
theorem yN {p:Program} {m m':Machine} (h:Steps p m m'):m.world.drawn<=m'.world.drawn:=by
 obtain⟨n,hn⟩:=h;have k:=Zz p n m;rw [hn] at k;exact k
theorem Yj {P:Program} {f:FuncId} {args:Array Value} {R:Ending->World->Prop} (h:Calls P f args w R) (hr:∀ e w',R e w'->e≠.outgrown):Calls P f args w fun e w'=>R e w'/\w.drawn<=w'.drawn:=by
 intro cs;obtain⟨e,w',fr,h1,h2,h3⟩:=h cs;refine⟨e,w',fr,⟨h1,?_⟩,h2,h3⟩;cases e with
 | outgrown=>exact absurd rfl (hr _ _ h1)
 | returned v=>exact yN h2
 | panicked c=>exact yN h2
end Go.Proofs.YtphpkhoeplcedaaGreat
namespace Go.Proofs.YtphpkhoeplcedaaGreat
open Go.RowKit Go.Shelf
variable {w w':World} {N n lo hi k g i c d K:Nat} {v s:Value} {G:Grd} {l:List Nat} {x:Rat} {R:Raw} {A:Option Addr}
def Jy:Go.Shelf.Ren:=⟨fun | 6=>168 | 15=>210 | 14=>209 | 28=>236 | 29=>237 | 20=>228 | 21=>229 | 22=>230 | 23=>231 | 24=>232 | 25=>233 | 26=>234 | 27=>235 | 46=>242 | 47=>243 | 48=>244 | 49=>245 | 50=>246 | 57=>247 | n=>n,fun | 22=>45 | 24=>29 | 25=>113 | 3=>3 | 39=>241 | 0=>0 | 53=>152 | 55=>172 | 4=>4 | 46=>256 | 45=>255 | 50=>195 | 5=>5 | 9=>9 | 66=>267 | 70=>271 | 76=>273 | 77=>274 | n=>n,fun | n=>n⟩
theorem q3C:Go.Proofs.SlLaysF0.n6 Tryz.prog Jy:={
 mixed:=by kernel_rfl,
 f6:=⟨Tryz.f168.name,by decide,Tryz.func168.trans (congrArg some (by kernel_rfl))⟩,
 f14:=⟨Tryz.f209.name,by decide,Tryz.func209.trans (congrArg some (by kernel_rfl))⟩,
 f15:=Tryz.func210.trans (congrArg some (by kernel_rfl)),
 f20:=⟨Tryz.f228.name,by decide,Tryz.func228.trans (congrArg some (by kernel_rfl))⟩,
 f21:=⟨Tryz.f229.name,by decide,Tryz.func229.trans (congrArg some (by kernel_rfl))⟩,
 f22:=⟨Tryz.f230.name,by decide,Tryz.func230.trans (congrArg some (by kernel_rfl))⟩,
 f23:=⟨Tryz.f231.name,by decide,Tryz.func231.trans (congrArg some (by kernel_rfl))⟩,
 f24:=⟨Tryz.f232.name,by decide,Tryz.func232.trans (congrArg some (by kernel_rfl))⟩,
 f25:=⟨Tryz.f233.name,by decide,Tryz.func233.trans (congrArg some (by kernel_rfl))⟩,
 f26:=⟨Tryz.f234.name,by decide,Tryz.func234.trans (congrArg some (by kernel_rfl))⟩,
 f27:=⟨Tryz.f235.name,by decide,Tryz.func235.trans (congrArg some (by kernel_rfl))⟩,
 f28:=Tryz.func236.trans (congrArg some (by kernel_rfl)),
 f29:=Tryz.func237.trans (congrArg some (by kernel_rfl)),
 f46:=⟨Tryz.f242.name,by decide,Tryz.func242.trans (congrArg some (by kernel_rfl))⟩,
 f47:=Tryz.func243.trans (congrArg some (by kernel_rfl)),
 f48:=Tryz.func244.trans (congrArg some (by kernel_rfl)),
 f49:=⟨Tryz.f245.name,by decide,Tryz.func245.trans (congrArg some (by kernel_rfl))⟩,
 f50:=⟨Tryz.f246.name,by decide,Tryz.func246.trans (congrArg some (by kernel_rfl))⟩,
 f57:=⟨Tryz.f247.name,by decide,Tryz.func247.trans (congrArg some (by kernel_rfl))⟩,
 t0:=Tryz.underlying0,
 a0:=Tryz.isAgg0,
 z0:=Tryz.sizeOf0,
 v0:=Tryz.zeroValue0,
 t3:=Tryz.underlying3,
 a3:=Tryz.isAgg3,
 z3:=Tryz.sizeOf3,
 v3:=Tryz.zeroValue3,
 t4:=Tryz.underlying4,
 a4:=Tryz.isAgg4,
 z4:=Tryz.sizeOf4,
 v4:=Tryz.zeroValue4,
 t5:=Tryz.underlying5,
 a5:=Tryz.isAgg5,
 z5:=Tryz.sizeOf5,
 v5:=Tryz.zeroValue5,
 t9:=Tryz.underlying9,
 a9:=Tryz.isAgg9,
 z9:=Tryz.sizeOf9,
 v9:=Tryz.zeroValue9,
 t22:=Tryz.underlying45,
 a22:=Tryz.isAgg45,
 z22:=Tryz.sizeOf45,
 v22:=Tryz.zeroValue45,
 t25:=Tryz.underlying113,
 a25:=Tryz.isAgg113,
 z25:=Tryz.sizeOf113,
 v25:=Tryz.zeroValue113,
 t39:=Tryz.underlying241,
 a39:=Tryz.isAgg241,
 z39:=Tryz.sizeOf241,
 v39:=Tryz.zeroValue241,
 t45:=Tryz.underlying255,
 a45:=Tryz.isAgg255,
 z45:=Tryz.sizeOf255,
 v45:=Tryz.zeroValue255,
 t46:=Tryz.underlying256,
 a46:=Tryz.isAgg256,
 z46:=Tryz.sizeOf256,
 v46:=Tryz.zeroValue256,
 t50:=Tryz.underlying195,
 a50:=Tryz.isAgg195,
 z50:=Tryz.sizeOf195,
 v50:=Tryz.zeroValue195,
 t53:=Tryz.underlying152,
 a53:=Tryz.isAgg152,
 z53:=Tryz.sizeOf152,
 v53:=Tryz.zeroValue152,
 t55:=Tryz.underlying172,
 a55:=Tryz.isAgg172,
 z55:=Tryz.sizeOf172,
 v55:=Tryz.zeroValue172,
 t66:=Tryz.underlying267,
 a66:=Tryz.isAgg267,
 z66:=Tryz.sizeOf267,
 v66:=Tryz.zeroValue267,
 t70:=Tryz.underlying271,
 a70:=Tryz.isAgg271,
 z70:=Tryz.sizeOf271,
 v70:=Tryz.zeroValue271,
 t76:=Tryz.underlying273,
 a76:=Tryz.isAgg273,
 z76:=Tryz.sizeOf273,
 v76:=Tryz.zeroValue273,
 t77:=Tryz.underlying274,
 a77:=Tryz.isAgg274,
 z77:=Tryz.sizeOf274,
 v77:=Tryz.zeroValue274 }
open Go.Sort
theorem q2m {W:World} (h:Ext W w') (hd:W.drawn<=w'.drawn):∃ q os',w'=grow (W.drewN q) os':=by
 have hb:Below W.heap.size W w':=h;refine⟨w'.drawn - W.drawn,w'.heap.extract W.heap.size w'.heap.size,?_⟩
 have hheap:w'.heap=W.heap ++ w'.heap.extract W.heap.size w'.heap.size:=by
  apply Array.ext_getElem?
  intro i
  rcases Nat.lt_or_ge i W.heap.size with hi | hi
  ·rw [Array.getElem?_append_left hi];exact hb.block i hi
  ·rw [Array.getElem?_append_right hi,Array.getElem?_extract]
   split
   ·congr 1; omega
   ·rename_i h9
    rw [Array.getElem?_eq_none];omega
 have hdr:w'.drawn=W.drawn+(w'.drawn - W.drawn):=by omega
 show w'={ heap:=W.heap ++ w'.heap.extract W.heap.size w'.heap.size,tape:=W.tape,drawn:=W.drawn+(w'.drawn - W.drawn),os:=W.os,output:=W.output }
 cases w' with
 | mk heap tape drawn os output =>
  simp only at hheap hdr;rw [<-hheap,<-hdr];have h1:=hb.os;have h2:=hb.tape;have h3:=hb.output;simp only at h1 h2 h3;rw [h1,h2,h3]
structure RQ (N:Nat) (w0:World) where
 b:Bool
 A:Option Addr
 n:Nat
 c:Nat
 A':Option Addr
 n':Nat
 c':Nat
 q:Rat
 h:qm N w0 (.agg #[.bool b,.slice A n c,.bool false,.slice A' n' c']) q
 z:Sz q
def RQ.enc {w0:World} (x:RQ N w0):List Value:=[.bool x.b,.slice x.A x.n x.c,.bool false,.slice x.A' x.n' x.c']
def RQ.cf {w0:World} (x y:RQ N w0):Int:=Va x.q y.q
theorem RQ.lt {w0:World} (x y:RQ N w0):ltOf RQ.cf x y=decide (x.q < y.q):=by
 unfold ltOf RQ.cf
 by_cases h:x.q < y.q
 ·rw [q_t h,q_t (cmp_neg.2 h)]
 ·rw [q_f h,q_f (fun h'=>h (cmp_neg.1 h'))]
theorem RQ.swo {w0:World}:SWO (ltOf (RQ.cf (N:=N) (w0:=w0))) where
 irrefl x:=by rw [RQ.lt]; exact q_f (by grind)
 trans x y z h1 h2:=by rw [RQ.lt] at *; simp only [decide_eq_true_eq] at *; grind
 ntrans x y z h1 h2:=by rw [RQ.lt] at *; simp only [decide_eq_false_iff_not] at *; grind
theorem RQ.of {o:Nat} {q:Rat} (h:At4 N w g o (raw q)) (hz:Sz q):∃ r:RQ N w,r.q=q/\w.cell? ⟨g,o,none⟩=some (.bool r.b)/\w.cell? ⟨g,o+1,none⟩=some (.slice r.A r.n r.c)/\w.cell? ⟨g,o+2,none⟩=some (.bool false)/\w.cell? ⟨g,o+3,none⟩=some (.slice r.A' r.n' r.c'):=by
 obtain⟨b,A,n,c,A',n',c',h0,h1,h2,h3,hb,y,z⟩:=h.open;exact⟨⟨b,A,n,c,A',n',c',q,qm.mk hb y z,hz⟩,rfl,h0,h1,h2,h3⟩
theorem q0H (w:World) (m:Nat) (lo hi:Nat):Chg lo hi w (Sort.ahead w m):=⟨rfl,rfl,rfl,q_r,fun _ _ _=>rfl⟩
theorem VD {f:Array Value->Array Value} (h:k≠g):(mapBlock w g f).heap[k]?=w.heap[k]?:=by
 show (w.heap.modify g (onCells f))[k]?=_
 rw [Array.getElem?_modify,if_neg (fun e=>h e.symm)]
theorem WX {f:Array Value->Array Value} {cs:Array Value} {t:TypeId} {fr:Nat×Nat} (h:w.heap[g]?=some (.cells cs t fr)):(mapBlock w g f).heap[g]?=some (.cells (f cs) t fr):=by
 show (w.heap.modify g (onCells f))[g]?=_
 rw [Array.getElem?_modify,if_pos rfl,h]
 rfl
theorem V3 (w:World) (os:Array Obj) (lo hi:Nat):Chg lo hi w (grow w os):=⟨rfl,rfl,rfl,by show w.heap.size<=(w.heap ++ os).size; simp,fun k hk _=>by show (w.heap ++ os)[k]?=_; rw [Array.getElem?_append_left hk]⟩
theorem Xl {α:Type} [Inhabited α] (enc:α->List Value) (k:Nat) (w:World) (g off m:Nat) (d:Array α) (os:Array Obj) (hnu:NoU w g):Chg g (g+1) w (sortWorldK enc k w g off m d os):=by
 refine ((q0H w m _ _).trans ?_).trans (V3 _ os _ _);refine⟨rfl,rfl,rfl,?_,fun j hj h=>VD ?_⟩
 ·show _<=((Sort.ahead w m).heap.modify g _).size
  simp
 ·rintro rfl
  rcases h with h | h | ⟨cs,fr,h⟩
  ·omega
  ·omega
  ·exact hnu cs fr h
def q4o (N g cap n:Nat) (x:Nat->Rat) (w:World) (e:Ending) (w':World):Prop :=
 e=.returned (.tuple #[])/\∃ y:Nat->Rat,xR N w' g cap n y/\Chg g (g+1) w w'/\(∀ i,i < n->∃ j,j < n/\y i=x j)/\(∀ j,j < n->∃ i,i < n/\x j=y i)/\∀ i j,i < j->j < n->y i<=y j
theorem q4 (i r:Nat) (hr:r < 4):(i*4+r) / 4=i/\(i*4+r) % 4=r:=by omega
theorem Vq {cap:Nat} {x:Nat->Rat} (h:xR N w g cap n x) (hz:∀ i,i < n->Sz (x i)) (hn:0 < n) (hn2:n<=100000) :
  Calls Tryz.prog 168 #[.slice (some ⟨g,0,none⟩) n cap,.func (.func 60) #[] #[]] w (q4o N g cap n x w):=by
 have hat:=h.2.2.2
 let E:RQ N w->List Value:=RQ.enc
 have hNg:N<=g:=h.1;have hglt:g < w.heap.size:=h.lt;have hnu:=h.noU
 have hch:∀ i:Fin n,∃ r:RQ N w,r.q=x i.1/\w.cell? ⟨g,i.1*4,none⟩=some (.bool r.b)/\w.cell? ⟨g,i.1*4+1,none⟩=some (.slice r.A r.n r.c)/\w.cell? ⟨g,i.1*4+2,none⟩=some (.bool false)/\w.cell? ⟨g,i.1*4+3,none⟩=some (.slice r.A' r.n' r.c') :=
  fun i=>RQ.of (hat i.1 i.2) (hz i.1 i.2)
 obtain⟨R,hR⟩:=Classical.axiomOfChoice hch
 haveI:Inhabited (RQ N w):=⟨R ⟨0,hn⟩⟩
 let d:Array (RQ N w):=Array.ofFn R
 have hds:d.size=n:=Array.size_ofFn
 have hdg:∀ i (hi:i < n),d[i]! = R ⟨i,hi⟩:=fun i hi=>by
  rw [getElem!_pos d i (by rw [hds]; exact hi)];exact Array.getElem_ofFn _
 have hH:HoldsK E 4 w g 0 d:=by
  intro j hj;rw [size_flatK,hds] at hj;have hi:j / 4 < n:=by omega
  have h9:=hR ⟨j / 4,hi⟩;refine⟨?_,by rw [Nat.zero_add]; exact h.frozen j⟩;rw [get_flatK _ _ _ _ (by rw [hds]; exact hj),hdg _ hi,Nat.zero_add];have hr:j % 4=0\/j % 4=1\/j % 4=2\/j % 4=3:=by omega
  obtain⟨i,hid⟩:∃ i,i=j / 4:=⟨_,rfl⟩
  rcases hr with hr | hr | hr | hr
  ·have e:j=j / 4*4:=by omega
   rw [hr]; rw (config:={ occs:=.pos [1] }) [e]; exact h9.2.1
  ·have e:j=j / 4*4+1:=by omega
   rw [hr]; rw (config:={ occs:=.pos [1] }) [e]; exact h9.2.2.1
  ·have e:j=j / 4*4+2:=by omega
   rw [hr]; rw (config:={ occs:=.pos [1] }) [e]; exact h9.2.2.2.1
  ·have e:j=j / 4*4+3:=by omega
   rw [hr]; rw (config:={ occs:=.pos [1] }) [e]; exact h9.2.2.2.2
 have hcmp:CmpLays Tryz.prog 60 #[] E 4 RQ.cf g 0 d.size w:=by
  intro m os dk hdk u v;have hC:=Xl E 4 w g 0 m dk os hnu;have hc:=jX (u.h.chg hC hNg) (v.h.chg hC hNg) u.z v.z;refine (Yj hc (fun e w' h9=>by obtain⟨rfl,-⟩:=h9; exact Ending.noConfusion)).mono ?_;rintro e w' ⟨⟨rfl,e1⟩,hdr⟩;exact⟨rfl,q2m e1 hdr⟩
 have hcon:=AnyQ.slices_SortFunc q3C 4 Tryz.isAgg29 Tryz.sizeOf29 E (fun _=>rfl) (fun x v hv=>by simp [E,RQ.enc] at hv; rcases hv with rfl | rfl | rfl | rfl <;> rfl) RQ.cf RQ.swo 60 #[] g 0 cap d w (enters_of Tryz.func60 (by kernel_rfl) rfl) hcmp hH hglt (by omega);rw [hds] at hcon;refine Calls.mono hcon ?_;rintro e w' ⟨rfl,d',m,os,⟨hp1,-,hp2⟩,hs,rfl⟩;have hd':d'.size=n:=by rw [hp1,hds]
 have hC:=Xl E 4 w g 0 m d' os hnu;have hHK:=holdsK_sortWorldK_c E 4 w g 0 d d' m os hH hglt hp1
 have hperm:d'.toList.Perm d.toList:=by
  have e1:d'.extract 0 n=d':=by rw [<-hd']; simp
  have e2:d.extract 0 n=d:=by rw [<-hds]; simp
  rw [e1,e2] at hp2;exact hp2
 refine⟨rfl,fun i=>(d'[i]!).q,⟨hNg,h.2.1,?_,fun i hi=>?_⟩,hC,fun i hi=>?_,fun j hj=>?_,fun i j hij hj=>?_⟩
 ·obtain⟨cs,hcs,hcz⟩:=h.2.2.1;refine⟨putCells id 0 (flatK E 4 d') cs,?_,by unfold putCells; rw [Array.size_mapIdx]; exact hcz⟩;have h1:(Sort.ahead w m).heap[g]?=some (.cells cs 29 (0,0)):=hcs;have h2:(putRowK E 4 (Sort.ahead w m) g 0 d').heap[g]?=some (.cells (putCells id 0 (flatK E 4 d') cs) 29 (0,0)):=WX h1
  show (grow (putRowK E 4 (Sort.ahead w m) g 0 d') os).heap[g]?=_
  rw [<-h2];exact (V3 (putRowK E 4 (Sort.ahead w m) g 0 d') os 0 0).block g (qJ h2) (.inr (.inl (Nat.zero_le _)))
 ·have hcell:∀ r,r < 4->(sortWorldK E 4 w g 0 m d' os).cell? ⟨g,i*4+r,none⟩=some ((E d'[i]!)[r]!):=by
   intro r hr;have h9:=(hHK (i*4+r) (by rw [size_flatK,hd']; omega)).1;rw [Nat.zero_add,get_flatK _ _ _ _ (by rw [hd']; omega),(q4 i r hr).1,(q4 i r hr).2] at h9;exact h9
  have hg:=(d'[i]!).h.chg hC hNg;obtain⟨s,t,e,g1,g2⟩:=hg;injection e with e
  simp only [Array.mk.injEq,List.cons.injEq,and_true] at e;obtain⟨e0,e1,e2,e3⟩:=e;refine⟨s,t,?_,?_,?_,?_,g1,g2⟩
  ·rw [<-e0]; exact hcell 0 (by omega)
  ·rw [<-e1]; exact hcell 1 (by omega)
  ·exact hcell 2 (by omega)
  ·rw [<-e3]; exact hcell 3 (by omega)
 ·have hm:d'[i]!∈d.toList:=by
   refine hperm.mem_iff.1 ?_;rw [getElem!_pos d' i (by omega)];exact Array.getElem_mem_toList _
  obtain⟨j,hj,hje⟩:=List.getElem_of_mem hm;have hj':j < n:=by simpa [hds] using hj
  refine⟨j,hj',?_⟩
  show (d'[i]!).q=x j
  rw [<-hje,Array.getElem_toList,<-getElem!_pos d j (by omega),hdg j hj'];exact (hR ⟨j,hj'⟩).1
 ·have hm:d[j]!∈d'.toList:=by
   refine hperm.mem_iff.2 ?_;rw [getElem!_pos d j (by omega)];exact Array.getElem_mem_toList _
  obtain⟨i,hi,hie⟩:=List.getElem_of_mem hm;have hi':i < n:=by simpa [hd'] using hi
  refine⟨i,hi',?_⟩;have h9:=(hR ⟨j,hj⟩).1;rw [<-hdg j hj,<-hie,Array.getElem_toList,<-getElem!_pos d' i (by omega)] at h9;exact h9.symm
 ·have:=hs i j (Nat.zero_le _) hij hj;rw [RQ.lt] at this;have:=of_decide_eq_false this
  grind
end Go.Proofs.YtphpkhoeplcedaaGreat
